import Derived.Test.YtegepanmkjemjaaGreatv35
import Derived.Test.YtegepanmkjemjaaGreatv01
import Derived.Laws.StructEq
set_option linter.unusedVariables false
namespace Go.Proofs.YtegepanmkjemjaaGreat
open Go.Eng C12
structure PF (i:Nat) (p:Pair) (v:Verb):Prop where
 good:bU p
 vs:∃ vs',p.verbs=v::vs'
 cl:p.client=(i:Int)
 inc:p.inc=1
 dry:v.kind=2→p.words=[]
def kV (E:Env) (ns:List aO) (S:Nat→CS) (i m:Nat) (p:Pair) (x:aO) (v:Verb) (q:Nat) (s:CS):Prop:=
 ((p.step x).2.2=none→hU E (ns.set m (p.step x).2.1) (updS S i s))∧∀ d,(p.step x).2.2=some d→d.code=0∧(d.words.length:Int)=v.v.rets∧hU E (ns.set m (p.step x).2.1) (updS S i { s with dn:=upd s.dn q d })
theorem NFr.idle {a k:Nat} {x x':aO} (h:NFr a k x x') (h1:38≤a) (h2:a+k≤768):(∀ l:Nat,96≤l→∀ k,k<8→x'.get (l * 8+k)=x.get (l * 8+k))∧∀ c:Nat,c<6→x'.get (32+c)=x.get (32+c):=
 ⟨λl hl k hk=>h.get _ (by omega),λc hc=>h.get _ (by omega)⟩
section
variable {E:Env} {ns:List aO} {S:Nat→CS} {i m q:Nat} {p:Pair} {x:aO} {v:Verb} {dn:Nat→Option Done} {D:List Done}
theorem yr (hE:fE E) (h:hU E ns S) (hi:E.on i) (hx:ns[m]?=some x) {a:Int} {ws:List Int} (hg:VGo E.n E.L (wV m a ws)) (hp:PF i p (wV m a ws)) (h1:38≤a) (h2:a+ws.length≤768) {ph:Nat} (hS:S i=⟨ph,dn,D⟩)
  (hL:∀ dn' p,Lk (E.J i) i ⟨ph,dn',D⟩ p↔Lk (E.J i) i (S i) p) (hN:∀ dn' m p,Nw (E.J i) ⟨ph,dn',D⟩ m p↔Nw (E.J i) (S i) m p) (hK:∀ dn' m,Ck (E.J i) i ⟨ph,dn',D⟩ m↔Ck (E.J i) i (S i) m) :
  kV E ns S i m p x (wV m a ws) q ⟨ph,dn,D⟩:=by
 obtain ⟨vs',hv⟩:=hp.vs
 have hf:=h.fix m x hx
 have hj:=hE.job i hi
 have hLn:=hE.L
 obtain ⟨g1,g2⟩:=FV hE.L.1 hg hE.n.2 hf hj.i6 hp.cl hp.inc hp.good hv (hp.dry rfl) (by omega) (by omega)
 obtain ⟨g3,g4⟩:=g1.idle (by omega) (by omega)
 refine ⟨λ_=>h.idle hi hx (g1.fix hf (by omega)) (λl hl _=>g3 l hl) g4 hE (λp _=>hL dn p) (λp _ m _=>hN dn m p) λm _=>hK dn m,λd hd=>?_⟩
 have:=g2 d hd
 subst this
 exact ⟨rfl,rfl,h.idle hi hx (g1.fix hf (by omega)) (λl hl _=>g3 l hl) g4 hE (λp _=>hL _ p) (λp _ m _=>hN _ m p) λm _=>hK _ m⟩
theorem C4 (hE:fE E) (h:hU E ns S) (hi:E.on i) (hx:ns[m]?=some x) (hS:S i=⟨0,dn,D⟩) (hv:(fI (E.J i))[q]?=some v) (hm:v.node.toNat=m) (hp:PF i p v):kV E ns S i m p x v q ⟨0,dn,D⟩:=by
 have hj:=hE.job i hi
 rw [hj.bodyE] at hv
 obtain ⟨hq,rfl⟩:=rW hv
 have hmq:q=m:=hm
 subst hmq
 have hl:=n8 (E.J i).seq (E.J i).writes
 have hf:=hj.few
 have h6:=hj.i6
 refine yr hE h hi hx (rh hE hj hq).1 hp (by omega) (by omega) hS (λdn' p=>?_) (λdn' m p=>?_) (λdn' m=>?_)<;>rw [hS]<;>exact Iff.rfl
theorem C5 (hE:fE E) (h:hU E ns S) (hi:E.on i) (hx:ns[m]?=some x) (hS:S i=⟨2,dn,D⟩) (hv:(ja (E.J i))[q]?=some v) (hm:v.node.toNat=m) (hp:PF i p v):kV E ns S i m p x v q ⟨2,dn,D⟩:=by
 have hj:=hE.job i hi
 rw [hj.markE] at hv
 obtain ⟨hq,rfl⟩:=rW hv
 have hmq:q=m:=hm
 subst hmq
 have h6:=hj.i6
 refine yr hE h hi hx (rh hE hj hq).2 hp (by omega) (by simp;omega) hS (λdn' p=>?_) (λdn' m p=>?_) (λdn' m=>?_)<;>rw [hS]<;>exact Iff.rfl
theorem C6 (hE:fE E) (h:hU E ns S) (hi:E.on i) (hx:ns[m]?=some x) (hS:S i=⟨1,dn,D⟩) (hv:(bF (E.J i))[q]?=some v) (hq:dn q=none) (hm:v.node.toNat=m) (hp:PF i p v):kV E ns S i m p x v q ⟨1,dn,D⟩:=by
 have hj:=hE.job i hi
 have hf:=h.fix m x hx
 have hn1:=hE.n
 obtain ⟨vs',hpv⟩:=hp.vs
 have hlk:∀ (d:Done) (p':aG),Lk (E.J i) i ⟨1,upd dn q d,D⟩ p'↔Lk (E.J i) i (S i) p'∨(v=cV (p'.Line * 8) p'.Head (fC p'.Head i)∧gH d=p'.Head):=λd p'=>by
  rw [hS]
  constructor
  ·rintro ⟨r,e,h1,h2,h3⟩
   by_cases hr:r=q
   ·subst hr
    have h2:upd dn r d r=some e:=h2
    rw [lF] at h2
    cases h2
    rw [hv] at h1
    cases h1
    exact .inr ⟨rfl,h3⟩
   ·have h2:upd dn q d r=some e:=h2
    rw [mX hr] at h2
    exact .inl ⟨r,e,h1,h2,h3⟩
  ·rintro (⟨r,e,h1,h2,h3⟩ | ⟨h1,h2⟩)
   ·have hr:r≠q:=λe2=>by rw [e2] at h2;have h2:dn q=some e:=h2;rw [hq] at h2;cases h2
    exact ⟨r,e,h1,by show upd dn q d r=some e;rw [mX hr];exact h2,h3⟩
   ·exact ⟨q,d,by rw [←h1];exact hv,lF _ _ _,h2⟩
 have hnw:∀ (d:Done) (m':Nat) (p':aG),Nw (E.J i) ⟨1,upd dn q d,D⟩ m' p'↔Nw (E.J i) (S i) m' p':=λd m' p'=>by rw [hS];exact Iff.rfl
 have hck:∀ (d:Done) (m':Nat),Ck (E.J i) i ⟨1,upd dn q d,D⟩ m'↔Ck (E.J i) i (S i) m':=λd m'=>by rw [hS];exact Iff.rfl
 rcases lV hj hn1.1 hv with ⟨p0,hp0,_,rfl⟩ | ⟨s,hs,rfl⟩
 ·have hm0:m=0:=hm.symm
  subst hm0
  obtain ⟨e,l1,l2⟩:=hj.pl hp0
  have hst:=Bg (pK hE hj hp0 _ _) hn1.2 hf hj.i6 hp.cl hp.inc hp.good hpv (by omega) (by omega)
  have ha:(p0.Line * 8).toNat=p0.Line.toNat * 8:=by omega
  rw [ha] at hst
  unfold kV
  rw [hst]
  refine ⟨λe=>(by cases e),λd hd=>?_⟩
  cases hd
  refine ⟨rfl,rfl,?_⟩
  have hw:gH ⟨0,[x.get (p0.Line.toNat * 8)]⟩=x.get (p0.Line.toNat * 8):=rfl
  have hlt:p0.Line.toNat * 8<x.words.length:=by rw [hf.len];omega
  by_cases hh:x.get (p0.Line.toNat * 8)=p0.Head
  ·
   have hcas:x.cas (p0.Line * 8) p0.Head (fC p0.Head i)={ x with words:=x.words.set (p0.Line.toNat * 8) (fC p0.Head i) }:=by
    unfold aO.cas
    rw [ha,if_pos hh]
   show hU E (ns.set 0 (x.cas (p0.Line * 8) p0.Head (fC p0.Head i))) _
   rw [hcas]
   have hget:=A8 hlt (fC p0.Head i)
   obtain ⟨hbase,hvac⟩:=h.vacant hE hx l1 l2 (hh.trans (hj.head p0 hp0))
   have hlk0:Lk (E.J i) i ⟨1,upd dn q ⟨0,[x.get (p0.Line.toNat * 8)]⟩,D⟩ p0:=(hlk _ _).2 (.inr ⟨rfl,hw.trans hh⟩)
   refine h.page hE hi hp0 hx ?_ (λl h1 h2 hne k hk=>?_) (λc hc=>?_) (λp hpm hne=>?_) (λe=>absurd rfl e) (λp _ m' _ _=>hnw _ m' p) (λm' _=>hck _ m') (λc=>c.elim) (λ_ _=>⟨?_,λk hk1 hk8=>?_⟩) (λ_ hno=>absurd hlk0 (hno rfl)) (λi' hi' hne p' hp' hl=>?_) (λp _ _ c=>c.elim)
   ·refine NFr.fix (n:=x) (a:=p0.Line.toNat * 8) (k:=1) ⟨by simp,rfl,λi' hi'=>?_⟩ hf (by omega)
    rw [hget,if_neg (by omega)]
   ·rw [hget,if_neg (by omega)]
   ·rw [hget,if_neg (by omega)]
   ·rw [hlk]
    refine ⟨λc=>c.resolve_right λc=>hne (vh hj hpm hp0 c.1.symm),.inl⟩
   ·rw [hget,if_pos rfl]
   ·rw [hget,if_neg (by omega)]
    exact hbase k hk8
   ·exact hvac i' hi' p' hp' hl
  ·
   have hcas:x.cas (p0.Line * 8) p0.Head (fC p0.Head i)=x:=by
    unfold aO.cas
    rw [ha,if_neg hh]
   show hU E (ns.set 0 (x.cas (p0.Line * 8) p0.Head (fC p0.Head i))) _
   rw [hcas]
   refine h.idle hi hx hf (λ_ _ _ _ _=>rfl) (λ_ _=>rfl) hE (λp hpm=>?_) (λp _ m' _=>hnw _ m' p) λm' _=>hck _ m'
   rw [hlk]
   refine ⟨λc=>c.resolve_right λc=>hh ?_,.inl⟩
   have:=vh hj hpm hp0 c.1.symm
   subst this
   exact hw.symm.trans c.2
 ·have hm0:m=0:=hm.symm
  subst hm0
  obtain ⟨l,e,l1,l2⟩:=hj.rline s hs
  have hst:=DD (yq hE hj hs) hn1.2 hf hj.i6 hp.cl hp.inc hp.good hpv (by omega) (by omega) (by omega)
  unfold kV
  rw [hst]
  refine ⟨λe=>(by cases e),λd hd=>?_⟩
  cases hd
  refine ⟨rfl,rfl,h.idle hi hx hf (λ_ _ _ _ _=>rfl) (λ_ _=>rfl) hE (λp hpm=>?_) (λp _ m' _=>hnw _ m' p) λm' _=>hck _ m'⟩
  rw [hlk]
  exact ⟨λc=>c.resolve_right λc=>EN c.1.symm,.inl⟩
theorem Bh (hE:fE E) (h:hU E ns S) (hi:E.on i) (hx:ns[m]?=some x) (hv:(bF (E.J i))[q]?=some v) (hm:v.node.toNat=m) (hp:PF i p v):∀ d,(p.step x).2.2=some d→gH d=x.get v.at_.toNat:=by
 have hj:=hE.job i hi
 have hf:=h.fix m x hx
 have hn1:=hE.n
 obtain ⟨vs',hpv⟩:=hp.vs
 rcases lV hj hn1.1 hv with ⟨p0,hp0,_,rfl⟩ | ⟨s,hs,rfl⟩
 ·obtain ⟨e,l1,l2⟩:=hj.pl hp0
  have hst:=Bg (pK hE hj hp0 _ _) hn1.2 hf hj.i6 hp.cl hp.inc hp.good hpv (by omega) (by omega)
  rw [hst]
  intro d hd
  cases hd
  rfl
 ·obtain ⟨l,e,l1,l2⟩:=hj.rline s hs
  have hst:=DD (yq hE hj hs) hn1.2 hf hj.i6 hp.cl hp.inc hp.good hpv (by omega) (by omega) (by omega)
  rw [hst]
  intro d hd
  cases hd
  rfl
theorem Bi {j:CJob} (hj:cA E i j) (hn:1≤E.n) {r q:Nat} {p:aG} (hp:p ∈ j.writes) (hr:(bF j)[r]?=some (cV (p.Line * 8) p.Head (fC p.Head i))) (hq:(bF j)[q]?=some (cV (p.Line * 8) p.Head (fC p.Head i))):r=q:=by
 have hix:∀ {r:Nat},(bF j)[r]?=some (cV (p.Line * 8) p.Head (fC p.Head i))→j.writes[r]?=some p:=λ{r} hr=>by
  rcases lV hj hn hr with ⟨p',hp',h1,e⟩ | ⟨s,_,e⟩
  ·rw [vh hj hp hp' e]
   exact h1
  ·exact absurd e EN
 have hw:j.writes.Nodup:=by
  have:=hj.nodup
  unfold List.Nodup at this ⊢
  rw [List.pairwise_map] at this
  exact this.imp λh e=>h (by rw [e])
 exact (List.getElem?_inj (aP (hix hr)) hw).1 ((hix hr).trans (hix hq).symm)
theorem Bj (hE:fE E) (h:hU E ns S) (hone:E.ids=[i]) (hx:ns[0]?=some x) (hS:S i=⟨1,dn,D⟩) (hv:(bF (E.J i))[q]?=some v) (hq:dn q=none) {xw:Int} (hw:(ez (E.J i))[q]?=some xw):x.get v.at_.toNat=xw:=by
 have hi:E.on i:=by unfold Env.on;rw [hone];exact List.mem_singleton_self _
 have hj:=hE.job i hi
 have hn1:=hE.n
 have honly:∀ i',E.on i'→i'=i:=λi' h'=>by unfold Env.on at h';rw [hone] at h';exact List.mem_singleton.1 h'
 have hfree:∀ l:Nat,96≤l→l<E.L→(∀ p ∈ (E.J i).writes,p.Line.toNat=l→¬ Lk (E.J i) i (S i) p)→x.get (l * 8)=E.base l 0:=λl h1 h2 hno=>by
  have:=h.free l h1 h2 0 x hx (λi' hi' p hp hl=>by
   have e:=honly i' hi'
   subst e
   exact ⟨by rw [hS];exact λc=>c,λ_=>hno p hp hl⟩) 0 (by omega)
  rwa [Nat.add_zero] at this
 rcases lV hj hn1.1 hv with ⟨p0,hp0,hqp,rfl⟩ | ⟨s,hs,rfl⟩
 ·obtain ⟨e,l1,l2⟩:=hj.pl hp0
  rw [vj hj hqp] at hw
  cases hw
  have ha:(cV (p0.Line * 8) p0.Head (fC p0.Head i)).at_.toNat=p0.Line.toNat * 8:=by show (p0.Line * 8).toNat=_;omega
  rw [ha,hfree _ l1 l2 λp hp hl hlk=>?_]
  ·exact (hj.head p0 hp0).symm
  ·have:p=p0:=hj.uniq p hp p0 hp0 (by have:=(hj.pl hp).1;omega)
   subst this
   rw [hS] at hlk
   obtain ⟨r,d,h1,h2,_⟩:=hlk
   have:=Bi hj hn1.1 hp h1 hv
   subst this
   have h2:dn r=some d:=h2
   rw [hq] at h2
   cases h2
 ·obtain ⟨l,e,l1,l2⟩:=hj.rline s hs
  have ha:(rV (s.Line * 8)).at_.toNat=l * 8:=by show (s.Line * 8).toNat=_;omega
  rw [ha,hfree l l1 l2 λp hp hl _=>hj.rdis s hs p hp (by have:=(hj.pl hp).1;omega)]
  have hh:=hj.rhead s hs
  rw [e,Int.toNat_natCast] at hh
  rw [←hh]
  have hqw:(E.J i).writes.length≤q:=by
   rcases Nat.lt_or_ge q (E.J i).writes.length with g | g
   ·have:=rX hj hn1.1 (List.getElem?_eq_getElem g)
    rw [hv] at this
    cases this
   ·exact g
  have hv':=hv
  rw [hj.lockL hn1.1,List.getElem?_append_right (by simpa using hqw),List.length_map,List.getElem?_map] at hv'
  unfold ez at hw
  rw [List.getElem?_append_right (by simpa using hqw),List.length_map,List.getElem?_map] at hw
  cases hs2:(E.J i).reads[q - (E.J i).writes.length]? with
  |none=>rw [hs2] at hw;cases hw
  |some s2=>
   rw [hs2] at hw hv'
   simp only [Option.map_some,Option.some.injEq] at hw hv'
   have hl2:s2.Line=s.Line:=by
    unfold rV at hv'
    simp only [Verb.mk.injEq] at hv'
    omega
   rw [←hw,hj.rhead s hs,hj.rhead s2 (List.mem_of_getElem? hs2),hl2]
theorem C7 (hE:fE E) (h:hU E ns S) (hi:E.on i) (hx:ns[m]?=some x) (hS:S i=⟨5,dn,D⟩) (hv:(jc (E.J i) D)[q]?=some v) (hq:dn q=none) (hm:v.node.toNat=m) (hp:PF i p v):kV E ns S i m p x v q ⟨5,dn,D⟩:=by
 have hj:=hE.job i hi
 have hf:=h.fix m x hx
 have hn1:=hE.n
 obtain ⟨vs',hpv⟩:=hp.vs
 obtain ⟨_,p0,_,hp0,_,_,_,rfl⟩:=te hj hn1.1 (List.mem_of_getElem? hv)
 have hm0:m=0:=hm.symm
 subst hm0
 obtain ⟨e,l1,l2⟩:=hj.pl hp0
 have hst:=Bg (pK hE hj hp0 _ _) hn1.2 hf hj.i6 hp.cl hp.inc hp.good hpv (by omega) (by omega)
 have ha:(p0.Line * 8).toNat=p0.Line.toNat * 8:=by omega
 rw [ha] at hst
 unfold kV
 rw [hst]
 refine ⟨λe=>(by cases e),λd hd=>?_⟩
 cases hd
 refine ⟨rfl,rfl,?_⟩
 have hlt:p0.Line.toNat * 8<x.words.length:=by rw [hf.len];omega
 have hlk0:Lk (E.J i) i (S i) p0:=by rw [hS];exact ⟨q,hv,hq⟩
 obtain ⟨hh,hb⟩:=h.lock i hi p0 hp0 x hx hlk0
 have hcas:x.cas (p0.Line * 8) (fC p0.Head i) p0.Head={ x with words:=x.words.set (p0.Line.toNat * 8) p0.Head }:=by
  unfold aO.cas
  rw [ha,if_pos hh]
 show hU E (ns.set 0 (x.cas (p0.Line * 8) (fC p0.Head i) p0.Head)) _
 rw [hcas]
 have hget:=A8 hlt p0.Head
 have hpe:∀ (d:Done) (p:aG),Lk (E.J i) i ⟨5,upd dn q d,D⟩ p↔Lk (E.J i) i (S i) p∧qF i p≠qF i p0:=λd p=>by
  rw [hS]
  exact DB (zx hj hn1.1 D) hv d (qF i p)
 refine h.page hE hi hp0 hx ?_ (λl h1 h2 hne k hk=>?_) (λc hc=>?_) (λp hpm hne=>?_) (λe=>absurd rfl e) (λp _ m' _ _=>by rw [hS];exact Iff.rfl) (λm' _=>by rw [hS];exact Iff.rfl) (λc=>c.elim) (λ_ c=>absurd rfl ((hpe _ _).1 c).2) (λ_ _ k hk=>?_) (λi' hi' hne p' hp' hl=>?_) (λp _ _ c=>c.elim)
 ·refine NFr.fix (n:=x) (a:=p0.Line.toNat * 8) (k:=1) ⟨by simp,rfl,λi' hi'=>?_⟩ hf (by omega)
  rw [hget,if_neg (by omega)]
 ·rw [hget,if_neg (by omega)]
 ·rw [hget,if_neg (by omega)]
 ·rw [hpe]
  exact ⟨λc=>c.1,λc=>⟨c,λe=>hne (yn hj hpm hp0 e)⟩⟩
 ·rw [hget]
  by_cases hk0:k=0
  ·subst hk0
   rw [Nat.add_zero,if_pos rfl]
   exact hj.head p0 hp0
  ·rw [if_neg (by omega)]
   exact hb k (by omega) hk
 ·exact h.excl i i' hi hi' (λe=>hne e.symm) p0 hp0 p' hp' hl.symm (.inl hlk0)
theorem uf {L:Nat} {p0:aG} (hf:NFix L x) (l1:96≤p0.Line.toNat) (l2:p0.Line.toNat<L):NFix L (x.write (p0.Line.toNat * 8) (appL p0))∧(∀ l:Nat,96≤l→l<L→l≠p0.Line.toNat→∀ k,k<8→(x.write (p0.Line.toNat * 8) (appL p0)).get (l * 8+k)=x.get (l * 8+k))∧
  (∀ c:Nat,c<6→(x.write (p0.Line.toNat * 8) (appL p0)).get (32+c)=x.get (32+c))∧∀ k,k<8→(x.write (p0.Line.toNat * 8) (appL p0)).get (p0.Line.toNat * 8+k)=(appL p0).getD k 0:=by
 have hlen:p0.Line.toNat * 8+(appL p0).length≤x.words.length:=by rw [hf.len,hH];omega
 have hget:=sW hlen
 refine ⟨NFr.fix (a:=p0.Line.toNat * 8) (k:=8) ⟨sV hlen,rfl,λi hi=>?_⟩ hf (by omega),λl h1 h2 hne k hk=>?_,λc hc=>?_,λk hk=>?_⟩
 ·rw [hget,hH,if_neg (by omega)]
 ·rw [hget,hH,if_neg (by omega)]
 ·rw [hget,hH,if_neg (by omega)]
 ·rw [hget,hH,if_pos (by omega)]
  congr 1
  omega
theorem tf {L:Nat} {seq:Int} (hf:NFix L x) (hL:98≤L) (h6:i<6):NFix L (x.write (32+i) [seq])∧(∀ l:Nat,96≤l→∀ k,k<8→(x.write (32+i) [seq]).get (l * 8+k)=x.get (l * 8+k))∧∀ c:Nat,c<6→(x.write (32+i) [seq]).get (32+c)=if c=i then seq else x.get (32+c):=by
 have hlen:32+i+[seq].length≤x.words.length:=by rw [hf.len];simp;omega
 have hget:=sW hlen
 refine ⟨NFr.fix (a:=32+i) (k:=1) ⟨sV hlen,rfl,λi' hi'=>?_⟩ hf (by omega),λl h1 k hk=>?_,λc hc=>?_⟩
 ·rw [hget,if_neg (by simp;omega)]
 ·rw [hget,if_neg (by simp;omega)]
 ·rw [hget]
  by_cases e:c=i
  ·subst e
   rw [if_pos (by simp),if_pos rfl,Nat.sub_self]
   rfl
  ·rw [if_neg (by simp;omega),if_neg e]
theorem C8 (hE:fE E) (h:hU E ns S) (hi:E.on i) (hx:ns[m]?=some x) (hS:S i=⟨3,dn,D⟩) (hv:(gM (E.J i))[q]?=some v) (hq:dn q=none) (hm:v.node.toNat=m) (hp:PF i p v):kV E ns S i m p x v q ⟨3,dn,D⟩:=by
 have hj:=hE.job i hi
 have hf:=h.fix m x hx
 have hn1:=hE.n
 obtain ⟨vs',hpv⟩:=hp.vs
 have hnw:∀ (d:Done) (m':Nat) (p':aG),Nw (E.J i) ⟨3,upd dn q d,D⟩ m' p'↔Nw (E.J i) (S i) m' p'∨pgV m' p'=v:=λd m' p'=>by rw [hS];exact yl hv hq d _
 have hck:∀ (d:Done) (m':Nat),Ck (E.J i) i ⟨3,upd dn q d,D⟩ m'↔Ck (E.J i) i (S i) m'∨ckV i (E.J i).seq m'=v:=λd m'=>by rw [hS];exact yl hv hq d _
 have hlk:∀ (d:Done) (p':aG),Lk (E.J i) i ⟨3,upd dn q d,D⟩ p'↔Lk (E.J i) i (S i) p':=λd p'=>by rw [hS];exact Iff.rfl
 have htrue:∀ p',Lk (E.J i) i (S i) p':=λp'=>by rw [hS];trivial
 obtain ⟨m',h1,h2,hvv⟩:=ta hj (List.mem_of_getElem? hv)
 rcases hvv with ⟨p0,hp0,rfl⟩ | rfl
 ·have hmm:m'=m:=hm
  subst hmm
  obtain ⟨e,l1,l2⟩:=hj.pl hp0
  have hst:=vk (ud hE hj h2 hp0) hn1.2 hf hj.i6 hp.cl hp.inc hp.good hpv (by omega) (by rw [hH];omega) (by rw [hH];omega)
  have ha:(p0.Line * 8).toNat=p0.Line.toNat * 8:=by omega
  rw [ha] at hst
  unfold kV
  rw [hst]
  refine ⟨λe=>(by cases e),λd hd=>?_⟩
  cases hd
  refine ⟨rfl,rfl,?_⟩
  obtain ⟨g1,g2,g3,g4⟩:=uf hf l1 l2
  refine h.page hE hi hp0 hx g1 g2 g3 (λp _ _=>hlk _ p) (λ_=>hlk _ p0) (λp hpm m'' _ hor=>?_) (λm'' _=>?_) (λ_=>g4) (λe=>absurd e (by omega)) (λhno=>absurd ((hnw _ _ _).2 (.inr rfl)) hno) (λi' hi' hne p' hp' hl=>?_) (λp hpm _ c=>?_)
  ·rw [hnw]
   refine ⟨λc=>c.resolve_right λc=>?_,.inl⟩
   obtain ⟨e1,e2⟩:=sZ hj hpm hp0 c
   rcases hor with g | g
   ·exact g e2
   ·exact g e1
  ·rw [hck]
   exact ⟨λc=>c.resolve_right λc=>wA hj hp0 _ c.symm,.inl⟩
  ·exact h.excl i i' hi hi' (λe=>hne e.symm) p0 hp0 p' hp' hl.symm (.inl (htrue p0))
  ·rcases (hnw _ _ _).1 c with c | c
   ·exact h.both i hi p hpm (htrue p) c
   ·have:=(sZ hj hpm hp0 c).1
    omega
 ·have hmm:m'=m:=hm
  subst hmm
  have h6:=hj.i6
  have hst:=vk (ue hE hj h2 (E.J i).seq) hn1.2 hf hj.i6 hp.cl hp.inc hp.good hpv (by omega) (by simp) (by simp;omega)
  have ha:(32+(i:Int)).toNat=32+i:=by omega
  rw [ha] at hst
  unfold kV
  rw [hst]
  refine ⟨λe=>(by cases e),λd hd=>?_⟩
  cases hd
  refine ⟨rfl,rfl,?_⟩
  obtain ⟨g1,g2,g3⟩:=tf (seq:=(E.J i).seq) hf hE.L.1 h6
  refine h.tick hi hx g1 (λl hl _=>g2 l hl) g3 hE (λp _=>hlk _ p) (λp hpm m'' _=>?_) λm'' _=>?_
  ·rw [hnw]
   exact ⟨λc=>c.resolve_right λc=>wA hj hpm _ c,.inl⟩
  ·rw [hck]
   exact ⟨λc=>c.symm.imp (λe=>Bd e) id,λc=>c.symm.imp id λe=>by rw [e]⟩
theorem C9 (hE:fE E) (h:hU E ns S) (hi:E.on i) (hx:ns[m]?=some x) (hS:S i=⟨4,dn,D⟩) (hv:(finV (E.J i))[q]?=some v) (hq:dn q=none) (hm:v.node.toNat=m) (hp:PF i p v):kV E ns S i m p x v q ⟨4,dn,D⟩:=by
 have hj:=hE.job i hi
 have hf:=h.fix m x hx
 have hn1:=hE.n
 obtain ⟨vs',hpv⟩:=hp.vs
 have hnw:∀ (d:Done) (m':Nat) (p':aG),Nw (E.J i) ⟨4,upd dn q d,D⟩ m' p'↔Nw (E.J i) (S i) m' p'∨pgV m' p'=v:=λd m' p'=>by
  rw [hS]
  show (1≤m'∨Ex (finV (E.J i)) (upd dn q d) (pgV m' p'))↔(1≤m'∨Ex (finV (E.J i)) dn (pgV m' p'))∨pgV m' p'=v
  rw [yl hv hq d,or_assoc]
 have hck:∀ (d:Done) (m':Nat),Ck (E.J i) i ⟨4,upd dn q d,D⟩ m'↔Ck (E.J i) i (S i) m'∨ckV i (E.J i).seq m'=v:=λd m'=>by
  rw [hS]
  show (1≤m'∨Ex (finV (E.J i)) (upd dn q d) (ckV i (E.J i).seq m'))↔(1≤m'∨Ex (finV (E.J i)) dn (ckV i (E.J i).seq m'))∨ckV i (E.J i).seq m'=v
  rw [yl hv hq d,or_assoc]
 have hlk:∀ (d:Done) (p':aG),Lk (E.J i) i ⟨4,upd dn q d,D⟩ p'↔Lk (E.J i) i (S i) p'∧pgV 0 p'≠v:=λd p'=>by
  rw [hS]
  exact DB (Bf hj hn1.1) hv d (pgV 0 p')
 rcases Be hj hn1.1 (List.mem_of_getElem? hv) with rfl | ⟨p0,hp0,rfl⟩
 ·have hmm:0=m:=hm
  subst hmm
  have h6:=hj.i6
  have hst:=vk (ue hE hj (by omega) (E.J i).seq) hn1.2 hf hj.i6 hp.cl hp.inc hp.good hpv (by omega) (by simp) (by simp;omega)
  have ha:(32+(i:Int)).toNat=32+i:=by omega
  rw [ha] at hst
  unfold kV
  rw [hst]
  refine ⟨λe=>(by cases e),λd hd=>?_⟩
  cases hd
  refine ⟨rfl,rfl,?_⟩
  obtain ⟨g1,g2,g3⟩:=tf (seq:=(E.J i).seq) hf hE.L.1 h6
  refine h.tick hi hx g1 (λl hl _=>g2 l hl) g3 hE (λp hpm=>?_) (λp hpm m'' _=>?_) λm'' _=>?_
  ·rw [hlk]
   exact ⟨λc=>c.1,λc=>⟨c,wA hj hpm _⟩⟩
  ·rw [hnw]
   exact ⟨λc=>c.resolve_right λc=>wA hj hpm _ c,.inl⟩
  ·rw [hck]
   exact ⟨λc=>c.symm.imp (λe=>Bd e) id,λc=>c.symm.imp id λe=>by rw [e]⟩
 ·have hmm:0=m:=hm
  subst hmm
  obtain ⟨e,l1,l2⟩:=hj.pl hp0
  have hst:=vk (ud hE hj (by omega) hp0) hn1.2 hf hj.i6 hp.cl hp.inc hp.good hpv (by omega) (by rw [hH];omega) (by rw [hH];omega)
  have ha:(p0.Line * 8).toNat=p0.Line.toNat * 8:=by omega
  rw [ha] at hst
  unfold kV
  rw [hst]
  refine ⟨λe=>(by cases e),λd hd=>?_⟩
  cases hd
  refine ⟨rfl,rfl,?_⟩
  obtain ⟨g1,g2,g3,g4⟩:=uf hf l1 l2
  have hlk0:Lk (E.J i) i (S i) p0:=by rw [hS];exact ⟨q,hv,hq⟩
  refine h.page hE hi hp0 hx g1 g2 g3 (λp hpm hne=>?_) (λe=>absurd rfl e) (λp hpm m'' _ hor=>?_) (λm'' _=>?_) (λ_=>g4) (λ_ c=>absurd rfl ((hlk _ _).1 c).2) (λhno=>absurd ((hnw _ _ _).2 (.inr rfl)) hno) (λi' hi' hne p' hp' hl=>?_) (λp hpm c1 c=>?_)
  ·rw [hlk]
   exact ⟨λc=>c.1,λc=>⟨c,λe=>hne (sZ hj hpm hp0 e).2⟩⟩
  ·rw [hnw]
   refine ⟨λc=>c.resolve_right λc=>?_,.inl⟩
   obtain ⟨e1,e2⟩:=sZ hj hpm hp0 c
   rcases hor with g | g
   ·exact g e2
   ·exact g e1
  ·rw [hck]
   exact ⟨λc=>c.resolve_right λc=>wA hj hp0 _ c.symm,.inl⟩
  ·exact h.excl i i' hi hi' (λe=>hne e.symm) p0 hp0 p' hp' hl.symm (.inl hlk0)
  ·obtain ⟨d1,d2⟩:=(hlk _ _).1 c1
   rcases (hnw _ _ _).1 c with c | c
   ·exact h.both i hi p hpm d1 c
   ·exact d2 c
end
end Go.Proofs.YtegepanmkjemjaaGreat
namespace Go.Mx
open Go.Eng
def yt (sz:TypeId→Nat) (f:TypeId→Option (List Bool)):List Field→Nat→Option (List Bool)
 | [],off=>some []
 |fd::fs,off=>match f fd.type with
  |some ks=>match fd.name != "_" && (Nat.beq fd.offset off && Nat.beq (sz fd.type) ks.length) with
   |true=>match yt sz f fs (off+ks.length) with
    |some r=>some (ks++r)
    |none=>none
   |false=>none
  |none=>none
def tO (P:Program):Nat→TypeId→Option (List Bool)
 | 0,_=>none
 |d+1,t=>match P.underlying t with
  |some (.int _)=>some [false]
  |some .bool=>some [true]
  |some (.struct fs)=>match P.stoodInHeld t with
   |true=>none
   |false=>yt (wW P) (tO P d) fs.toList 0
  |some (.array len e)=>match tO P d e with
   |some ks=>match Nat.beq (wW P e) ks.length with
    |true=>some (List.replicate len ks).flatten
    |false=>none
   |none=>none
  | _=>none
def cmp1:Bool→Value→Value→Prop
 |false,.int k _,.int j _=>k=j
 |true,.bool _,.bool _=>True
 | _,_,_=>False
def qH:List Bool→List Value→List Value→Prop
 | [],[],[]=>True
 |k::ks,x::xs,y::ys=>cmp1 k x y∧qH ks xs ys
 | _,_,_=>False
def eqv1:Value→Value→Bool
 | .int _ a,.int _ b=>a == b
 | .bool a,.bool b=>a == b
 | _,_=>true
def eqvL:List Value→List Value→Bool
 |x::xs,y::ys=>eqv1 x y && eqvL xs ys
 | _,_=>true
theorem qH.len:∀ {ks:List Bool} {xs ys:List Value},qH ks xs ys→xs.length=ks.length∧ys.length=ks.length
 | [],[],[],_=>⟨rfl,rfl⟩
 | _::_,_::_,_::_,⟨_,h⟩=>by simp [qH.len h]
theorem qH.split:∀ {ks ls:List Bool} {xs ys:List Value},qH (ks++ls) xs ys→qH ks (xs.take ks.length) (ys.take ks.length)∧qH ls (xs.drop ks.length) (ys.drop ks.length)∧
  eqvL xs ys=(eqvL (xs.take ks.length) (ys.take ks.length) && eqvL (xs.drop ks.length) (ys.drop ks.length))
 | [],ls,xs,ys,h=>⟨trivial,h,rfl⟩
 |k::ks,ls,x::xs,y::ys,⟨a,h⟩=>by
  obtain ⟨h1,h2,h3⟩:=qH.split h
  refine ⟨⟨a,h1⟩,h2,?_⟩
  show (eqv1 x y && eqvL xs ys)=((eqv1 x y && eqvL (xs.take ks.length) (ys.take ks.length)) && eqvL (xs.drop ks.length) (ys.drop ks.length))
  rw [h3,Bool.and_assoc]
theorem Bk {k:Bool}:∀ {xs ys:List Value},qH [k] xs ys→∃ x y,xs=[x]∧ys=[y]∧cmp1 k x y
 | [],[],h=>h.elim
 | [],_::_,h=>h.elim
 | _::_,[],h=>h.elim
 | [x],[y],h=>⟨x,y,rfl,rfl,h.1⟩
 | _::_::_,[_],h=>h.2.elim
 | [_],_::_::_,h=>h.2.elim
 | _::_::_,_::_::_,h=>h.2.elim
section
variable {P:Program}
def tP (P:Program) (t:TypeId) (xs:List Value):Value:=if isAgg? P t=true then .agg xs.toArray else xs.headD undef
theorem yu {t:TypeId} {i:TypeInfo} {dsc:TypeDesc} (hi:P.info? t=some i) (hd:P.underlying t=some dsc) {cs:List Value} {off n:Nat} (hn:i.size=n) (hl:off+n≤cs.length) (h1:isAgg? P t=false→n=1) (w:World) :
  (part t cs.toArray off).run P w=.ok (tP P t ((cs.drop off).take n)) w:=by
 unfold part tP
 rw [Sem.run_bind,jS hd]
 simp only [Result.andThen_ok]
 split
 ·simp only [Sem.run_bind,Eng.run_sizeOf hi,Result.andThen_ok,Sem.run_pure,hn]
  congr 2
  apply Array.ext'
  simp [List.extract]
 ·rename_i ha
  have hn1:=h1 (by simpa using ha)
  subst hn1
  have hlt:off<cs.length:=by omega
  have hx:(cs.drop off).take 1=[cs[off]]:=by
   rw [List.drop_eq_getElem_cons hlt]
   rfl
  have hg:cs.toArray[off]?=some cs[off]:=by simp [hlt]
  rw [hx]
  simp only [hg]
  rfl
theorem wC {d:Nat} {t:TypeId} {n:List Bool} (h:tO P d t=some n):∃ i dsc,P.info? t=some i∧P.underlying t=some dsc:=by
 cases d with
 |zero=>cases h
 |succ d=>
  unfold tO at h
  cases hu:P.underlying t with
  |none=>rw [hu] at h;cases h
  |some dsc=>
   cases hi:P.info? t with
   |some i=>exact ⟨i,dsc,rfl,rfl⟩
   |none=>simp [Program.underlying,hi] at hu
theorem tg {d:Nat} {t:TypeId} {n:List Bool} (h:tO P d t=some n) (ha:isAgg? P t=false):n.length=1:=by
 cases d with
 |zero=>cases h
 |succ d=>
  unfold tO at h
  unfold isAgg? at ha
  split at h
  ·cases h;rfl
  ·cases h;rfl
  ·rename_i hu;rw [hu] at ha;cases ha
  ·rename_i hu;rw [hu] at ha;cases ha
  ·cases h
def EqOk (P:Program) (D:Nat) (t:TypeId) (ks:List Bool):Prop:=∀ xs ys:List Value,qH ks xs ys→∀ w,(Op.equalIn D t (tP P t xs) (tP P t ys)).run P w=.ok (eqvL xs ys) w
theorem Bl {t:TypeId} {ks:List Bool} {D off:Nat} {xs ys:List Value} (hE:EqOk P D t ks) {i:TypeInfo} {dsc:TypeDesc} (hi:P.info? t=some i) (hd:P.underlying t=some dsc) (hn:i.size=ks.length) (h1:isAgg? P t=false→ks.length=1)
  (hc:qH ks ((xs.drop off).take ks.length) ((ys.drop off).take ks.length)) (w:World) {α:Type} (K:Bool→Sem α) :
  ((do K (← Op.equalIn D t (← part t xs.toArray off) (← part t ys.toArray off))):Sem α).run P w=(K (eqvL ((xs.drop off).take ks.length) ((ys.drop off).take ks.length))).run P w:=by
 obtain ⟨l1,l2⟩:=hc.len
 rw [List.length_take,List.length_drop] at l1 l2
 cases hk:ks.length with
 |zero=>
  have:i.size=0:=by omega
  cases ha:isAgg? P t with
  |false=>have:=h1 ha;omega
  |true=>
   have run0:∀ cs:List Value,(part t cs.toArray off).run P w=.ok (tP P t []) w:=by
    intro cs
    unfold part tP
    rw [Sem.run_bind,jS hd,ha]
    simp only [Result.andThen_ok,if_true,Sem.run_bind,Eng.run_sizeOf hi,Sem.run_pure,this]
    congr 2
    apply Array.ext'
    simp [List.extract]
   rw [hk] at hc
   simp only [Sem.run_bind,run0,Result.andThen_ok]
   rw [hE [] [] hc]
   rfl
 |succ n=>
  rw [←hk]
  simp only [Sem.run_bind,yu (cs:=xs) (off:=off) hi hd hn (by omega) h1 w,yu (cs:=ys) (off:=off) hi hd hn (by omega) h1 w,Result.andThen_ok]
  rw [hE _ _ hc]
  rfl
theorem wD {d D:Nat} (hE:∀ t ks,tO P d t=some ks→EqOk P D t ks) {xs ys:List Value}:∀ (fs:List Field) (off:Nat) (ks:List Bool),yt (wW P) (tO P d) fs off=some ks→qH ks (xs.drop off) (ys.drop off)→
  ∀ w,(Op.eqFields D xs.toArray ys.toArray fs).run P w=.ok (eqvL (xs.drop off) (ys.drop off)) w
 | [],off,ks,h,hc=>by
  cases h
  intro w
  have h0:=hc.len
  rw [List.eq_nil_of_length_eq_zero h0.1]
  simp [Op.eqFields,eqvL]
 |fd::fs,off,ks,h,hc=>by
  unfold yt at h
  split at h
  rotate_left
  ·cases h
  rename_i ks1 hm
  split at h
  rotate_left
  ·cases h
  rename_i hb
  split at h
  rotate_left
  ·cases h
  rename_i ks2 hr
  cases h
  simp only [Bool.and_eq_true,bne_iff_ne,ne_eq] at hb
  obtain ⟨hnm,ho,hs⟩:=hb
  have ho:fd.offset=off:=Nat.eq_of_beq_eq_true ho
  have hs:wW P fd.type=ks1.length:=Nat.eq_of_beq_eq_true hs
  obtain ⟨c1,c2,c3⟩:=hc.split
  rw [List.drop_drop,List.drop_drop] at c2 c3
  have ih:=wD hE fs (off+ks1.length) ks2 hr c2
  intro w
  obtain ⟨i,dsc,hi,hd⟩:=wC hm
  have hsz:i.size=ks1.length:=by unfold wW at hs;rw [hi] at hs;exact hs
  unfold Op.eqFields
  rw [if_pos (by simpa using hnm),ho]
  have:=Bl (K:=λr=>if (!r)=true then pure false else Op.eqFields D xs.toArray ys.toArray fs) (hE _ _ hm) hi hd hsz (tg hm) c1 w
  refine Eq.trans this ?_
  rw [c3]
  cases hq:eqvL ((xs.drop off).take ks1.length) ((ys.drop off).take ks1.length) with
  |false=>rfl
  |true=>
   simp only [Bool.not_true,Bool.false_eq_true,if_false,Bool.true_and]
   exact ih w
theorem yv {D:Nat} {e:TypeId} {ks:List Bool} (hE:EqOk P D e ks) {i:TypeInfo} {dsc:TypeDesc} (hi:P.info? e=some i) (hd:P.underlying e=some dsc) (hn:i.size=ks.length) (h1:isAgg? P e=false→ks.length=1) {xs ys:List Value} (w:World) :
  ∀ (l:List Nat) (a:Nat),l=List.range' a l.length→qH (List.replicate l.length ks).flatten (xs.drop (a * ks.length)) (ys.drop (a * ks.length))→
   (forIn l ((none,()):Option Bool×Unit) (λi _=>do
    let r ← Op.equalIn D e (← part e xs.toArray (i * ks.length)) (← part e ys.toArray (i * ks.length))
    if (!r)=true then pure (ForInStep.done (some false,())) else pure (ForInStep.yield (none,()))):Sem (Option Bool×Unit)).run P w=.ok ((if eqvL (xs.drop (a * ks.length)) (ys.drop (a * ks.length))=true then none else some false),()) w
 | [],a,_,hc=>by
  have h0:=hc.len
  rw [List.eq_nil_of_length_eq_zero h0.1]
  simp [eqvL]
 |j::l,a,hr,hc=>by
  rw [List.length_cons,List.range'_succ] at hr
  simp only [List.cons.injEq] at hr
  obtain ⟨rfl,hr⟩:=hr
  rw [List.length_cons,List.replicate_succ,List.flatten_cons] at hc
  obtain ⟨c1,c2,c3⟩:=hc.split
  rw [List.drop_drop,List.drop_drop,←Nat.succ_mul] at c2 c3
  rw [List.forIn_cons,Sem.run_bind]
  have:=Bl (K:=λr=>if (!r)=true then (pure (ForInStep.done (some false,())):Sem (ForInStep (Option Bool×Unit))) else pure (ForInStep.yield (none,()))) hE hi hd hn h1 c1 w
  rw [this,c3]
  have ih:=yv hE hi hd hn h1 w l (j+1) hr c2
  cases hq:eqvL ((xs.drop (j * ks.length)).take ks.length) ((ys.drop (j * ks.length)).take ks.length) with
  |false=>rfl
  |true=>
   simp only [Bool.not_true,Bool.false_eq_true,if_false,Bool.true_and]
   exact ih
theorem Bm:∀ (d:Nat) (t:TypeId) (ks:List Bool),tO P d t=some ks→∀ D,d≤D→EqOk P D t ks
 | 0,_,_,h=>by cases h
 |d+1,t,ks,h=>by
  intro D hD xs ys hc w
  obtain ⟨D,rfl⟩:∃ D',D=D'+1:=⟨D - 1,by omega⟩
  have hD':d≤D:=by omega
  unfold tO at h
  split at h
  ·rename_i k hu
   cases h
   have ha:isAgg? P t=false:=by unfold isAgg?;rw [hu]
   obtain ⟨x,y,rfl,rfl,hxy⟩:=Bk hc
   unfold tP
   rw [ha]
   cases x<;>cases y<;>first | exact hxy.elim | skip
   have hk:_=_:=hxy
   subst hk
   refine (run_equalIn_int w D t _ k _ _ hu).trans ?_
   simp [eqvL,eqv1]
  ·rename_i hu
   cases h
   have ha:isAgg? P t=false:=by unfold isAgg?;rw [hu]
   obtain ⟨x,y,rfl,rfl,hxy⟩:=Bk hc
   unfold tP
   rw [ha]
   cases x<;>cases y<;>first | exact hxy.elim | skip
   refine (run_equalIn_bool' w D t _ _ hu).trans ?_
   simp [eqvL,eqv1]
  ·rename_i fs hu
   split at h
   ·cases h
   rename_i hst
   have ha:isAgg? P t=true:=by unfold isAgg?;rw [hu]
   have hf:P.fieldsOf t=fs:=by unfold Program.fieldsOf;rw [hu]
   have:=wD (λt ks h=>Bm d t ks h D hD') fs.toList 0 ks h hc w
   unfold tP
   rw [if_pos ha,if_pos ha,run_equalIn_struct w D t _ _ (by rw [hf];exact hu) hst,hf]
   exact this
  ·rename_i len e hu
   split at h
   rotate_left
   ·cases h
   rename_i ks1 hm
   split at h
   rotate_left
   ·cases h
   rename_i hs
   cases h
   have hs:wW P e=ks1.length:=Nat.eq_of_beq_eq_true hs
   obtain ⟨i,dsc,hi,hd⟩:=wC hm
   have hsz:i.size=ks1.length:=by unfold wW at hs;rw [hi] at hs;exact hs
   have ha:isAgg? P t=true:=by unfold isAgg?;rw [hu]
   have:=yv (Bm d e ks1 hm D hD') hi hd hsz (tg hm) (xs:=xs) (ys:=ys) w (List.range' 0 len) 0 (by simp) (by simpa using hc)
   unfold tP
   rw [if_pos ha,if_pos ha]
   simp only [Op.equalIn,Sem.run_bind,run_underlying hu,Result.andThen_ok,Eng.run_sizeOf hi,hsz]
   simp only [Nat.zero_mul,List.drop_zero] at this
   rw [Std.Legacy.Range.forIn_eq_forIn_range']
   simp only [Std.Legacy.Range.size,Nat.sub_zero,Nat.add_one_sub_one,Nat.div_one]
   rw [this]
   cases eqvL xs ys<;>rfl
  ·cases h
end
end Go.Mx
