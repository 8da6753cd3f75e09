import Derived.Test.YtgpmeaicjonenaaGreata30
import Derived.Test.YtgpmeaicjonenaaGreata29
set_option linter.unusedVariables false
namespace Go.Proofs.YtgpmeaicjonenaaGreat
open Go.Eng C12
structure PF (i:Nat) (p:Pair) (v:Verb):Prop where
 good:bO p
 vs:∃ vs',p.verbs=v::vs'
 cl:p.client=(i:Int)
 inc:p.inc=1
 dry:v.kind=2→p.words=[]
def kI (E:Env) (ns:List aP) (S:Nat→CS) (i m:Nat) (p:Pair) (x:aP) (v:Verb) (q:Nat) (s:CS):Prop:=
 ((p.step x).2.2=none→gy E (ns.set m (p.step x).2.1) (updS S i s))∧∀ d,(p.step x).2.2=some d→d.code=0∧(d.words.length:Int)=v.v.rets∧gy E (ns.set m (p.step x).2.1) (updS S i { s with dn:=upd s.dn q d })
theorem NFr.idle {a k:Nat} {x x':aP} (h:NFr a k x x') (h1:38≤a) (h2:a+k≤768):(∀ l:Nat,96≤l→∀ k,k<8→x'.get (l * 8+k)=x.get (l * 8+k))∧∀ c:Nat,c<6→x'.get (32+c)=x.get (32+c):=
 ⟨λl hl k hk=>h.get _ (by omega),λc hc=>h.get _ (by omega)⟩
section
variable {E:Env} {ns:List aP} {S:Nat→CS} {i m q:Nat} {p:Pair} {x:aP} {v:Verb} {dn:Nat→Option Done} {D:List Done}
theorem xW (hE:eU E) (h:gy E ns S) (hi:E.on i) (hx:ns[m]?=some x) {a:Int} {ws:List Int} (hg:VGo E.n E.L (wV m a ws)) (hp:PF i p (wV m a ws)) (h1:38≤a) (h2:a+ws.length≤768) {ph:Nat} (hS:S i=⟨ph,dn,D⟩)
  (hL:∀ dn' p,Lk (E.J i) i ⟨ph,dn',D⟩ p↔Lk (E.J i) i (S i) p) (hN:∀ dn' m p,Nw (E.J i) ⟨ph,dn',D⟩ m p↔Nw (E.J i) (S i) m p) (hK:∀ dn' m,Ck (E.J i) i ⟨ph,dn',D⟩ m↔Ck (E.J i) i (S i) m) :
  kI E ns S i m p x (wV m a ws) q ⟨ph,dn,D⟩:=by
 obtain ⟨vs',hv⟩:=hp.vs
 have hf:=h.fix m x hx
 have hj:=hE.job i hi
 have hLn:=hE.L
 obtain ⟨g1,g2⟩:=Fi hE.L.1 hg hE.n.2 hf hj.i6 hp.cl hp.inc hp.good hv (hp.dry rfl) (by omega) (by omega)
 obtain ⟨g3,g4⟩:=g1.idle (by omega) (by omega)
 refine ⟨λ_=>h.idle hi hx (g1.fix hf (by omega)) (λl hl _=>g3 l hl) g4 hE (λp _=>hL dn p) (λp _ m _=>hN dn m p) λm _=>hK dn m,λd hd=>?_⟩
 have:=g2 d hd
 subst this
 exact ⟨rfl,rfl,h.idle hi hx (g1.fix hf (by omega)) (λl hl _=>g3 l hl) g4 hE (λp _=>hL _ p) (λp _ m _=>hN _ m p) λm _=>hK _ m⟩
theorem Co (hE:eU E) (h:gy E ns S) (hi:E.on i) (hx:ns[m]?=some x) (hS:S i=⟨0,dn,D⟩) (hv:(fD (E.J i))[q]?=some v) (hm:v.node.toNat=m) (hp:PF i p v):kI E ns S i m p x v q ⟨0,dn,D⟩:=by
 have hj:=hE.job i hi
 rw [hj.bodyE] at hv
 obtain ⟨hq,rfl⟩:=rt hv
 have hmq:q=m:=hm
 subst hmq
 have hl:=nA (E.J i).seq (E.J i).writes
 have hf:=hj.few
 have h6:=hj.i6
 refine xW hE h hi hx (qI hE hj hq).1 hp (by omega) (by omega) hS (λdn' p=>?_) (λdn' m p=>?_) (λdn' m=>?_)<;>rw [hS]<;>exact Iff.rfl
theorem Cp (hE:eU E) (h:gy E ns S) (hi:E.on i) (hx:ns[m]?=some x) (hS:S i=⟨2,dn,D⟩) (hv:(iP (E.J i))[q]?=some v) (hm:v.node.toNat=m) (hp:PF i p v):kI E ns S i m p x v q ⟨2,dn,D⟩:=by
 have hj:=hE.job i hi
 rw [hj.markE] at hv
 obtain ⟨hq,rfl⟩:=rt hv
 have hmq:q=m:=hm
 subst hmq
 have h6:=hj.i6
 refine xW hE h hi hx (qI hE hj hq).2 hp (by omega) (by simp;omega) hS (λdn' p=>?_) (λdn' m p=>?_) (λdn' m=>?_)<;>rw [hS]<;>exact Iff.rfl
theorem Cq (hE:eU E) (h:gy E ns S) (hi:E.on i) (hx:ns[m]?=some x) (hS:S i=⟨1,dn,D⟩) (hv:(aX (E.J i))[q]?=some v) (hq:dn q=none) (hm:v.node.toNat=m) (hp:PF i p v):kI E ns S i m p x v q ⟨1,dn,D⟩:=by
 have hj:=hE.job i hi
 have hf:=h.fix m x hx
 have hn1:=hE.n
 obtain ⟨vs',hpv⟩:=hp.vs
 have hlk:∀ (d:Done) (p':aG),Lk (E.J i) i ⟨1,upd dn q d,D⟩ p'↔Lk (E.J i) i (S i) p'∨(v=cV (p'.Line * 8) p'.Head (eT p'.Head i)∧eA d=p'.Head):=λd p'=>by
  rw [hS]
  constructor
  ·rintro ⟨r,e,h1,h2,h3⟩
   by_cases hr:r=q
   ·subst hr
    have h2:upd dn r d r=some e:=h2
    rw [jI] at h2
    cases h2
    rw [hv] at h1
    cases h1
    exact .inr ⟨rfl,h3⟩
   ·have h2:upd dn q d r=some e:=h2
    rw [ld hr] at h2
    exact .inl ⟨r,e,h1,h2,h3⟩
  ·rintro (⟨r,e,h1,h2,h3⟩ | ⟨h1,h2⟩)
   ·have hr:r≠q:=λe2=>by rw [e2] at h2;have h2:dn q=some e:=h2;rw [hq] at h2;cases h2
    exact ⟨r,e,h1,by show upd dn q d r=some e;rw [ld hr];exact h2,h3⟩
   ·exact ⟨q,d,by rw [←h1];exact hv,jI _ _ _,h2⟩
 have hnw:∀ (d:Done) (m':Nat) (p':aG),Nw (E.J i) ⟨1,upd dn q d,D⟩ m' p'↔Nw (E.J i) (S i) m' p':=λd m' p'=>by rw [hS];exact Iff.rfl
 have hck:∀ (d:Done) (m':Nat),Ck (E.J i) i ⟨1,upd dn q d,D⟩ m'↔Ck (E.J i) i (S i) m':=λd m'=>by rw [hS];exact Iff.rfl
 rcases lw hj hn1.1 hv with ⟨p0,hp0,_,rfl⟩ | ⟨s,hs,rfl⟩
 ·have hm0:m=0:=hm.symm
  subst hm0
  obtain ⟨e,l1,l2⟩:=hj.pl hp0
  have hst:=AI (oX hE hj hp0 _ _) hn1.2 hf hj.i6 hp.cl hp.inc hp.good hpv (by omega) (by omega)
  have ha:(p0.Line * 8).toNat=p0.Line.toNat * 8:=by omega
  rw [ha] at hst
  unfold kI
  rw [hst]
  refine ⟨λe=>(by cases e),λd hd=>?_⟩
  cases hd
  refine ⟨rfl,rfl,?_⟩
  have hw:eA ⟨0,[x.get (p0.Line.toNat * 8)]⟩=x.get (p0.Line.toNat * 8):=rfl
  have hlt:p0.Line.toNat * 8<x.words.length:=by rw [hf.len];omega
  by_cases hh:x.get (p0.Line.toNat * 8)=p0.Head
  ·
   have hcas:x.cas (p0.Line * 8) p0.Head (eT p0.Head i)={ x with words:=x.words.set (p0.Line.toNat * 8) (eT p0.Head i) }:=by
    unfold aP.cas
    rw [ha,if_pos hh]
   show gy E (ns.set 0 (x.cas (p0.Line * 8) p0.Head (eT p0.Head i))) _
   rw [hcas]
   have hget:=AB hlt (eT p0.Head i)
   obtain ⟨hbase,hvac⟩:=h.vacant hE hx l1 l2 (hh.trans (hj.head p0 hp0))
   have hlk0:Lk (E.J i) i ⟨1,upd dn q ⟨0,[x.get (p0.Line.toNat * 8)]⟩,D⟩ p0:=(hlk _ _).2 (.inr ⟨rfl,hw.trans hh⟩)
   refine h.page hE hi hp0 hx ?_ (λl h1 h2 hne k hk=>?_) (λc hc=>?_) (λp hpm hne=>?_) (λe=>absurd rfl e) (λp _ m' _ _=>hnw _ m' p) (λm' _=>hck _ m') (λc=>c.elim) (λ_ _=>⟨?_,λk hk1 hk8=>?_⟩) (λ_ hno=>absurd hlk0 (hno rfl)) (λi' hi' hne p' hp' hl=>?_) (λp _ _ c=>c.elim)
   ·refine NFr.fix (n:=x) (a:=p0.Line.toNat * 8) (k:=1) ⟨by simp,rfl,λi' hi'=>?_⟩ hf (by omega)
    rw [hget,if_neg (by omega)]
   ·rw [hget,if_neg (by omega)]
   ·rw [hget,if_neg (by omega)]
   ·rw [hlk]
    refine ⟨λc=>c.resolve_right λc=>hne (uw hj hpm hp0 c.1.symm),.inl⟩
   ·rw [hget,if_pos rfl]
   ·rw [hget,if_neg (by omega)]
    exact hbase k hk8
   ·exact hvac i' hi' p' hp' hl
  ·
   have hcas:x.cas (p0.Line * 8) p0.Head (eT p0.Head i)=x:=by
    unfold aP.cas
    rw [ha,if_neg hh]
   show gy E (ns.set 0 (x.cas (p0.Line * 8) p0.Head (eT p0.Head i))) _
   rw [hcas]
   refine h.idle hi hx hf (λ_ _ _ _ _=>rfl) (λ_ _=>rfl) hE (λp hpm=>?_) (λp _ m' _=>hnw _ m' p) λm' _=>hck _ m'
   rw [hlk]
   refine ⟨λc=>c.resolve_right λc=>hh ?_,.inl⟩
   have:=uw hj hpm hp0 c.1.symm
   subst this
   exact hw.symm.trans c.2
 ·have hm0:m=0:=hm.symm
  subst hm0
  obtain ⟨l,e,l1,l2⟩:=hj.rline s hs
  have hst:=C9 (xV hE hj hs) hn1.2 hf hj.i6 hp.cl hp.inc hp.good hpv (by omega) (by omega) (by omega)
  unfold kI
  rw [hst]
  refine ⟨λe=>(by cases e),λd hd=>?_⟩
  cases hd
  refine ⟨rfl,rfl,h.idle hi hx hf (λ_ _ _ _ _=>rfl) (λ_ _=>rfl) hE (λp hpm=>?_) (λp _ m' _=>hnw _ m' p) λm' _=>hck _ m'⟩
  rw [hlk]
  exact ⟨λc=>c.resolve_right λc=>Ed c.1.symm,.inl⟩
theorem AJ (hE:eU E) (h:gy E ns S) (hi:E.on i) (hx:ns[m]?=some x) (hv:(aX (E.J i))[q]?=some v) (hm:v.node.toNat=m) (hp:PF i p v):∀ d,(p.step x).2.2=some d→eA d=x.get v.at_.toNat:=by
 have hj:=hE.job i hi
 have hf:=h.fix m x hx
 have hn1:=hE.n
 obtain ⟨vs',hpv⟩:=hp.vs
 rcases lw hj hn1.1 hv with ⟨p0,hp0,_,rfl⟩ | ⟨s,hs,rfl⟩
 ·obtain ⟨e,l1,l2⟩:=hj.pl hp0
  have hst:=AI (oX hE hj hp0 _ _) hn1.2 hf hj.i6 hp.cl hp.inc hp.good hpv (by omega) (by omega)
  rw [hst]
  intro d hd
  cases hd
  rfl
 ·obtain ⟨l,e,l1,l2⟩:=hj.rline s hs
  have hst:=C9 (xV hE hj hs) hn1.2 hf hj.i6 hp.cl hp.inc hp.good hpv (by omega) (by omega) (by omega)
  rw [hst]
  intro d hd
  cases hd
  rfl
theorem AK {j:CJob} (hj:cG E i j) (hn:1≤E.n) {r q:Nat} {p:aG} (hp:p ∈ j.writes) (hr:(aX j)[r]?=some (cV (p.Line * 8) p.Head (eT p.Head i))) (hq:(aX j)[q]?=some (cV (p.Line * 8) p.Head (eT p.Head i))):r=q:=by
 have hix:∀ {r:Nat},(aX j)[r]?=some (cV (p.Line * 8) p.Head (eT p.Head i))→j.writes[r]?=some p:=λ{r} hr=>by
  rcases lw hj hn hr with ⟨p',hp',h1,e⟩ | ⟨s,_,e⟩
  ·rw [uw hj hp hp' e]
   exact h1
  ·exact absurd e Ed
 have hw:j.writes.Nodup:=by
  have:=hj.nodup
  unfold List.Nodup at this ⊢
  rw [List.pairwise_map] at this
  exact this.imp λh e=>h (by rw [e])
 exact (List.getElem?_inj (aN (hix hr)) hw).1 ((hix hr).trans (hix hq).symm)
theorem AL (hE:eU E) (h:gy E ns S) (hone:E.ids=[i]) (hx:ns[0]?=some x) (hS:S i=⟨1,dn,D⟩) (hv:(aX (E.J i))[q]?=some v) (hq:dn q=none) {xw:Int} (hw:(dR (E.J i))[q]?=some xw):x.get v.at_.toNat=xw:=by
 have hi:E.on i:=by unfold Env.on;rw [hone];exact List.mem_singleton_self _
 have hj:=hE.job i hi
 have hn1:=hE.n
 have honly:∀ i',E.on i'→i'=i:=λi' h'=>by unfold Env.on at h';rw [hone] at h';exact List.mem_singleton.1 h'
 have hfree:∀ l:Nat,96≤l→l<E.L→(∀ p ∈ (E.J i).writes,p.Line.toNat=l→¬ Lk (E.J i) i (S i) p)→x.get (l * 8)=E.base l 0:=λl h1 h2 hno=>by
  have:=h.free l h1 h2 0 x hx (λi' hi' p hp hl=>by
   have e:=honly i' hi'
   subst e
   exact ⟨by rw [hS];exact λc=>c,λ_=>hno p hp hl⟩) 0 (by omega)
  rwa [Nat.add_zero] at this
 rcases lw hj hn1.1 hv with ⟨p0,hp0,hqp,rfl⟩ | ⟨s,hs,rfl⟩
 ·obtain ⟨e,l1,l2⟩:=hj.pl hp0
  rw [uy hj hqp] at hw
  cases hw
  have ha:(cV (p0.Line * 8) p0.Head (eT p0.Head i)).at_.toNat=p0.Line.toNat * 8:=by show (p0.Line * 8).toNat=_;omega
  rw [ha,hfree _ l1 l2 λp hp hl hlk=>?_]
  ·exact (hj.head p0 hp0).symm
  ·have:p=p0:=hj.uniq p hp p0 hp0 (by have:=(hj.pl hp).1;omega)
   subst this
   rw [hS] at hlk
   obtain ⟨r,d,h1,h2,_⟩:=hlk
   have:=AK hj hn1.1 hp h1 hv
   subst this
   have h2:dn r=some d:=h2
   rw [hq] at h2
   cases h2
 ·obtain ⟨l,e,l1,l2⟩:=hj.rline s hs
  have ha:(rV (s.Line * 8)).at_.toNat=l * 8:=by show (s.Line * 8).toNat=_;omega
  rw [ha,hfree l l1 l2 λp hp hl _=>hj.rdis s hs p hp (by have:=(hj.pl hp).1;omega)]
  have hh:=hj.rhead s hs
  rw [e,Int.toNat_natCast] at hh
  rw [←hh]
  have hqw:(E.J i).writes.length≤q:=by
   rcases Nat.lt_or_ge q (E.J i).writes.length with g | g
   ·have:=ru hj hn1.1 (List.getElem?_eq_getElem g)
    rw [hv] at this
    cases this
   ·exact g
  have hv':=hv
  rw [hj.lockL hn1.1,List.getElem?_append_right (by simpa using hqw),List.length_map,List.getElem?_map] at hv'
  unfold dR at hw
  rw [List.getElem?_append_right (by simpa using hqw),List.length_map,List.getElem?_map] at hw
  cases hs2:(E.J i).reads[q - (E.J i).writes.length]? with
  |none=>rw [hs2] at hw;cases hw
  |some s2=>
   rw [hs2] at hw hv'
   simp only [Option.map_some,Option.some.injEq] at hw hv'
   have hl2:s2.Line=s.Line:=by
    unfold rV at hv'
    simp only [Verb.mk.injEq] at hv'
    omega
   rw [←hw,hj.rhead s hs,hj.rhead s2 (List.mem_of_getElem? hs2),hl2]
theorem Cr (hE:eU E) (h:gy E ns S) (hi:E.on i) (hx:ns[m]?=some x) (hS:S i=⟨5,dn,D⟩) (hv:(iQ (E.J i) D)[q]?=some v) (hq:dn q=none) (hm:v.node.toNat=m) (hp:PF i p v):kI E ns S i m p x v q ⟨5,dn,D⟩:=by
 have hj:=hE.job i hi
 have hf:=h.fix m x hx
 have hn1:=hE.n
 obtain ⟨vs',hpv⟩:=hp.vs
 obtain ⟨_,p0,_,hp0,_,_,_,rfl⟩:=sx hj hn1.1 (List.mem_of_getElem? hv)
 have hm0:m=0:=hm.symm
 subst hm0
 obtain ⟨e,l1,l2⟩:=hj.pl hp0
 have hst:=AI (oX hE hj hp0 _ _) hn1.2 hf hj.i6 hp.cl hp.inc hp.good hpv (by omega) (by omega)
 have ha:(p0.Line * 8).toNat=p0.Line.toNat * 8:=by omega
 rw [ha] at hst
 unfold kI
 rw [hst]
 refine ⟨λe=>(by cases e),λd hd=>?_⟩
 cases hd
 refine ⟨rfl,rfl,?_⟩
 have hlt:p0.Line.toNat * 8<x.words.length:=by rw [hf.len];omega
 have hlk0:Lk (E.J i) i (S i) p0:=by rw [hS];exact ⟨q,hv,hq⟩
 obtain ⟨hh,hb⟩:=h.lock i hi p0 hp0 x hx hlk0
 have hcas:x.cas (p0.Line * 8) (eT p0.Head i) p0.Head={ x with words:=x.words.set (p0.Line.toNat * 8) p0.Head }:=by
  unfold aP.cas
  rw [ha,if_pos hh]
 show gy E (ns.set 0 (x.cas (p0.Line * 8) (eT p0.Head i) p0.Head)) _
 rw [hcas]
 have hget:=AB hlt p0.Head
 have hpe:∀ (d:Done) (p:aG),Lk (E.J i) i ⟨5,upd dn q d,D⟩ p↔Lk (E.J i) i (S i) p∧pX i p≠pX i p0:=λd p=>by
  rw [hS]
  exact C7 (y6 hj hn1.1 D) hv d (pX i p)
 refine h.page hE hi hp0 hx ?_ (λl h1 h2 hne k hk=>?_) (λc hc=>?_) (λp hpm hne=>?_) (λe=>absurd rfl e) (λp _ m' _ _=>by rw [hS];exact Iff.rfl) (λm' _=>by rw [hS];exact Iff.rfl) (λc=>c.elim) (λ_ c=>absurd rfl ((hpe _ _).1 c).2) (λ_ _ k hk=>?_) (λi' hi' hne p' hp' hl=>?_) (λp _ _ c=>c.elim)
 ·refine NFr.fix (n:=x) (a:=p0.Line.toNat * 8) (k:=1) ⟨by simp,rfl,λi' hi'=>?_⟩ hf (by omega)
  rw [hget,if_neg (by omega)]
 ·rw [hget,if_neg (by omega)]
 ·rw [hget,if_neg (by omega)]
 ·rw [hpe]
  exact ⟨λc=>c.1,λc=>⟨c,λe=>hne (xS hj hpm hp0 e)⟩⟩
 ·rw [hget]
  by_cases hk0:k=0
  ·subst hk0
   rw [Nat.add_zero,if_pos rfl]
   exact hj.head p0 hp0
  ·rw [if_neg (by omega)]
   exact hb k (by omega) hk
 ·exact h.excl i i' hi hi' (λe=>hne e.symm) p0 hp0 p' hp' hl.symm (.inl hlk0)
theorem tL {L:Nat} {p0:aG} (hf:NFix L x) (l1:96≤p0.Line.toNat) (l2:p0.Line.toNat<L):NFix L (x.write (p0.Line.toNat * 8) (appL p0))∧(∀ l:Nat,96≤l→l<L→l≠p0.Line.toNat→∀ k,k<8→(x.write (p0.Line.toNat * 8) (appL p0)).get (l * 8+k)=x.get (l * 8+k))∧
  (∀ c:Nat,c<6→(x.write (p0.Line.toNat * 8) (appL p0)).get (32+c)=x.get (32+c))∧∀ k,k<8→(x.write (p0.Line.toNat * 8) (appL p0)).get (p0.Line.toNat * 8+k)=(appL p0).getD k 0:=by
 have hlen:p0.Line.toNat * 8+(appL p0).length≤x.words.length:=by rw [hf.len,gR];omega
 have hget:=sr hlen
 refine ⟨NFr.fix (a:=p0.Line.toNat * 8) (k:=8) ⟨sq hlen,rfl,λi hi=>?_⟩ hf (by omega),λl h1 h2 hne k hk=>?_,λc hc=>?_,λk hk=>?_⟩
 ·rw [hget,gR,if_neg (by omega)]
 ·rw [hget,gR,if_neg (by omega)]
 ·rw [hget,gR,if_neg (by omega)]
 ·rw [hget,gR,if_pos (by omega)]
  congr 1
  omega
theorem sy {L:Nat} {seq:Int} (hf:NFix L x) (hL:98≤L) (h6:i<6):NFix L (x.write (32+i) [seq])∧(∀ l:Nat,96≤l→∀ k,k<8→(x.write (32+i) [seq]).get (l * 8+k)=x.get (l * 8+k))∧∀ c:Nat,c<6→(x.write (32+i) [seq]).get (32+c)=if c=i then seq else x.get (32+c):=by
 have hlen:32+i+[seq].length≤x.words.length:=by rw [hf.len];simp;omega
 have hget:=sr hlen
 refine ⟨NFr.fix (a:=32+i) (k:=1) ⟨sq hlen,rfl,λi' hi'=>?_⟩ hf (by omega),λl h1 k hk=>?_,λc hc=>?_⟩
 ·rw [hget,if_neg (by simp;omega)]
 ·rw [hget,if_neg (by simp;omega)]
 ·rw [hget]
  by_cases e:c=i
  ·subst e
   rw [if_pos (by simp),if_pos rfl,Nat.sub_self]
   rfl
  ·rw [if_neg (by simp;omega),if_neg e]
theorem Cs (hE:eU E) (h:gy E ns S) (hi:E.on i) (hx:ns[m]?=some x) (hS:S i=⟨3,dn,D⟩) (hv:(fU (E.J i))[q]?=some v) (hq:dn q=none) (hm:v.node.toNat=m) (hp:PF i p v):kI E ns S i m p x v q ⟨3,dn,D⟩:=by
 have hj:=hE.job i hi
 have hf:=h.fix m x hx
 have hn1:=hE.n
 obtain ⟨vs',hpv⟩:=hp.vs
 have hnw:∀ (d:Done) (m':Nat) (p':aG),Nw (E.J i) ⟨3,upd dn q d,D⟩ m' p'↔Nw (E.J i) (S i) m' p'∨pgV m' p'=v:=λd m' p'=>by rw [hS];exact xQ hv hq d _
 have hck:∀ (d:Done) (m':Nat),Ck (E.J i) i ⟨3,upd dn q d,D⟩ m'↔Ck (E.J i) i (S i) m'∨ckV i (E.J i).seq m'=v:=λd m'=>by rw [hS];exact xQ hv hq d _
 have hlk:∀ (d:Done) (p':aG),Lk (E.J i) i ⟨3,upd dn q d,D⟩ p'↔Lk (E.J i) i (S i) p':=λd p'=>by rw [hS];exact Iff.rfl
 have htrue:∀ p',Lk (E.J i) i (S i) p':=λp'=>by rw [hS];trivial
 obtain ⟨m',h1,h2,hvv⟩:=su hj (List.mem_of_getElem? hv)
 rcases hvv with ⟨p0,hp0,rfl⟩ | rfl
 ·have hmm:m'=m:=hm
  subst hmm
  obtain ⟨e,l1,l2⟩:=hj.pl hp0
  have hst:=uz (tJ hE hj h2 hp0) hn1.2 hf hj.i6 hp.cl hp.inc hp.good hpv (by omega) (by rw [gR];omega) (by rw [gR];omega)
  have ha:(p0.Line * 8).toNat=p0.Line.toNat * 8:=by omega
  rw [ha] at hst
  unfold kI
  rw [hst]
  refine ⟨λe=>(by cases e),λd hd=>?_⟩
  cases hd
  refine ⟨rfl,rfl,?_⟩
  obtain ⟨g1,g2,g3,g4⟩:=tL hf l1 l2
  refine h.page hE hi hp0 hx g1 g2 g3 (λp _ _=>hlk _ p) (λ_=>hlk _ p0) (λp hpm m'' _ hor=>?_) (λm'' _=>?_) (λ_=>g4) (λe=>absurd e (by omega)) (λhno=>absurd ((hnw _ _ _).2 (.inr rfl)) hno) (λi' hi' hne p' hp' hl=>?_) (λp hpm _ c=>?_)
  ·rw [hnw]
   refine ⟨λc=>c.resolve_right λc=>?_,.inl⟩
   obtain ⟨e1,e2⟩:=ss hj hpm hp0 c
   rcases hor with g | g
   ·exact g e2
   ·exact g e1
  ·rw [hck]
   exact ⟨λc=>c.resolve_right λc=>v6 hj hp0 _ c.symm,.inl⟩
  ·exact h.excl i i' hi hi' (λe=>hne e.symm) p0 hp0 p' hp' hl.symm (.inl (htrue p0))
  ·rcases (hnw _ _ _).1 c with c | c
   ·exact h.both i hi p hpm (htrue p) c
   ·have:=(ss hj hpm hp0 c).1
    omega
 ·have hmm:m'=m:=hm
  subst hmm
  have h6:=hj.i6
  have hst:=uz (tK hE hj h2 (E.J i).seq) hn1.2 hf hj.i6 hp.cl hp.inc hp.good hpv (by omega) (by simp) (by simp;omega)
  have ha:(32+(i:Int)).toNat=32+i:=by omega
  rw [ha] at hst
  unfold kI
  rw [hst]
  refine ⟨λe=>(by cases e),λd hd=>?_⟩
  cases hd
  refine ⟨rfl,rfl,?_⟩
  obtain ⟨g1,g2,g3⟩:=sy (seq:=(E.J i).seq) hf hE.L.1 h6
  refine h.tick hi hx g1 (λl hl _=>g2 l hl) g3 hE (λp _=>hlk _ p) (λp hpm m'' _=>?_) λm'' _=>?_
  ·rw [hnw]
   exact ⟨λc=>c.resolve_right λc=>v6 hj hpm _ c,.inl⟩
  ·rw [hck]
   exact ⟨λc=>c.symm.imp (λe=>AF e) id,λc=>c.symm.imp id λe=>by rw [e]⟩
theorem Ct (hE:eU E) (h:gy E ns S) (hi:E.on i) (hx:ns[m]?=some x) (hS:S i=⟨4,dn,D⟩) (hv:(finV (E.J i))[q]?=some v) (hq:dn q=none) (hm:v.node.toNat=m) (hp:PF i p v):kI E ns S i m p x v q ⟨4,dn,D⟩:=by
 have hj:=hE.job i hi
 have hf:=h.fix m x hx
 have hn1:=hE.n
 obtain ⟨vs',hpv⟩:=hp.vs
 have hnw:∀ (d:Done) (m':Nat) (p':aG),Nw (E.J i) ⟨4,upd dn q d,D⟩ m' p'↔Nw (E.J i) (S i) m' p'∨pgV m' p'=v:=λd m' p'=>by
  rw [hS]
  show (1≤m'∨Ex (finV (E.J i)) (upd dn q d) (pgV m' p'))↔(1≤m'∨Ex (finV (E.J i)) dn (pgV m' p'))∨pgV m' p'=v
  rw [xQ hv hq d,or_assoc]
 have hck:∀ (d:Done) (m':Nat),Ck (E.J i) i ⟨4,upd dn q d,D⟩ m'↔Ck (E.J i) i (S i) m'∨ckV i (E.J i).seq m'=v:=λd m'=>by
  rw [hS]
  show (1≤m'∨Ex (finV (E.J i)) (upd dn q d) (ckV i (E.J i).seq m'))↔(1≤m'∨Ex (finV (E.J i)) dn (ckV i (E.J i).seq m'))∨ckV i (E.J i).seq m'=v
  rw [xQ hv hq d,or_assoc]
 have hlk:∀ (d:Done) (p':aG),Lk (E.J i) i ⟨4,upd dn q d,D⟩ p'↔Lk (E.J i) i (S i) p'∧pgV 0 p'≠v:=λd p'=>by
  rw [hS]
  exact C7 (AH hj hn1.1) hv d (pgV 0 p')
 rcases AG hj hn1.1 (List.mem_of_getElem? hv) with rfl | ⟨p0,hp0,rfl⟩
 ·have hmm:0=m:=hm
  subst hmm
  have h6:=hj.i6
  have hst:=uz (tK hE hj (by omega) (E.J i).seq) hn1.2 hf hj.i6 hp.cl hp.inc hp.good hpv (by omega) (by simp) (by simp;omega)
  have ha:(32+(i:Int)).toNat=32+i:=by omega
  rw [ha] at hst
  unfold kI
  rw [hst]
  refine ⟨λe=>(by cases e),λd hd=>?_⟩
  cases hd
  refine ⟨rfl,rfl,?_⟩
  obtain ⟨g1,g2,g3⟩:=sy (seq:=(E.J i).seq) hf hE.L.1 h6
  refine h.tick hi hx g1 (λl hl _=>g2 l hl) g3 hE (λp hpm=>?_) (λp hpm m'' _=>?_) λm'' _=>?_
  ·rw [hlk]
   exact ⟨λc=>c.1,λc=>⟨c,v6 hj hpm _⟩⟩
  ·rw [hnw]
   exact ⟨λc=>c.resolve_right λc=>v6 hj hpm _ c,.inl⟩
  ·rw [hck]
   exact ⟨λc=>c.symm.imp (λe=>AF e) id,λc=>c.symm.imp id λe=>by rw [e]⟩
 ·have hmm:0=m:=hm
  subst hmm
  obtain ⟨e,l1,l2⟩:=hj.pl hp0
  have hst:=uz (tJ hE hj (by omega) hp0) hn1.2 hf hj.i6 hp.cl hp.inc hp.good hpv (by omega) (by rw [gR];omega) (by rw [gR];omega)
  have ha:(p0.Line * 8).toNat=p0.Line.toNat * 8:=by omega
  rw [ha] at hst
  unfold kI
  rw [hst]
  refine ⟨λe=>(by cases e),λd hd=>?_⟩
  cases hd
  refine ⟨rfl,rfl,?_⟩
  obtain ⟨g1,g2,g3,g4⟩:=tL hf l1 l2
  have hlk0:Lk (E.J i) i (S i) p0:=by rw [hS];exact ⟨q,hv,hq⟩
  refine h.page hE hi hp0 hx g1 g2 g3 (λp hpm hne=>?_) (λe=>absurd rfl e) (λp hpm m'' _ hor=>?_) (λm'' _=>?_) (λ_=>g4) (λ_ c=>absurd rfl ((hlk _ _).1 c).2) (λhno=>absurd ((hnw _ _ _).2 (.inr rfl)) hno) (λi' hi' hne p' hp' hl=>?_) (λp hpm c1 c=>?_)
  ·rw [hlk]
   exact ⟨λc=>c.1,λc=>⟨c,λe=>hne (ss hj hpm hp0 e).2⟩⟩
  ·rw [hnw]
   refine ⟨λc=>c.resolve_right λc=>?_,.inl⟩
   obtain ⟨e1,e2⟩:=ss hj hpm hp0 c
   rcases hor with g | g
   ·exact g e2
   ·exact g e1
  ·rw [hck]
   exact ⟨λc=>c.resolve_right λc=>v6 hj hp0 _ c.symm,.inl⟩
  ·exact h.excl i i' hi hi' (λe=>hne e.symm) p0 hp0 p' hp' hl.symm (.inl hlk0)
  ·obtain ⟨d1,d2⟩:=(hlk _ _).1 c1
   rcases (hnw _ _ _).1 c with c | c
   ·exact h.both i hi p hpm d1 c
   ·exact d2 c
end
end Go.Proofs.YtgpmeaicjonenaaGreat
namespace Go.Proofs.YtgpmeaicjonenaaGreat
open Go.Eng C12
def plen (l:Lane):Nat:=(l.pair.verbs.map λv=>v.v.pieces.length).sum - l.pair.executed
def pcs (C:Comp):Nat:=(C.lanes.map plen).sum
theorem uF:∀ {l:List Nat} {i:Nat} {a b:Nat},l[i]?=some a→(l.set i b).sum+a=l.sum+b
 | [],i,a,b,h=>by simp at h
 |x::l,0,a,b,h=>by
  simp only [List.getElem?_cons_zero,Option.some.injEq] at h
  subst h
  simp only [List.set_cons_zero,List.sum_cons]
  omega
 |x::l,i+1,a,b,h=>by
  have:=uF (l:=l) (i:=i) (a:=a) (b:=b) (by simpa using h)
  simp only [List.set_cons_succ,List.sum_cons]
  omega
theorem v8 {p:Pair} {n:aP} (hP:bO p) (hr:∀ v vs',p.verbs=v::vs'→p.refusal v n=0) {l l':Lane} (hl:l.pair=p) (hl':l'.pair=(p.step n).1) (hv:p.verbs≠[]):plen l'<plen l:=by
 obtain ⟨v,vs',hpv⟩:=List.exists_cons_of_ne_nil hv
 have hrd:=hP.rdy v vs' hpv
 unfold plen
 rw [hl,hl',xe hpv (hr v vs' hpv),hpv]
 simp only [List.map_cons,List.sum_cons]
 split
 ·rename_i hlt
  show ((v::vs').map _).sum - (p.executed+1)<_
  simp only [List.map_cons,List.sum_cons]
  omega
 ·show (p.verbs.tail.map _).sum - 0<_
  rw [hpv]
  simp only [List.tail_cons]
  omega
def Dry (p:Pair):Prop:=∀ v vs',p.verbs=v::vs'→v.kind=2→p.words=[]
theorem xX {p:Pair} {n:aP} (hd:Dry p):Dry (p.step n).1:=by
 unfold Pair.step
 cases hv:p.verbs with
 |nil=>exact hd
 |cons x xs=>
  simp only
  split
  ·exact λ_ _ _ _=>rfl
  ·split
   ·intro v vs' e hk
    have e:x::xs=v::vs':=e
    cases e
    show p.words++(exec x _ n).2=[]
    rw [hd x xs hv hk]
    unfold exec
    rw [if_neg (by omega),if_pos hk]
    rfl
   ·exact λ_ _ _ _=>rfl
def Fj (vs:List Verb) (dn:Nat→Option Done):Prop:=∀ q d,dn q=some d→∃ v,vs[q]?=some v∧d.code=0∧(d.words.length:Int)=v.v.rets
def v9 (j:CJob) (s:CS) (got:List (List Done)):Prop:=match s.ph with
 | 0=>got=[]
 | 1=>∃ d0,got=[d0]∧Fit (fD j) d0
 | 2=>∃ d0,got=[d0,s.D]∧Fit (fD j) d0∧Fit (aX j) s.D∧eM (dR j) s.D=false
 | 3=>∃ d0 d2,got=[d0,s.D,d2]∧Fit (fD j) d0∧Fit (aX j) s.D∧eM (dR j) s.D=false∧Fit (iP j) d2∧fU j≠[]
 | 4=>(∃ d0 d2 d3,got=[d0,s.D,d2,d3]∧Fit (fD j) d0∧Fit (aX j) s.D∧eM (dR j) s.D=false∧Fit (iP j) d2∧fU j≠[]∧Fit (fU j) d3)∨∃ d0 d2,got=[d0,s.D,d2]∧Fit (fD j) d0∧Fit (aX j) s.D∧eM (dR j) s.D=false∧Fit (iP j) d2∧fU j=[]
 | 5=>∃ d0,got=[d0,s.D]∧Fit (fD j) d0∧Fit (aX j) s.D∧eM (dR j) s.D=true∧iQ j s.D≠[]
 | _=>True
def hO (C:Comp):Prop:=∀ (k:Nat) (l:Lane),C.lanes[k]?=some l→l.pair.verbs=[]
def trOf (n:Nat):Nat→Nat
 | 0=>1
 | 1=>2
 | 2=>3
 | 3=>4
 | 4=>if n=1 then 4 else 5
 | 6=>if n=1 then 4 else 5
 | _=>0
structure Cu (n:Nat) (C:Comp):Prop where
 batch:C.batch=none
 quiet:hO C
 inc:C.inc=1
 live:C.alive=true
 lanes:C.lanes.length=n
 dry:∀ (k:Nat) (l:Lane),C.lanes[k]?=some l→Dry l.pair
structure Ee (E:Env) (i:Nat) (C:Comp) (t:Tk conv) (s:CS):Prop where
 cl:t.client=(i:Int)
 job:t.job=E.J i
 bad:t.bad=false
 inc:C.inc=1
 live:C.alive=true
 lanes:C.lanes.length=E.n
 ph:s.ph≤8
 dry:∀ (k:Nat) (l:Lane),C.lanes[k]?=some l→Dry l.pair
 run:s.ph≤5→t.over=false∧Bt C (vsOf (E.J i) s) s.dn∧Fj (vsOf (E.J i) s) s.dn∧v9 (E.J i) s t.got
 stop:s.ph=6∨s.ph=7→t.over=true∧(C.batch=none∧hO C)∧(s.ph=6→t.out=((0:Int),(3:Int)))∧(s.ph=7→t.out=((7:Int),(1:Int)))
 new:s.ph=8→t.over=false∧t.got=[]∧C.batch=none∧hO C
 trips:E.tr=true→s.ph≠5→s.ph≠7→C.trips=trOf E.n s.ph
def mn (j:CJob) (s:CS):Prop:=s.ph≠5∧s.ph≠7∧(s.ph=1→∀ (q:Nat) (x:Int) (d:Done),(dR j)[q]?=some x→s.dn q=some d→eA d=x)
structure Inv (E:Env) (F:Fab) (ts:List (Tk conv)) (S:Nat→CS):Prop where
 fine:Fine F
 lines:F.lines=E.L
 mem:gy E F.nodes S
 tl:ts.length=E.ids.length
 cli:∀ i,E.on i→∃ (C:Comp) (t:Tk conv),F.clients[i]?=some C∧(∀ k:Nat,E.ids[k]?=some i→ts[k]?=some t)∧Ee E i C t (S i)
 rest:∀ (i:Nat) (C:Comp),¬ E.on i→F.clients[i]?=some C→Cu E.n C
 orph:F.orphans=[]
 six:∀ k:Nat,k<6→∃ C,F.clients[k]?=some C
theorem xY {E:Env} (hE:eU E) {F F':Fab} {ts:List (Tk conv)} {S:Nat→CS} (h:Inv E F ts S) {i m:Nat} (hi:E.on i) (hs:stepL i m F=some F') :
  ∃ s',Inv E F' ts (updS S i s')∧s'.ph=(S i).ph∧(E.ids=[i]→mn (E.J i) (S i)→mn (E.J i) s')∧∃ C C',F.clients[i]?=some C∧F'.clients[i]?=some C'∧pcs C'<pcs C∧∀ k,k≠i→F'.clients[k]?=F.clients[k]?:=by
 obtain ⟨C,l,x,hC,hl,hx,hv,hF'⟩:=fC.1 hs
 have hfine':=h.fine.stepL hs
 obtain ⟨C0,t,hC0,ht,hc⟩:=h.cli i hi
 rw [hC] at hC0
 cases hC0
 have hj:=hE.job i hi
 have hlt:=aN hC
 have hvne:l.pair.verbs≠[]:=λe=>hv (by rw [e];rfl)
 obtain ⟨v,vs',hpv⟩:=List.exists_cons_of_ne_nil hvne
 have hph:(S i).ph≤5:=by
  have h8:=hc.ph
  rcases Nat.lt_or_ge 5 (S i).ph with h5 | h5
  ·exfalso
   by_cases e8:(S i).ph=8
   ·exact hvne ((hc.new e8).2.2.2 m l hl)
   ·exact hvne ((hc.stop (by omega)).2.1.2 m l hl)
  ·exact h5
 obtain ⟨hov,hbt,hres,hgot⟩:=hc.run hph
 obtain ⟨q,ps,hpl,hvq,hnode,hdq⟩:=(hbt.lane m l hl).head hpv
 have hco:=h.fine.good.ok.client i C hC
 have hlo:=hco.lane m l hl
 have hP:bO l.pair:=h.fine.good.cl C (List.mem_of_getElem? hC) l (List.mem_of_getElem? hl)
 have hpf:PF i l.pair v:=⟨hP,⟨vs',hpv⟩,hlo.client,hlo.inc.trans hc.inc,λhk=>hc.dry m l hl v vs' hpv hk⟩
 have hst:kI E F.nodes S i m l.pair x v q (S i)∧VGo E.n E.L v:=by
  generalize hSi:S i=s at *
  obtain ⟨ph,dn,D⟩:=s
  have hmem:=List.mem_of_getElem? hvq
  have hn1:=hE.n.1
  rcases ph with _ | _ | _ | _ | _ | _ | ph
  ·refine ⟨Co hE h.mem hi hx hSi hvq hnode hpf,?_⟩
   have hvq':=hvq
   change (fD (E.J i))[q]?=some v at hvq'
   rw [hj.bodyE] at hvq'
   obtain ⟨hq,rfl⟩:=rt hvq'
   exact (qI hE hj hq).1
  ·refine ⟨Cq hE h.mem hi hx hSi hvq hdq hnode hpf,?_⟩
   rcases lw hj hn1 hvq with ⟨p,hp,_,rfl⟩ | ⟨s,hs,rfl⟩
   ·exact oX hE hj hp _ _
   ·exact xV hE hj hs
  ·refine ⟨Cp hE h.mem hi hx hSi hvq hnode hpf,?_⟩
   have hvq':=hvq
   change (iP (E.J i))[q]?=some v at hvq'
   rw [hj.markE] at hvq'
   obtain ⟨hq,rfl⟩:=rt hvq'
   exact (qI hE hj hq).2
  ·refine ⟨Cs hE h.mem hi hx hSi hvq hdq hnode hpf,?_⟩
   obtain ⟨m',g1,g2,g⟩:=su hj hmem
   rcases g with ⟨p,hp,rfl⟩ | rfl
   ·exact tJ hE hj g2 hp
   ·exact tK hE hj g2 _
  ·refine ⟨Ct hE h.mem hi hx hSi hvq hdq hnode hpf,?_⟩
   rcases AG hj hn1 hmem with rfl | ⟨p,hp,rfl⟩
   ·exact tK hE hj (by omega) _
   ·exact tJ hE hj (by omega) hp
  ·refine ⟨Cr hE h.mem hi hx hSi hvq hdq hnode hpf,?_⟩
   obtain ⟨_,p,_,hp,_,_,_,rfl⟩:=sx hj hn1 hmem
   exact oX hE hj hp _ _
  ·exact absurd hph (by show ¬ (ph+6≤5);omega)
 obtain ⟨⟨hst1,hst2⟩,hgo⟩:=hst
 have hr:∀ v2 vs2,l.pair.verbs=v2::vs2→l.pair.refusal v2 x=0:=λv2 vs2 e=>by
  rw [hpv] at e
  cases e
  exact gV (h.mem.fix m x hx) hE.n.2 hgo hj.i6 hpf.cl hpf.inc
 have hmain:∃ s',s'.ph=(S i).ph∧(E.ids=[i]→mn (E.J i) (S i)→mn (E.J i) s')∧gy E (F.nodes.set m (l.pair.step x).2.1) (updS S i s')∧Ee E i (C.comes m l (l.pair.step x).1 (l.pair.step x).2.2) t s':=by
  have hsv:=FQ l.pair x
  have hdry:∀ (k:Nat) (l':Lane),(C.comes m l (l.pair.step x).1 (l.pair.step x).2.2).lanes[k]?=some l'→Dry l'.pair:=λk l' hk=>by
   by_cases e:k=m
   ·subst e
    have hlt2:=aN hl
    have hp':l'.pair=(l.pair.step x).1:=by
     cases hd:(l.pair.step x).2.2<;>(rw [hd] at hk;simp [Comp.comes,hlt2] at hk;rw [←hk])
    rw [hp']
    exact xX (hc.dry k l hl)
   ·rw [kt e] at hk
    exact hc.dry k l' hk
  have hinc:(C.comes m l (l.pair.step x).1 (l.pair.step x).2.2).inc=C.inc:=by cases (l.pair.step x).2.2<;>rfl
  have hlan:(C.comes m l (l.pair.step x).1 (l.pair.step x).2.2).lanes.length=C.lanes.length:=by cases (l.pair.step x).2.2<;>simp [Comp.comes]
  have hal:=xd C m l (l.pair.step x).1 (l.pair.step x).2.2
  have htr:(C.comes m l (l.pair.step x).1 (l.pair.step x).2.2).trips=C.trips:=by cases (l.pair.step x).2.2<;>rfl
  cases hd:(l.pair.step x).2.2 with
  |none=>
   rw [hd] at hdry hinc hlan hal htr
   have hvb:(l.pair.step x).1.verbs=l.pair.verbs:=by
    rcases hsv with ⟨_,e⟩ | ⟨d,e,_⟩
    ·exact e
    ·rw [hd] at e;cases e
   refine ⟨S i,rfl,λ_ g=>g,hst1 hd,hc.cl,hc.job,hc.bad,hinc.trans hc.inc,hal.trans hc.live,hlan.trans hc.lanes,hc.ph,hdry,λ_=>⟨hov,hbt.more hl hvb,hres,hgot⟩,λe=>by omega,λe=>by omega,λa b c=>htr.trans (hc.trips a b c)⟩
  |some d=>
   rw [hd] at hdry hinc hlan hal htr
   have hvb:(l.pair.step x).1.verbs=vs':=by
    rcases hsv with ⟨e,_⟩ | ⟨d',_,e⟩
    ·rw [hd] at e;cases e
    ·rw [e,hpv];rfl
   obtain ⟨e1,e2,e3⟩:=hst2 d hd
   refine ⟨{ S i with dn:=upd (S i).dn q d },rfl,λhone g=>⟨g.1,g.2.1,λh1 k xw e hw hk=>?_⟩,e3,hc.cl,hc.job,hc.bad,hinc.trans hc.inc,hal.trans hc.live,hlan.trans hc.lanes,hc.ph,hdry,λ_=>⟨hov,hbt.done hl hpv hvb hpl d,λk e hk=>?_,hgot⟩,λe=>?_,λe=>?_,λa b c=>htr.trans (hc.trips a b c)⟩
   ·have h1:(S i).ph=1:=h1
    by_cases ek:k=q
    ·subst ek
     have hk:upd (S i).dn k d k=some e:=hk
     rw [jI] at hk
     cases hk
     generalize hSi:S i=s at *
     obtain ⟨ph,dn,D⟩:=s
     have h1:ph=1:=h1
     subst h1
     have hvq:(aX (E.J i))[k]?=some v:=hvq
     have hm0:m=0:=by
      rcases lw hj hE.n.1 hvq with ⟨p,_,_,rfl⟩ | ⟨s,_,rfl⟩
      ·exact hnode.symm
      ·exact hnode.symm
     subst hm0
     rw [AJ hE h.mem hi hx hvq hnode hpf d hd]
     exact AL hE h.mem hone hx hSi hvq hdq hw
    ·have hk:upd (S i).dn q d k=some e:=hk
     rw [ld ek] at hk
     exact g.2.2 h1 k xw e hw hk
   ·by_cases ek:k=q
    ·subst ek
     have hk:upd (S i).dn k d k=some e:=hk
     rw [jI] at hk
     cases hk
     exact ⟨v,hvq,e1,e2⟩
    ·have hk:upd (S i).dn q d k=some e:=hk
     rw [ld ek] at hk
     exact hres k e hk
   ·have e:(S i).ph=6∨(S i).ph=7:=e
    omega
   ·have e:(S i).ph=8:=e
    omega
 obtain ⟨s',hs1,hs1',hs2,hs3⟩:=hmain
 have hcl':F'.clients[i]?=some (C.comes m l (l.pair.step x).1 (l.pair.step x).2.2):=by rw [hF'];exact List.getElem?_set_self hlt
 have hoth:∀ k,k≠i→F'.clients[k]?=F.clients[k]?:=λk hk=>by rw [hF'];exact List.getElem?_set_ne (λe=>hk e.symm)
 refine ⟨s',⟨hfine',by rw [hF'];exact h.lines,by rw [hF'];exact hs2,h.tl,λk hk=>?_,λk C2 hk hC2=>?_,by rw [hF'];exact h.orph,λk hk=>?_⟩,hs1,hs1',C,_,hC,hcl',?_,hoth⟩
 ·by_cases e:k=i
  ·subst e
   exact ⟨_,t,hcl',ht,by rw [bQ];exact hs3⟩
  ·obtain ⟨C2,t2,g1,g2,g3⟩:=h.cli k hk
   exact ⟨C2,t2,by rw [hoth k e];exact g1,g2,by rw [eF e];exact g3⟩
 ·rw [hoth k (λe=>hk (by rw [e];exact hi))] at hC2
  exact h.rest k C2 hk hC2
 ·by_cases e:k=i
  ·subst e
   exact ⟨_,hcl'⟩
  ·rw [hoth k e]
   exact h.six k hk
 ·have hlt2:=aN hl
  have hset:∃ l',(C.comes m l (l.pair.step x).1 (l.pair.step x).2.2).lanes=C.lanes.set m l'∧l'.pair=(l.pair.step x).1:=by
   cases (l.pair.step x).2.2 with
   |none=>exact ⟨_,rfl,rfl⟩
   |some d=>exact ⟨_,rfl,rfl⟩
  obtain ⟨l',e1,e2⟩:=hset
  unfold pcs
  rw [e1,List.map_set]
  have hps:=v8 hP hr (l:=l) (l':=l') rfl e2 hvne
  have:=uF (l:=C.lanes.map plen) (i:=m) (a:=plen l) (b:=plen l') (by rw [List.getElem?_map,hl];rfl)
  omega
end Go.Proofs.YtgpmeaicjonenaaGreat
