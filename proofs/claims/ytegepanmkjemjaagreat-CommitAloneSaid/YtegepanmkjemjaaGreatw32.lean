import Derived.Test.YtegepanmkjemjaaGreatw31
set_option linter.unusedVariables false
namespace Go.Proofs.YtegepanmkjemjaaGreat
open Go.Eng C12
section
variable {n L:Nat} {p:Pair} {x:aP} {vs':List Verb}
theorem Gv (hL:98≤L) {m:Nat} {a:Int} {ws:List Int} (hg:VGo n L (wV m a ws)) (hn:n≤5) (hx:NFix L x) {c:Nat} (hc:c<6) (hcl:p.client=c) (hinc:p.inc=1) (hP:bR p) (hpv:p.verbs=wV m a ws::vs') (hd:p.words=[]) (h0:0≤a) (h1:a+ws.length≤L * 8) :
  NFr a.toNat ws.length x (p.step x).2.1∧∀ d,(p.step x).2.2=some d→d=⟨0,[]⟩:=by
 have hr:=jC hx hn hg hc hcl hinc (p:=p)
 have hex:=hP.rdy _ _ hpv
 have hpc:((wV m a ws).v.pieces.getD p.executed (0,0)) ∈ (wV m a ws).v.pieces:=by
  rw [List.getD_eq_getElem?_getD,List.getElem?_eq_getElem hex]
  exact List.getElem_mem hex
 obtain ⟨g1,g2⟩:=zT (x:=wV m a ws) rfl h0 (n:=x) (by have:=hx.len;show a+(ws.length:Int)≤_;omega) hpc
 rw [x6 hpv hr]
 split
 ·exact ⟨g1,λd e=>by cases e⟩
 ·refine ⟨g1,λd e=>?_⟩
  cases e
  rw [hd,g2]
  rfl
theorem vE {m:Nat} {a:Int} {ws:List Int} (hg:VGo n L (wV m a ws)) (hn:n≤5) (hx:NFix L x) {c:Nat} (hc:c<6) (hcl:p.client=c) (hinc:p.inc=1) (hP:bR p) (hpv:p.verbs=wV m a ws::vs') (h0:0≤a) (h1:1≤ws.length) (h2:a % 8+ws.length≤8) :
  p.step x=(p.done,x.write a.toNat ws,some ⟨0,[]⟩):=by
 have hr:=jC hx hn hg hc hcl hinc (p:=p)
 have hp:(wV m a ws).v.pieces=[(a,(ws.length:Int))]:=jB (v:=(wV m a ws).v) (by show 1≤(ws.length:Int);omega) h2 h0
 have he:=Dc (x:=wV m a ws) rfl (n:=x)
 rw [vx hP hpv hr hp]
 show (p.done,(exec (wV m a ws) ((wV m a ws).at_,((wV m a ws).words.length:Int)) x).1,some (⟨0,(exec (wV m a ws) ((wV m a ws).at_,((wV m a ws).words.length:Int)) x).2⟩:Done))=_
 rw [he]
 rfl
theorem BE {a o w:Int} (hg:VGo n L (cV a o w)) (hn:n≤5) (hx:NFix L x) {c:Nat} (hc:c<6) (hcl:p.client=c) (hinc:p.inc=1) (hP:bR p) (hpv:p.verbs=cV a o w::vs') (h0:0≤a) (h2:a % 8=0) :
  p.step x=(p.done,x.cas a o w,some ⟨0,[x.get a.toNat]⟩):=by
 have hr:=jC hx hn hg hc hcl hinc (p:=p)
 have hp:(cV a o w).v.pieces=[(a,1)]:=jB (v:=(cV a o w).v) (by show (1:Int)≤1;omega) (by show a % 8+1≤8;omega) h0
 rw [vx hP hpv hr hp,Dd rfl]
 rfl
theorem BF {a:Int} (hg:VGo n L (rV a)) (hn:n≤5) (hx:NFix L x) {c:Nat} (hc:c<6) (hcl:p.client=c) (hinc:p.inc=1) (hP:bR p) (hpv:p.verbs=rV a::vs') (h0:0≤a) (h2:a % 8=0) (h3:a<L * 8) :
  p.step x=(p.done,x,some ⟨0,[x.get a.toNat]⟩):=by
 have hr:=jC hx hn hg hc hcl hinc (p:=p)
 have hp:(rV a).v.pieces=[(a,1)]:=jB (v:=(rV a).v) (by show (1:Int)≤1;omega) (by show a % 8+1≤8;omega) h0
 have hl:=hx.len
 have he:=zU (x:=rV a) rfl h0 (n:=x) (by show a.toNat<_;omega)
 rw [vx hP hpv hr hp]
 show (p.done,(exec (rV a) ((rV a).at_,1) x).1,some (⟨0,(exec (rV a) ((rV a).at_,1) x).2⟩:Done))=_
 rw [he]
 rfl
end
section
variable {E:Env} {i:Nat} {j:CJob}
theorem rD (hE:fK E) (h:cB E i j) {m:Nat} (hm:m<E.n):VGo E.n E.L (wV m (56+120 * (i:Int)) (pe j.seq j.writes))∧VGo E.n E.L (wV m (48+120 * (i:Int)) [xW j.seq]):=by
 have h6:=h.i6
 have hf:=h.few
 have hL:=hE.L
 have hn:=hE.n
 have hl:=oz j.seq j.writes
 exact ⟨Di (by omega) hm (by omega) (by omega) (by omega) (by omega) (by omega),Di (by omega) hm (by omega) (by omega) (by simp) (by simp) (by simp;omega)⟩
theorem ib (p:aB):(appL p).length=8:=rfl
theorem uJ (hE:fK E) (h:cB E i j) {m:Nat} (hm:m<E.n) {p:aB} (hp:p ∈ j.writes):VGo E.n E.L (pgV m p):=by
 obtain ⟨e,l1,l2⟩:=h.pl hp
 have hL:=hE.L
 have hn:=hE.n
 exact Di (by omega) hm (by omega) (by omega) (by rw [ib];omega) (by rw [ib];omega) (by rw [ib];omega)
theorem uK (hE:fK E) (h:cB E i j) {m:Nat} (hm:m<E.n) (seq:Int):VGo E.n E.L (ckV i seq m):=by
 have h6:=h.i6
 have hL:=hE.L
 have hn:=hE.n
 exact Di (by omega) hm (by omega) (by omega) (by simp) (by simp) (by simp;omega)
theorem pV (hE:fK E) (h:cB E i j) {p:aB} (hp:p ∈ j.writes) (o w:Int):VGo E.n E.L (cV (p.Line * 8) o w):=by
 obtain ⟨e,l1,l2⟩:=h.pl hp
 have hL:=hE.L
 have hn:=hE.n
 exact G2 (by omega) (by omega) (by omega) (by omega)
theorem yN (hE:fK E) (h:cB E i j) {s:aU} (hs:s ∈ j.reads):VGo E.n E.L (rV (s.Line * 8)):=by
 obtain ⟨l,e,l1,l2⟩:=h.rline s hs
 have hL:=hE.L
 have hn:=hE.n
 exact Gu (by omega) (by omega) (by omega) (by omega)
end
theorem G3 {E:Env} (hE:fK E) {i:Nat} {j:CJob} (h:cB E i j) {s:CS} {p:aB} (hp:p ∈ j.writes) (ht:Tch E.n j i s p):Lk j i s p∨Nw j s 0 p:=by
 rcases ht with a | ⟨m,_,a⟩
 ·exact .inl a
 ·obtain ⟨ph,dn,D⟩:=s
  rcases ph with _ | _ | _ | _ | _ | _ | _ | ph
  all_goals first | exact a.elim | skip
  ·exact .inl trivial
  ·exact (yJ ((tF h hE.n.1).1 p hp)).symm.imp id λe=>.inr e
  ·exact .inr trivial
theorem ie.vacant {E:Env} {ns:List aP} {S:Nat→CS} (h:ie E ns S) (hE:fK E) {x:aP} (hx:ns[0]?=some x) {l:Nat} (h1:96≤l) (h2:l<E.L) (hh:x.get (l * 8)=E.base l 0) :
  (∀ k,k<8→x.get (l * 8+k)=E.base l k)∧∀ i,E.on i→∀ p ∈ (E.J i).writes,p.Line.toNat=l→¬ Tch E.n (E.J i) i (S i) p:=by
 have hno:∀ i,E.on i→∀ p ∈ (E.J i).writes,p.Line.toNat=l→¬ Nw (E.J i) (S i) 0 p∧¬ Lk (E.J i) i (S i) p:=λi hi p hp hl=>by
  have hj:=hE.job i hi
  have hhd:=hj.head p hp
  rw [hl] at hhd
  refine ⟨λc=>?_,λc=>?_⟩
  ·have:=h.new i hi p hp 0 x hx c 0 (by omega)
   rw [Nat.add_zero,hl,hh] at this
   have e:(appL p).getD 0 0=sl p.Head:=rfl
   rw [e,←hhd] at this
   exact hj.next p hp this.symm
  ·have:=(h.lock i hi p hp x hx c).1
   rw [hl,hh,←hhd] at this
   exact (hj.locks p hp i hj.i6).1 this.symm
 refine ⟨h.free l h1 h2 0 x hx λi hi p hp hl=>⟨(hno i hi p hp hl).1,λ_=>(hno i hi p hp hl).2⟩,λi hi p hp hl ht=>?_⟩
 rcases G3 hE (hE.job i hi) hp ht with c | c
 ·exact (hno i hi p hp hl).2 c
 ·exact (hno i hi p hp hl).1 c
end Go.Proofs.YtegepanmkjemjaaGreat
namespace Go.Proofs.YtegepanmkjemjaaGreat
open Go.Eng C12
structure PF (i:Nat) (p:Pair) (v:Verb):Prop where
 good:bR p
 vs:∃ vs',p.verbs=v::vs'
 cl:p.client=(i:Int)
 inc:p.inc=1
 dry:v.kind=2→p.words=[]
def kY (E:Env) (ns:List aP) (S:Nat→CS) (i m:Nat) (p:Pair) (x:aP) (v:Verb) (q:Nat) (s:CS):Prop:=
 ((p.step x).2.2=none→ie E (ns.set m (p.step x).2.1) (updS S i s))∧∀ d,(p.step x).2.2=some d→d.code=0∧(d.words.length:Int)=v.v.rets∧ie E (ns.set m (p.step x).2.1) (updS S i { s with dn:=upd s.dn q d })
theorem NFr.idle {a k:Nat} {x x':aP} (h:NFr a k x x') (h1:38≤a) (h2:a+k≤768):(∀ l:Nat,96≤l→∀ k,k<8→x'.get (l * 8+k)=x.get (l * 8+k))∧∀ c:Nat,c<6→x'.get (32+c)=x.get (32+c):=
 ⟨λl hl k hk=>h.get _ (by omega),λc hc=>h.get _ (by omega)⟩
section
variable {E:Env} {ns:List aP} {S:Nat→CS} {i m q:Nat} {p:Pair} {x:aP} {v:Verb} {dn:Nat→Option Done} {D:List Done}
theorem yO (hE:fK E) (h:ie E ns S) (hi:E.on i) (hx:ns[m]?=some x) {a:Int} {ws:List Int} (hg:VGo E.n E.L (wV m a ws)) (hp:PF i p (wV m a ws)) (h1:38≤a) (h2:a+ws.length≤768) {ph:Nat} (hS:S i=⟨ph,dn,D⟩)
  (hL:∀ dn' p,Lk (E.J i) i ⟨ph,dn',D⟩ p↔Lk (E.J i) i (S i) p) (hN:∀ dn' m p,Nw (E.J i) ⟨ph,dn',D⟩ m p↔Nw (E.J i) (S i) m p) (hK:∀ dn' m,Ck (E.J i) i ⟨ph,dn',D⟩ m↔Ck (E.J i) i (S i) m) :
  kY E ns S i m p x (wV m a ws) q ⟨ph,dn,D⟩:=by
 obtain ⟨vs',hv⟩:=hp.vs
 have hf:=h.fix m x hx
 have hj:=hE.job i hi
 have hLn:=hE.L
 obtain ⟨g1,g2⟩:=Gv hE.L.1 hg hE.n.2 hf hj.i6 hp.cl hp.inc hp.good hv (hp.dry rfl) (by omega) (by omega)
 obtain ⟨g3,g4⟩:=g1.idle (by omega) (by omega)
 refine ⟨λ_=>h.idle hi hx (g1.fix hf (by omega)) (λl hl _=>g3 l hl) g4 hE (λp _=>hL dn p) (λp _ m _=>hN dn m p) λm _=>hK dn m,λd hd=>?_⟩
 have:=g2 d hd
 subst this
 exact ⟨rfl,rfl,h.idle hi hx (g1.fix hf (by omega)) (λl hl _=>g3 l hl) g4 hE (λp _=>hL _ p) (λp _ m _=>hN _ m p) λm _=>hK _ m⟩
theorem Dk (hE:fK E) (h:ie E ns S) (hi:E.on i) (hx:ns[m]?=some x) (hS:S i=⟨0,dn,D⟩) (hv:(fJ (E.J i))[q]?=some v) (hm:v.node.toNat=m) (hp:PF i p v):kY E ns S i m p x v q ⟨0,dn,D⟩:=by
 have hj:=hE.job i hi
 rw [hj.bodyE] at hv
 obtain ⟨hq,rfl⟩:=sC hv
 have hmq:q=m:=hm
 subst hmq
 have hl:=oz (E.J i).seq (E.J i).writes
 have hf:=hj.few
 have h6:=hj.i6
 refine yO hE h hi hx (rD hE hj hq).1 hp (by omega) (by omega) hS (λdn' p=>?_) (λdn' m p=>?_) (λdn' m=>?_)<;>rw [hS]<;>exact Iff.rfl
theorem Dl (hE:fK E) (h:ie E ns S) (hi:E.on i) (hx:ns[m]?=some x) (hS:S i=⟨2,dn,D⟩) (hv:(iV (E.J i))[q]?=some v) (hm:v.node.toNat=m) (hp:PF i p v):kY E ns S i m p x v q ⟨2,dn,D⟩:=by
 have hj:=hE.job i hi
 rw [hj.markE] at hv
 obtain ⟨hq,rfl⟩:=sC hv
 have hmq:q=m:=hm
 subst hmq
 have h6:=hj.i6
 refine yO hE h hi hx (rD hE hj hq).2 hp (by omega) (by simp;omega) hS (λdn' p=>?_) (λdn' m p=>?_) (λdn' m=>?_)<;>rw [hS]<;>exact Iff.rfl
theorem Dm (hE:fK E) (h:ie E ns S) (hi:E.on i) (hx:ns[m]?=some x) (hS:S i=⟨1,dn,D⟩) (hv:(aW (E.J i))[q]?=some v) (hq:dn q=none) (hm:v.node.toNat=m) (hp:PF i p v):kY E ns S i m p x v q ⟨1,dn,D⟩:=by
 have hj:=hE.job i hi
 have hf:=h.fix m x hx
 have hn1:=hE.n
 obtain ⟨vs',hpv⟩:=hp.vs
 have hlk:∀ (d:Done) (p':aB),Lk (E.J i) i ⟨1,upd dn q d,D⟩ p'↔Lk (E.J i) i (S i) p'∨(v=cV (p'.Line * 8) p'.Head (fE p'.Head i)∧gC d=p'.Head):=λd p'=>by
  rw [hS]
  constructor
  ·rintro ⟨r,e,h1,h2,h3⟩
   by_cases hr:r=q
   ·subst hr
    have h2:upd dn r d r=some e:=h2
    rw [jT] at h2
    cases h2
    rw [hv] at h1
    cases h1
    exact .inr ⟨rfl,h3⟩
   ·have h2:upd dn q d r=some e:=h2
    rw [lI hr] at h2
    exact .inl ⟨r,e,h1,h2,h3⟩
  ·rintro (⟨r,e,h1,h2,h3⟩ | ⟨h1,h2⟩)
   ·have hr:r≠q:=λe2=>by rw [e2] at h2;have h2:dn q=some e:=h2;rw [hq] at h2;cases h2
    exact ⟨r,e,h1,by show upd dn q d r=some e;rw [lI hr];exact h2,h3⟩
   ·exact ⟨q,d,by rw [←h1];exact hv,jT _ _ _,h2⟩
 have hnw:∀ (d:Done) (m':Nat) (p':aB),Nw (E.J i) ⟨1,upd dn q d,D⟩ m' p'↔Nw (E.J i) (S i) m' p':=λd m' p'=>by rw [hS];exact Iff.rfl
 have hck:∀ (d:Done) (m':Nat),Ck (E.J i) i ⟨1,upd dn q d,D⟩ m'↔Ck (E.J i) i (S i) m':=λd m'=>by rw [hS];exact Iff.rfl
 rcases lW hj hn1.1 hv with ⟨p0,hp0,_,rfl⟩ | ⟨s,hs,rfl⟩
 ·have hm0:m=0:=hm.symm
  subst hm0
  obtain ⟨e,l1,l2⟩:=hj.pl hp0
  have hst:=BE (pV hE hj hp0 _ _) hn1.2 hf hj.i6 hp.cl hp.inc hp.good hpv (by omega) (by omega)
  have ha:(p0.Line * 8).toNat=p0.Line.toNat * 8:=by omega
  rw [ha] at hst
  unfold kY
  rw [hst]
  refine ⟨λe=>(by cases e),λd hd=>?_⟩
  cases hd
  refine ⟨rfl,rfl,?_⟩
  have hw:gC ⟨0,[x.get (p0.Line.toNat * 8)]⟩=x.get (p0.Line.toNat * 8):=rfl
  have hlt:p0.Line.toNat * 8<x.words.length:=by rw [hf.len];omega
  by_cases hh:x.get (p0.Line.toNat * 8)=p0.Head
  ·
   have hcas:x.cas (p0.Line * 8) p0.Head (fE p0.Head i)={ x with words:=x.words.set (p0.Line.toNat * 8) (fE p0.Head i) }:=by
    unfold aP.cas
    rw [ha,if_pos hh]
   show ie E (ns.set 0 (x.cas (p0.Line * 8) p0.Head (fE p0.Head i))) _
   rw [hcas]
   have hget:=Bw hlt (fE p0.Head i)
   obtain ⟨hbase,hvac⟩:=h.vacant hE hx l1 l2 (hh.trans (hj.head p0 hp0))
   have hlk0:Lk (E.J i) i ⟨1,upd dn q ⟨0,[x.get (p0.Line.toNat * 8)]⟩,D⟩ p0:=(hlk _ _).2 (.inr ⟨rfl,hw.trans hh⟩)
   refine h.page hE hi hp0 hx ?_ (λl h1 h2 hne k hk=>?_) (λc hc=>?_) (λp hpm hne=>?_) (λe=>absurd rfl e) (λp _ m' _ _=>hnw _ m' p) (λm' _=>hck _ m') (λc=>c.elim) (λ_ _=>⟨?_,λk hk1 hk8=>?_⟩) (λ_ hno=>absurd hlk0 (hno rfl)) (λi' hi' hne p' hp' hl=>?_) (λp _ _ c=>c.elim)
   ·refine NFr.fix (n:=x) (a:=p0.Line.toNat * 8) (k:=1) ⟨by simp,rfl,λi' hi'=>?_⟩ hf (by omega)
    rw [hget,if_neg (by omega)]
   ·rw [hget,if_neg (by omega)]
   ·rw [hget,if_neg (by omega)]
   ·rw [hlk]
    refine ⟨λc=>c.resolve_right λc=>hne (vB hj hpm hp0 c.1.symm),.inl⟩
   ·rw [hget,if_pos rfl]
   ·rw [hget,if_neg (by omega)]
    exact hbase k hk8
   ·exact hvac i' hi' p' hp' hl
  ·
   have hcas:x.cas (p0.Line * 8) p0.Head (fE p0.Head i)=x:=by
    unfold aP.cas
    rw [ha,if_neg hh]
   show ie E (ns.set 0 (x.cas (p0.Line * 8) p0.Head (fE p0.Head i))) _
   rw [hcas]
   refine h.idle hi hx hf (λ_ _ _ _ _=>rfl) (λ_ _=>rfl) hE (λp hpm=>?_) (λp _ m' _=>hnw _ m' p) λm' _=>hck _ m'
   rw [hlk]
   refine ⟨λc=>c.resolve_right λc=>hh ?_,.inl⟩
   have:=vB hj hpm hp0 c.1.symm
   subst this
   exact hw.symm.trans c.2
 ·have hm0:m=0:=hm.symm
  subst hm0
  obtain ⟨l,e,l1,l2⟩:=hj.rline s hs
  have hst:=BF (yN hE hj hs) hn1.2 hf hj.i6 hp.cl hp.inc hp.good hpv (by omega) (by omega) (by omega)
  unfold kY
  rw [hst]
  refine ⟨λe=>(by cases e),λd hd=>?_⟩
  cases hd
  refine ⟨rfl,rfl,h.idle hi hx hf (λ_ _ _ _ _=>rfl) (λ_ _=>rfl) hE (λp hpm=>?_) (λp _ m' _=>hnw _ m' p) λm' _=>hck _ m'⟩
  rw [hlk]
  exact ⟨λc=>c.resolve_right λc=>E8 c.1.symm,.inl⟩
theorem BG (hE:fK E) (h:ie E ns S) (hi:E.on i) (hx:ns[m]?=some x) (hv:(aW (E.J i))[q]?=some v) (hm:v.node.toNat=m) (hp:PF i p v):∀ d,(p.step x).2.2=some d→gC d=x.get v.at_.toNat:=by
 have hj:=hE.job i hi
 have hf:=h.fix m x hx
 have hn1:=hE.n
 obtain ⟨vs',hpv⟩:=hp.vs
 rcases lW hj hn1.1 hv with ⟨p0,hp0,_,rfl⟩ | ⟨s,hs,rfl⟩
 ·obtain ⟨e,l1,l2⟩:=hj.pl hp0
  have hst:=BE (pV hE hj hp0 _ _) hn1.2 hf hj.i6 hp.cl hp.inc hp.good hpv (by omega) (by omega)
  rw [hst]
  intro d hd
  cases hd
  rfl
 ·obtain ⟨l,e,l1,l2⟩:=hj.rline s hs
  have hst:=BF (yN hE hj hs) hn1.2 hf hj.i6 hp.cl hp.inc hp.good hpv (by omega) (by omega) (by omega)
  rw [hst]
  intro d hd
  cases hd
  rfl
theorem BH {j:CJob} (hj:cB E i j) (hn:1≤E.n) {r q:Nat} {p:aB} (hp:p ∈ j.writes) (hr:(aW j)[r]?=some (cV (p.Line * 8) p.Head (fE p.Head i))) (hq:(aW j)[q]?=some (cV (p.Line * 8) p.Head (fE p.Head i))):r=q:=by
 have hix:∀ {r:Nat},(aW j)[r]?=some (cV (p.Line * 8) p.Head (fE p.Head i))→j.writes[r]?=some p:=λ{r} hr=>by
  rcases lW hj hn hr with ⟨p',hp',h1,e⟩ | ⟨s,_,e⟩
  ·rw [vB hj hp hp' e]
   exact h1
  ·exact absurd e E8
 have hw:j.writes.Nodup:=by
  have:=hj.nodup
  unfold List.Nodup at this ⊢
  rw [List.pairwise_map] at this
  exact this.imp λh e=>h (by rw [e])
 exact (List.getElem?_inj (aO (hix hr)) hw).1 ((hix hr).trans (hix hq).symm)
theorem BI (hE:fK E) (h:ie E ns S) (hone:E.ids=[i]) (hx:ns[0]?=some x) (hS:S i=⟨1,dn,D⟩) (hv:(aW (E.J i))[q]?=some v) (hq:dn q=none) {xw:Int} (hw:(dO (E.J i))[q]?=some xw):x.get v.at_.toNat=xw:=by
 have hi:E.on i:=by unfold Env.on;rw [hone];exact List.mem_singleton_self _
 have hj:=hE.job i hi
 have hn1:=hE.n
 have honly:∀ i',E.on i'→i'=i:=λi' h'=>by unfold Env.on at h';rw [hone] at h';exact List.mem_singleton.1 h'
 have hfree:∀ l:Nat,96≤l→l<E.L→(∀ p ∈ (E.J i).writes,p.Line.toNat=l→¬ Lk (E.J i) i (S i) p)→x.get (l * 8)=E.base l 0:=λl h1 h2 hno=>by
  have:=h.free l h1 h2 0 x hx (λi' hi' p hp hl=>by
   have e:=honly i' hi'
   subst e
   exact ⟨by rw [hS];exact λc=>c,λ_=>hno p hp hl⟩) 0 (by omega)
  rwa [Nat.add_zero] at this
 rcases lW hj hn1.1 hv with ⟨p0,hp0,hqp,rfl⟩ | ⟨s,hs,rfl⟩
 ·obtain ⟨e,l1,l2⟩:=hj.pl hp0
  rw [vD hj hqp] at hw
  cases hw
  have ha:(cV (p0.Line * 8) p0.Head (fE p0.Head i)).at_.toNat=p0.Line.toNat * 8:=by show (p0.Line * 8).toNat=_;omega
  rw [ha,hfree _ l1 l2 λp hp hl hlk=>?_]
  ·exact (hj.head p0 hp0).symm
  ·have:p=p0:=hj.uniq p hp p0 hp0 (by have:=(hj.pl hp).1;omega)
   subst this
   rw [hS] at hlk
   obtain ⟨r,d,h1,h2,_⟩:=hlk
   have:=BH hj hn1.1 hp h1 hv
   subst this
   have h2:dn r=some d:=h2
   rw [hq] at h2
   cases h2
 ·obtain ⟨l,e,l1,l2⟩:=hj.rline s hs
  have ha:(rV (s.Line * 8)).at_.toNat=l * 8:=by show (s.Line * 8).toNat=_;omega
  rw [ha,hfree l l1 l2 λp hp hl _=>hj.rdis s hs p hp (by have:=(hj.pl hp).1;omega)]
  have hh:=hj.rhead s hs
  rw [e,Int.toNat_natCast] at hh
  rw [←hh]
  have hqw:(E.J i).writes.length≤q:=by
   rcases Nat.lt_or_ge q (E.J i).writes.length with g | g
   ·have:=sD hj hn1.1 (List.getElem?_eq_getElem g)
    rw [hv] at this
    cases this
   ·exact g
  have hv':=hv
  rw [hj.lockL hn1.1,List.getElem?_append_right (by simpa using hqw),List.length_map,List.getElem?_map] at hv'
  unfold dO at hw
  rw [List.getElem?_append_right (by simpa using hqw),List.length_map,List.getElem?_map] at hw
  cases hs2:(E.J i).reads[q - (E.J i).writes.length]? with
  |none=>rw [hs2] at hw;cases hw
  |some s2=>
   rw [hs2] at hw hv'
   simp only [Option.map_some,Option.some.injEq] at hw hv'
   have hl2:s2.Line=s.Line:=by
    unfold rV at hv'
    simp only [Verb.mk.injEq] at hv'
    omega
   rw [←hw,hj.rhead s hs,hj.rhead s2 (List.mem_of_getElem? hs2),hl2]
theorem Dn (hE:fK E) (h:ie E ns S) (hi:E.on i) (hx:ns[m]?=some x) (hS:S i=⟨5,dn,D⟩) (hv:(iW (E.J i) D)[q]?=some v) (hq:dn q=none) (hm:v.node.toNat=m) (hp:PF i p v):kY E ns S i m p x v q ⟨5,dn,D⟩:=by
 have hj:=hE.job i hi
 have hf:=h.fix m x hx
 have hn1:=hE.n
 obtain ⟨vs',hpv⟩:=hp.vs
 obtain ⟨_,p0,_,hp0,_,_,_,rfl⟩:=tH hj hn1.1 (List.mem_of_getElem? hv)
 have hm0:m=0:=hm.symm
 subst hm0
 obtain ⟨e,l1,l2⟩:=hj.pl hp0
 have hst:=BE (pV hE hj hp0 _ _) hn1.2 hf hj.i6 hp.cl hp.inc hp.good hpv (by omega) (by omega)
 have ha:(p0.Line * 8).toNat=p0.Line.toNat * 8:=by omega
 rw [ha] at hst
 unfold kY
 rw [hst]
 refine ⟨λe=>(by cases e),λd hd=>?_⟩
 cases hd
 refine ⟨rfl,rfl,?_⟩
 have hlt:p0.Line.toNat * 8<x.words.length:=by rw [hf.len];omega
 have hlk0:Lk (E.J i) i (S i) p0:=by rw [hS];exact ⟨q,hv,hq⟩
 obtain ⟨hh,hb⟩:=h.lock i hi p0 hp0 x hx hlk0
 have hcas:x.cas (p0.Line * 8) (fE p0.Head i) p0.Head={ x with words:=x.words.set (p0.Line.toNat * 8) p0.Head }:=by
  unfold aP.cas
  rw [ha,if_pos hh]
 show ie E (ns.set 0 (x.cas (p0.Line * 8) (fE p0.Head i) p0.Head)) _
 rw [hcas]
 have hget:=Bw hlt p0.Head
 have hpe:∀ (d:Done) (p:aB),Lk (E.J i) i ⟨5,upd dn q d,D⟩ p↔Lk (E.J i) i (S i) p∧qT i p≠qT i p0:=λd p=>by
  rw [hS]
  exact D2 (zW hj hn1.1 D) hv d (qT i p)
 refine h.page hE hi hp0 hx ?_ (λl h1 h2 hne k hk=>?_) (λc hc=>?_) (λp hpm hne=>?_) (λe=>absurd rfl e) (λp _ m' _ _=>by rw [hS];exact Iff.rfl) (λm' _=>by rw [hS];exact Iff.rfl) (λc=>c.elim) (λ_ c=>absurd rfl ((hpe _ _).1 c).2) (λ_ _ k hk=>?_) (λi' hi' hne p' hp' hl=>?_) (λp _ _ c=>c.elim)
 ·refine NFr.fix (n:=x) (a:=p0.Line.toNat * 8) (k:=1) ⟨by simp,rfl,λi' hi'=>?_⟩ hf (by omega)
  rw [hget,if_neg (by omega)]
 ·rw [hget,if_neg (by omega)]
 ·rw [hget,if_neg (by omega)]
 ·rw [hpe]
  exact ⟨λc=>c.1,λc=>⟨c,λe=>hne (yK hj hpm hp0 e)⟩⟩
 ·rw [hget]
  by_cases hk0:k=0
  ·subst hk0
   rw [Nat.add_zero,if_pos rfl]
   exact hj.head p0 hp0
  ·rw [if_neg (by omega)]
   exact hb k (by omega) hk
 ·exact h.excl i i' hi hi' (λe=>hne e.symm) p0 hp0 p' hp' hl.symm (.inl hlk0)
theorem uL {L:Nat} {p0:aB} (hf:NFix L x) (l1:96≤p0.Line.toNat) (l2:p0.Line.toNat<L):NFix L (x.write (p0.Line.toNat * 8) (appL p0))∧(∀ l:Nat,96≤l→l<L→l≠p0.Line.toNat→∀ k,k<8→(x.write (p0.Line.toNat * 8) (appL p0)).get (l * 8+k)=x.get (l * 8+k))∧
  (∀ c:Nat,c<6→(x.write (p0.Line.toNat * 8) (appL p0)).get (32+c)=x.get (32+c))∧∀ k,k<8→(x.write (p0.Line.toNat * 8) (appL p0)).get (p0.Line.toNat * 8+k)=(appL p0).getD k 0:=by
 have hlen:p0.Line.toNat * 8+(appL p0).length≤x.words.length:=by rw [hf.len,ib];omega
 have hget:=tC hlen
 refine ⟨NFr.fix (a:=p0.Line.toNat * 8) (k:=8) ⟨tB hlen,rfl,λi hi=>?_⟩ hf (by omega),λl h1 h2 hne k hk=>?_,λc hc=>?_,λk hk=>?_⟩
 ·rw [hget,ib,if_neg (by omega)]
 ·rw [hget,ib,if_neg (by omega)]
 ·rw [hget,ib,if_neg (by omega)]
 ·rw [hget,ib,if_pos (by omega)]
  congr 1
  omega
theorem tI {L:Nat} {seq:Int} (hf:NFix L x) (hL:98≤L) (h6:i<6):NFix L (x.write (32+i) [seq])∧(∀ l:Nat,96≤l→∀ k,k<8→(x.write (32+i) [seq]).get (l * 8+k)=x.get (l * 8+k))∧∀ c:Nat,c<6→(x.write (32+i) [seq]).get (32+c)=if c=i then seq else x.get (32+c):=by
 have hlen:32+i+[seq].length≤x.words.length:=by rw [hf.len];simp;omega
 have hget:=tC hlen
 refine ⟨NFr.fix (a:=32+i) (k:=1) ⟨tB hlen,rfl,λi' hi'=>?_⟩ hf (by omega),λl h1 k hk=>?_,λc hc=>?_⟩
 ·rw [hget,if_neg (by simp;omega)]
 ·rw [hget,if_neg (by simp;omega)]
 ·rw [hget]
  by_cases e:c=i
  ·subst e
   rw [if_pos (by simp),if_pos rfl,Nat.sub_self]
   rfl
  ·rw [if_neg (by simp;omega),if_neg e]
theorem Do (hE:fK E) (h:ie E ns S) (hi:E.on i) (hx:ns[m]?=some x) (hS:S i=⟨3,dn,D⟩) (hv:(gE (E.J i))[q]?=some v) (hq:dn q=none) (hm:v.node.toNat=m) (hp:PF i p v):kY E ns S i m p x v q ⟨3,dn,D⟩:=by
 have hj:=hE.job i hi
 have hf:=h.fix m x hx
 have hn1:=hE.n
 obtain ⟨vs',hpv⟩:=hp.vs
 have hnw:∀ (d:Done) (m':Nat) (p':aB),Nw (E.J i) ⟨3,upd dn q d,D⟩ m' p'↔Nw (E.J i) (S i) m' p'∨pgV m' p'=v:=λd m' p'=>by rw [hS];exact yI hv hq d _
 have hck:∀ (d:Done) (m':Nat),Ck (E.J i) i ⟨3,upd dn q d,D⟩ m'↔Ck (E.J i) i (S i) m'∨ckV i (E.J i).seq m'=v:=λd m'=>by rw [hS];exact yI hv hq d _
 have hlk:∀ (d:Done) (p':aB),Lk (E.J i) i ⟨3,upd dn q d,D⟩ p'↔Lk (E.J i) i (S i) p':=λd p'=>by rw [hS];exact Iff.rfl
 have htrue:∀ p',Lk (E.J i) i (S i) p':=λp'=>by rw [hS];trivial
 obtain ⟨m',h1,h2,hvv⟩:=tE hj (List.mem_of_getElem? hv)
 rcases hvv with ⟨p0,hp0,rfl⟩ | rfl
 ·have hmm:m'=m:=hm
  subst hmm
  obtain ⟨e,l1,l2⟩:=hj.pl hp0
  have hst:=vE (uJ hE hj h2 hp0) hn1.2 hf hj.i6 hp.cl hp.inc hp.good hpv (by omega) (by rw [ib];omega) (by rw [ib];omega)
  have ha:(p0.Line * 8).toNat=p0.Line.toNat * 8:=by omega
  rw [ha] at hst
  unfold kY
  rw [hst]
  refine ⟨λe=>(by cases e),λd hd=>?_⟩
  cases hd
  refine ⟨rfl,rfl,?_⟩
  obtain ⟨g1,g2,g3,g4⟩:=uL hf l1 l2
  refine h.page hE hi hp0 hx g1 g2 g3 (λp _ _=>hlk _ p) (λ_=>hlk _ p0) (λp hpm m'' _ hor=>?_) (λm'' _=>?_) (λ_=>g4) (λe=>absurd e (by omega)) (λhno=>absurd ((hnw _ _ _).2 (.inr rfl)) hno) (λi' hi' hne p' hp' hl=>?_) (λp hpm _ c=>?_)
  ·rw [hnw]
   refine ⟨λc=>c.resolve_right λc=>?_,.inl⟩
   obtain ⟨e1,e2⟩:=tD hj hpm hp0 c
   rcases hor with g | g
   ·exact g e2
   ·exact g e1
  ·rw [hck]
   exact ⟨λc=>c.resolve_right λc=>xd hj hp0 _ c.symm,.inl⟩
  ·exact h.excl i i' hi hi' (λe=>hne e.symm) p0 hp0 p' hp' hl.symm (.inl (htrue p0))
  ·rcases (hnw _ _ _).1 c with c | c
   ·exact h.both i hi p hpm (htrue p) c
   ·have:=(tD hj hpm hp0 c).1
    omega
 ·have hmm:m'=m:=hm
  subst hmm
  have h6:=hj.i6
  have hst:=vE (uK hE hj h2 (E.J i).seq) hn1.2 hf hj.i6 hp.cl hp.inc hp.good hpv (by omega) (by simp) (by simp;omega)
  have ha:(32+(i:Int)).toNat=32+i:=by omega
  rw [ha] at hst
  unfold kY
  rw [hst]
  refine ⟨λe=>(by cases e),λd hd=>?_⟩
  cases hd
  refine ⟨rfl,rfl,?_⟩
  obtain ⟨g1,g2,g3⟩:=tI (seq:=(E.J i).seq) hf hE.L.1 h6
  refine h.tick hi hx g1 (λl hl _=>g2 l hl) g3 hE (λp _=>hlk _ p) (λp hpm m'' _=>?_) λm'' _=>?_
  ·rw [hnw]
   exact ⟨λc=>c.resolve_right λc=>xd hj hpm _ c,.inl⟩
  ·rw [hck]
   exact ⟨λc=>c.symm.imp (λe=>BB e) id,λc=>c.symm.imp id λe=>by rw [e]⟩
theorem Dp (hE:fK E) (h:ie E ns S) (hi:E.on i) (hx:ns[m]?=some x) (hS:S i=⟨4,dn,D⟩) (hv:(finV (E.J i))[q]?=some v) (hq:dn q=none) (hm:v.node.toNat=m) (hp:PF i p v):kY E ns S i m p x v q ⟨4,dn,D⟩:=by
 have hj:=hE.job i hi
 have hf:=h.fix m x hx
 have hn1:=hE.n
 obtain ⟨vs',hpv⟩:=hp.vs
 have hnw:∀ (d:Done) (m':Nat) (p':aB),Nw (E.J i) ⟨4,upd dn q d,D⟩ m' p'↔Nw (E.J i) (S i) m' p'∨pgV m' p'=v:=λd m' p'=>by
  rw [hS]
  show (1≤m'∨Ex (finV (E.J i)) (upd dn q d) (pgV m' p'))↔(1≤m'∨Ex (finV (E.J i)) dn (pgV m' p'))∨pgV m' p'=v
  rw [yI hv hq d,or_assoc]
 have hck:∀ (d:Done) (m':Nat),Ck (E.J i) i ⟨4,upd dn q d,D⟩ m'↔Ck (E.J i) i (S i) m'∨ckV i (E.J i).seq m'=v:=λd m'=>by
  rw [hS]
  show (1≤m'∨Ex (finV (E.J i)) (upd dn q d) (ckV i (E.J i).seq m'))↔(1≤m'∨Ex (finV (E.J i)) dn (ckV i (E.J i).seq m'))∨ckV i (E.J i).seq m'=v
  rw [yI hv hq d,or_assoc]
 have hlk:∀ (d:Done) (p':aB),Lk (E.J i) i ⟨4,upd dn q d,D⟩ p'↔Lk (E.J i) i (S i) p'∧pgV 0 p'≠v:=λd p'=>by
  rw [hS]
  exact D2 (BD hj hn1.1) hv d (pgV 0 p')
 rcases BC hj hn1.1 (List.mem_of_getElem? hv) with rfl | ⟨p0,hp0,rfl⟩
 ·have hmm:0=m:=hm
  subst hmm
  have h6:=hj.i6
  have hst:=vE (uK hE hj (by omega) (E.J i).seq) hn1.2 hf hj.i6 hp.cl hp.inc hp.good hpv (by omega) (by simp) (by simp;omega)
  have ha:(32+(i:Int)).toNat=32+i:=by omega
  rw [ha] at hst
  unfold kY
  rw [hst]
  refine ⟨λe=>(by cases e),λd hd=>?_⟩
  cases hd
  refine ⟨rfl,rfl,?_⟩
  obtain ⟨g1,g2,g3⟩:=tI (seq:=(E.J i).seq) hf hE.L.1 h6
  refine h.tick hi hx g1 (λl hl _=>g2 l hl) g3 hE (λp hpm=>?_) (λp hpm m'' _=>?_) λm'' _=>?_
  ·rw [hlk]
   exact ⟨λc=>c.1,λc=>⟨c,xd hj hpm _⟩⟩
  ·rw [hnw]
   exact ⟨λc=>c.resolve_right λc=>xd hj hpm _ c,.inl⟩
  ·rw [hck]
   exact ⟨λc=>c.symm.imp (λe=>BB e) id,λc=>c.symm.imp id λe=>by rw [e]⟩
 ·have hmm:0=m:=hm
  subst hmm
  obtain ⟨e,l1,l2⟩:=hj.pl hp0
  have hst:=vE (uJ hE hj (by omega) hp0) hn1.2 hf hj.i6 hp.cl hp.inc hp.good hpv (by omega) (by rw [ib];omega) (by rw [ib];omega)
  have ha:(p0.Line * 8).toNat=p0.Line.toNat * 8:=by omega
  rw [ha] at hst
  unfold kY
  rw [hst]
  refine ⟨λe=>(by cases e),λd hd=>?_⟩
  cases hd
  refine ⟨rfl,rfl,?_⟩
  obtain ⟨g1,g2,g3,g4⟩:=uL hf l1 l2
  have hlk0:Lk (E.J i) i (S i) p0:=by rw [hS];exact ⟨q,hv,hq⟩
  refine h.page hE hi hp0 hx g1 g2 g3 (λp hpm hne=>?_) (λe=>absurd rfl e) (λp hpm m'' _ hor=>?_) (λm'' _=>?_) (λ_=>g4) (λ_ c=>absurd rfl ((hlk _ _).1 c).2) (λhno=>absurd ((hnw _ _ _).2 (.inr rfl)) hno) (λi' hi' hne p' hp' hl=>?_) (λp hpm c1 c=>?_)
  ·rw [hlk]
   exact ⟨λc=>c.1,λc=>⟨c,λe=>hne (tD hj hpm hp0 e).2⟩⟩
  ·rw [hnw]
   refine ⟨λc=>c.resolve_right λc=>?_,.inl⟩
   obtain ⟨e1,e2⟩:=tD hj hpm hp0 c
   rcases hor with g | g
   ·exact g e2
   ·exact g e1
  ·rw [hck]
   exact ⟨λc=>c.resolve_right λc=>xd hj hp0 _ c.symm,.inl⟩
  ·exact h.excl i i' hi hi' (λe=>hne e.symm) p0 hp0 p' hp' hl.symm (.inl hlk0)
  ·obtain ⟨d1,d2⟩:=(hlk _ _).1 c1
   rcases (hnw _ _ _).1 c with c | c
   ·exact h.both i hi p hpm d1 c
   ·exact d2 c
end
end Go.Proofs.YtegepanmkjemjaaGreat
