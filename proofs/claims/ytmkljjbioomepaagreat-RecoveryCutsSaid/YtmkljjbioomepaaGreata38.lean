import Derived.Test.YtmkljjbioomepaaGreata37
set_option linter.all false
namespace Go.Proofs.YtmkljjbioomepaaGreat
open Go.Proofs.Tryz Go.b8
variable {C:cT} {E:Env} {P:Prop} {c i k m n q:Nat} {l:eM} {p:fx} {v:bn} {vs:List bn} {x:bt}
section
open iH
theorem aiS {n:bt} (fO:jW p) {l':eM} (au:l.pair=p) (hl:l'.pair=(p.step n).1) (aw:p.bN≠[]):oY l'<oY l:=by
 obtain ⟨v,im,fP⟩:=Fz aw;by_cases aA:p.refusal v n=0
 ·exact ajP fO (λv2 HX e=>by rw [fP] at e;cases e;exact aA) au hl aw
 ·have dw:=fO.nr v im fP;have aX:=RW fP aA;unfold oY;rw [au,hl,aX,fP];show (p.bN.tail.map _).sum - 0<_;rw [fP];simp only [kQ,qR,List.tail_cons];omega
theorem ajU (x:bt) (au:C.aU[m]?=some l) (fO:jW l.pair) (aw:l.pair.bN≠[]):oX (C.comes m l (l.pair.step x).1 (l.pair.step x).2.2)<oX C:=by
 have kW:∃ l',(C.comes m l (l.pair.step x).1 (l.pair.step x).2.2).aU=C.aU.set m l'/\l'.pair=(l.pair.step x).1:=by
  cases (l.pair.step x).2.2 with
  |none=>exact ⟨_,rfl,rfl⟩
  |some d=>exact ⟨_,rfl,rfl⟩
 obtain ⟨l',bY,bg⟩:=kW;unfold oX;rw [bY,oz];have uW:=aiS fO (l:=l) (l':=l') rfl bg aw;have:=RJ (l:=C.aU.map oY) (i:=m) (a:=oY l) (b:=oY l') (by rw [gV,au];rfl);omega
theorem amT {im:List bn} (fP:p.bN=v::im) (J:v.kind=1\/(v.kind=3/\(v.at_.toNat<56\/168<=v.at_.toNat))) (i:Nat) (af:56<=i) (al:i<168):(p.step x).2.1.get i=x.get i:=by
 by_cases aA:p.refusal v x=0
 ·have he:∀ pc,(exec v pc x).1.get i=x.get i:=λpc=>by
   unfold exec;rcases J with e | ⟨e,ak⟩
   ·rw [if_pos e]
   ·rw [if_neg (by omega),if_neg (by omega),if_pos e];show (x.kS v.at_ v.old v.new).get i=_;unfold bt.kS;split
    ·unfold bt.get;simp only;rw [gd,gd,nC (by omega)]
    ·rfl
  rw [L4 fP aA];split
  ·exact he _
  ·exact he _
 ·rw [RW fP aA]
theorem RL {g cU:fa} (h:cU.bare=g.bare):cU.aQ=g.aQ:=by
 have:cU.bare.aQ=g.bare.aQ:=by rw [h]
 exact this
structure rG (n:Nat) (C:cT):Prop where
 inc:C.inc=1
 live:C.alive=true
 aU:C.aU.length=n
 x_:∀ (k:Nat) (l:eM),C.aU[k]?=some l->MN l.pair
theorem rG.comes {n:Nat} {C:cT} (h:rG n C) {m:Nat} {l:eM} (au:C.aU[m]?=some l) (x:bt):rG n (C.comes m l (l.pair.step x).1 (l.pair.step x).2.2):=by
 refine ⟨?_,(ahp C m l _ _).trans h.live,?_,λk l' J=>?_⟩
 ·cases (l.pair.step x).2.2<;>exact h.inc
 ·cases (l.pair.step x).2.2<;>simp [cT.comes,h.aU]
 ·by_cases e:k=m
  ·subst e;obtain ⟨l2,al,aL⟩:=rx au (l.pair.step x).1 (l.pair.step x).2.2;rw [al] at J;cases J;rw [aL];exact ak8 (h.x_ k l au)
  ·rw [Cg e] at J;exact h.x_ k l' J
theorem aas {F:a9} (aJ:dK F) {j:Nat} (b0:F.bl[i]?=some C) (ak:rG E.n C) (au:C.aU[j]?=some l) (ao:F.nodes[j]?=some x) (aw:l.pair.bN≠[]) {cf:Nat->Option a_} (fb:lk C vs cf):∃ v im q dA,RX E F.nodes i j C vs cf l x v im q dA:=by obtain ⟨v,im,fP⟩:=Fz aw;obtain ⟨q,dA,gw,atI,jb,z1⟩:=(fb.lane j l au).head fP;have yu:=(aJ.du.ok.bw i C b0).lane j l au;exact ⟨v,im,q,dA,au,ao,fP,gw,atI,jb,z1,yu.bw,yu.inc.trans ak.inc,aJ.du.fE C (dn b0) l (dn au),ak.x_ j l au⟩
structure ln (E:Env) (rs:eI) (F:a9) (A:cd) (g:kt) (gr:Nat->fa):Prop where
 kT:dK F
 lines:F.lines=E.L
 nk:F.cN=[]
 Gn:4<=F.bl.length
 rep:qi E A F.nodes
 law:iI E A
 LC:I5 rs A gr
 d9:∃ C,F.bl[0]?=some C/\rG E.n C/\(g.aQ<=4->lk C (g7 E g.aQ) g.cf/\(g.aQ=0->A7 E C F.nodes))/\(5<=g.aQ->C.batch=none/\mO C)
 EO:iC E A g
 Lw:xZ E A g
 P5:g.aQ=8->ku E A/\(∀ m,m<E.n->A.gq m=false)/\∀ m,m<E.n->∀ p ∈ cA E,A.cO m (b9 p)=0
 EY:∀ c ∈ rs,∃ C,F.bl[c]?=some C/\rG E.n C/\((gr c).aQ<=9->lk C (eH E c (gr c)) (gr c).cf/\((gr c).aQ=3->Dh C F.nodes))/\(10<=(gr c).aQ->C.batch=none/\mO C)
 wI:∀ c ∈ rs,ef E rs A F.nodes gr c/\um E (gr c)/\vu E c (gr c)/\(gr c).aQ<=12
 Lg:(∃ p ∈ cA E,A.cO 0 (b9 p)=1)->n6 E A
 op:(∀ c ∈ rs,(gr c).aQ=12)->∀ m,A.fA m=false
 rest:∀ (c:Nat) (C:cT),c≠0->c ∉ rs->F.bl[c]?=some C->rG E.n C/\C.batch=none/\mO C
theorem zA.ld (aj:1<=E.n) {A A':cd} (h:zA E A A'):zx E A A':=⟨h.mono,λ_=>h.EM,λ_ a p ar=>h.Ll a 0 aj p ar⟩
section
variable {E:Env} {rs:eI} {F ew:a9} {A:cd} {g:kt} {gr:Nat->fa}
theorem ak' (aI:di E) {cm:List bt} (h:ef E rs A cm gr c) (hm:ku E A) (aw:(eH E c (gr c))[q]?=some v):v.kind=1\/(v.kind=3/\(v.at_.toNat<56\/168<=v.at_.toNat)):=by
 have aj:=aI.e.n;have no:∀ {P:Prop},(∃ m,m<E.n/\A.eo m=true)->P:=λ⟨m,af,al⟩=>by rw [hm m af] at al;cases al
 unfold ef at h;unfold eH at aw;split at aw
 ·obtain ⟨m,_,rfl⟩:=eQ.1 (dn aw);exact .inl rfl
 ·obtain ⟨m,_,rfl⟩:=eQ.1 (dn aw);exact .inr ⟨rfl,.inl (by show ((24:Int)).toNat<56;omega)⟩
 ·have:=dn aw;simp only [lT,zj] at this;subst this;exact .inr ⟨rfl,.inl (by show ((49:Int)).toNat<56;omega)⟩
 ·rcases Sk aw with ⟨m,_,⟨_,rfl⟩ | ⟨_,rfl⟩⟩ | ⟨_,rfl⟩<;>exact .inl rfl
 ·rename_i e;rw [e] at h;exact no h.2.2.1
 ·rename_i e;rw [e] at h;exact no ⟨0,by omega,h.2.1 0 (by omega)⟩
 ·rename_i e;rw [e] at h;exact no ⟨0,by omega,h.2.1 0 (by omega)⟩
 ·rename_i e;rw [e] at h;exact no ⟨0,by omega,h.2.1 0 (by omega)⟩
 ·rename_i e;rw [e] at h;obtain ⟨p,ar,rfl⟩:=eQ.1 (dn aw);have:=h.2.2.2.2.1 p ar;exact .inr ⟨rfl,.inr (by show 168<=(p.b5 * 8).toNat;omega)⟩
 ·have:=dn aw;simp only [lq,zj] at this;subst this;exact .inr ⟨rfl,.inl (by show ((49:Int)).toNat<56;omega)⟩
 ·simp at aw
theorem anA {A:cd} {g:kt} (aj:1<=E.n) (h:iC E A g) (bE:iI E A) (ca:g.aQ<=4):(∃ p ∈ cA E,A.cO 0 (b9 p)=1)->n6 E A:=λ⟨p,ar,af⟩=>by
 unfold iC at h;split at h
 ·have:=h.2.2.1 0 (by omega) p ar;omega
 ·exact h.1
 ·exact h.1
 ·exact (bE.l2 0 (by omega) (h.1 0 (by omega))).1
 ·exact (bE.l2 0 (by omega) (h.1 0 (by omega))).1
 ·omega
 ·rename_i eK fj fL g5 oo wv;exfalso;obtain e | e | e | e | e:g.aQ=0\/g.aQ=1\/g.aQ=2\/g.aQ=3\/g.aQ=4:=by omega
  ·exact eK e
  ·exact fj e
  ·exact fL e
  ·exact g5 e
  ·exact oo e
theorem anB {A A':cd} (aj:1<=E.n) (bE:iI E A) (JA:iI E A') (aA:zA E A A') (au:(∃ p ∈ cA E,A.cO 0 (b9 p)=1)->n6 E A):(∃ p ∈ cA E,A'.cO 0 (b9 p)=1)->n6 E A':=λ⟨p,ar,af⟩=>by
 by_cases hm:ku E A'
 ·have g4:=aA.some_ hm;refine aA.mono.lb (au ⟨p,ar,?_⟩);have aN:=(bE.eU 0 (by omega) p ar).1;have uC:A.cO 0 (b9 p)≠0:=λe=>by have:=aA.Ll g4 0 (by omega) p ar e;omega
  have bI:A.cO 0 (b9 p)≠2:=λe=>by have:=bE.oS 0 (by omega) p ar e 0 (by omega);rw [g4 0 (by omega)] at this;cases this
  omega
 ·have:∃ m,m<E.n/\A'.eo m=true:=by
   refine Classical.byContradiction λab=>hm λm hm=>?_
   cases pT:A'.eo m with
   |false=>rfl
   |true=>exact absurd ⟨m,hm,pT⟩ ab
  obtain ⟨m,bs,bI⟩:=this;exact (JA.l2 m bs bI).1
theorem YN {cm:List bt} (h:ef E rs A cm gr c) (aL:(gr c).aQ=3):Own E A c:=h.own (.inr (.inl ⟨by omega,by omega⟩))
theorem amU (aI:di E) (gS:∀ c ∈ rs,1<=c/\c<6) (h:ln E rs F A g gr) (aX:wT i m F=some ew) :
  ∃ A' cU ie,ln E rs ew A' cU ie/\cU.aQ=g.aQ/\(∀ c,(ie c).bare=(gr c).bare)/\(5<=g.aQ->zA E A A')/\fN E A A'/\(i=0\/i ∈ rs)/\∃ C C',F.bl[i]?=some C/\ew.bl[i]?=some C'/\oX C'<oX C/\∀ k,k≠i->ew.bl[k]?=F.bl[k]?:=by
 obtain ⟨C,l,x,b0,au,ao,aw,qp⟩:=Hv.1 aX;have aca:=h.kT.wT aX;have aK:=dy b0;have Ah:l.pair.bN≠[]:=λe=>aw (by rw [e];rfl)
 have fO:jW l.pair:=h.kT.du.fE C (dn b0) l (dn au);have rb:=aI.e.n;have th:ew.bl[i]?=some (C.comes m l (l.pair.step x).1 (l.pair.step x).2.2):=by rw [qp];exact qe aK
 have Ej:∀ k,k≠i->ew.bl[k]?=F.bl[k]?:=λk J=>by rw [qp];exact nC (λe=>J e.symm)
 have B0:ew.nodes=F.nodes.set m (l.pair.step x).2.1:=by rw [qp]
 have po:=ajU x au fO Ah;by_cases D4:i=0
 ·subst D4;obtain ⟨Iw,eK,fj,fL,g5⟩:=h.d9;rw [b0] at eK;cases eK;have oh:g.aQ<=4:=by
   refine Q2 λaK=>?_
   exact Ah ((g5 aK).2 m l au)
  obtain ⟨fb,DX⟩:=fL oh;obtain ⟨v,im,q,dA,aC⟩:=aas h.kT b0 fj au ao Ah fb;obtain ⟨A',cU,st⟩:=aoc aI h.rep h.law h.EO h.Lw oh fb aC DX;have uO:m<E.n:=by have:=dy ao;rw [h.rep.len] at this;exact this
  have KQ:∀ c ∈ rs,Own E A c->A'=A/\ew.nodes=F.nodes:=λc _ aq=>by rw [B0];exact st.stay (aq.1 m uO)
  refine ⟨A',cU,gr,⟨aca,by rw [qp];exact h.lines,by rw [qp];exact h.nk,by rw [qp];simpa using h.Gn,by rw [B0];exact st.rep,st.law,?_,⟨_,th,fj.comes au x,λ_=>⟨by rw [st.aQ];exact st.vG,λe=>by rw [B0];exact st.qk (by rw [<-st.aQ];exact e)⟩,λe=>absurd e (by rw [st.aQ];omega)⟩,st.ok,st.res,λe=>absurd e (by rw [st.aQ];omega),λc ab=>?_,λc ab=>?_,anA rb.1 st.ok st.law (by rw [st.aQ];exact oh),λed m=>by rw [st.fA];exact h.op ed m,λc qV af al aL=>h.rest c qV af al (by rw [<-Ej c af];exact aL)⟩,st.aQ,λc=>rfl,λe=>by omega,st.ld.mono,.inl rfl,C,_,b0,th,po,Ej⟩
  ·rcases h.LC with e | ⟨c,a,b,d⟩
   ·exact .inl (st.gU.trans e)
   ·exact .inr ⟨c,a,st.gU.trans b,d⟩
  ·obtain ⟨qV,bs,bI,dd,ic⟩:=h.EY c ab;have:=gS c ab;refine ⟨qV,by rw [Ej c (by omega)];exact bs,bI,λe=>⟨(dd e).1,λdF=>?_⟩,ic⟩
   rw [(KQ c ab (YN (h.wI c ab).1 dF)).2];exact (dd e).2 dF
  ·obtain ⟨mo,mq,ru,tK⟩:=h.wI c ab;refine ⟨?_,mq,ru,tK⟩;by_cases ed:nW (gr c)
   ·obtain ⟨bY,bg⟩:=KQ c ab (mo.own ed);rw [bY,bg];exact mo
   ·exact mo.ld rfl ed st.ld λ_ w=>w
 ·by_cases BR:i ∈ rs
  ·have Ox:=gS i BR;obtain ⟨Iw,eK,fj,fL,g5⟩:=h.EY i BR;rw [b0] at eK;cases eK;obtain ⟨mo,mq,ru,tK⟩:=h.wI i BR;have oh:(gr i).aQ<=9:=by
    refine Q2 λaK=>?_
    exact Ah ((g5 aK).2 m l au)
   obtain ⟨fb,qx⟩:=fL oh;obtain ⟨v,im,q,dA,aC⟩:=aas h.kT b0 fj au ao Ah fb;obtain ⟨A',cU,st⟩:=aod aI Ox BR gS h.rep h.law mo mq ru fb aC qx h.LC;have JO:cU.aQ=(gr i).aQ:=RL st.bare;have aqw:∀ c,(nt gr i cU c).bare=(gr c).bare:=λc=>by
    by_cases e:c=i
    ·subst e;rw [h'];exact st.bare
    ·rw [rm e]
   have KQ:∀ c ∈ rs,c≠i->Own E A c->A'=A/\ew.nodes=F.nodes:=λc _ cj aq=>by rw [B0];exact st.other c cj aq
   refine ⟨A',g,nt gr i cU,⟨aca,by rw [qp];exact h.lines,by rw [qp];exact h.nk,by rw [qp];simpa using h.Gn,by rw [B0];exact st.rep,st.law,st.gU,?_,h.EO.rec rb.1 st.AA,h.Lw.mono st.AA.mono,λe=>?_,λc ab=>?_,λc ab=>?_,anB rb.1 h.law st.law st.AA h.Lg,λed=>(by have:=ed i BR;rw [h',JO] at this;omega),λc qV af al aL=>h.rest c qV af al (by rw [<-Ej c (λe=>al (by rw [e];exact BR))];exact aL)⟩,rfl,aqw,λ_=>st.AA,st.AA.mono,.inr BR,C,_,b0,th,po,Ej⟩
   ·obtain ⟨Iw,bs,bI,dd,ic⟩:=h.d9;refine ⟨Iw,by rw [Ej 0 (by omega)];exact bs,bI,λe=>⟨(dd e).1,λiN=>?_⟩,ic⟩
    have fp:ku E A:=by have:=h.EO;unfold iC at this;rw [iN] at this;exact this.1
    have yv:=ak' aI mo fp aC.at_;intro k l' y af al kJ aL ca;have ak:=aI.ux;rw [B0] at al;by_cases ta:k=m
    ·subst ta;rw [qe (dy ao)] at al;cases al;rw [amT aC.np yv _ (by omega) (by omega)];exact (dd e).2 iN k l' x af ao kJ aL ca
    ·rw [nC (λbg=>ta bg.symm)] at al;exact (dd e).2 iN k l' y af al kJ aL ca
   ·obtain ⟨a,b,d⟩:=h.P5 e;exact ⟨st.AA.EM a,λm hm=>st.AA.gq a m hm (b m hm),λm hm p ar=>st.AA.Ll a m hm p ar (d m hm p ar)⟩
   ·by_cases e:c=i
    ·subst e;rw [h'];exact ⟨_,th,fj.comes au x,λ_=>⟨st.vG,λdF=>by rw [B0];exact st.ax8 dF⟩,λe=>absurd e (by rw [JO];omega)⟩
    ·obtain ⟨qV,bs,bI,dd,ic⟩:=h.EY c ab;rw [rm e];refine ⟨qV,by rw [Ej c e];exact bs,bI,λDE=>⟨(dd DE).1,λdF=>?_⟩,ic⟩
     rw [(KQ c ab e (YN (h.wI c ab).1 dF)).2];exact (dd DE).2 dF
   ·by_cases e:c=i
    ·subst e;rw [h'];exact ⟨by rw [B0];exact st.ok,st.Qj,st.res,by rw [JO];exact tK⟩
    ·obtain ⟨iU,lG,p3,At⟩:=h.wI c ab;rw [rm e];refine ⟨?_,lG,p3,At⟩;by_cases ed:nW (gr c)
     ·obtain ⟨bY,bg⟩:=KQ c ab e (iU.own ed);rw [bY,bg];exact iU.stay (rm e) (MB st.LL)
     ·exact iU.ld (rm e) ed (st.AA.ld rb.1) (MB st.LL)
  ·exact absurd ((h.rest i C D4 BR b0).2.2 m l au) Ah
end
end
section
open iH
def lI:Nat->Nat
 | 0=>1675
 | 1=>1670
 | 2=>1669
 | 3=>1063
 | 4=>498
 | 5=>486
 | 6=>98
 | 7=>1
 | 8=>1
 | 12=>1680
 | _=>0
theorem QE {k:Nat}:∀ {mD:List (List bn)},(∀ b ∈ mD,cost b<=k)->cost mD.flatten<=mD.length * k
 | [],_=>by simp [cost]
 |b::mD,h=>by
  have af:=QE λc ab=>h c (jz _ ab)
  have al:=h b iA;rw [l7,Aq,l8,nz];omega
theorem Cu {K:Nat} (h:cost vs<=n * k) (aj:n<=m) (f':m * k<=K):cost vs<=K:=ud h (ud (Ib _ aj) f')
section
variable {E:Env} {c:Nat}
theorem anC (n:Nat):(lB n).length=n * 2+1:=by unfold lB;rw [gp,ER (k:=2) (λb ak=>by obtain ⟨m,_,rfl⟩:=eQ.1 ak;rfl)];simp
theorem anD (E:Env) (sp:eI):(lg E sp).length=sp.length * 3:=by unfold lg;rw [ER (k:=3) (λb ak=>by obtain ⟨m,_,rfl⟩:=eQ.1 ak;rfl)];simp
theorem anE (E:Env) (l:List a6):(jV E l).length=(E.n - 1) * (l.length+1):=by unfold jV;rw [ER (k:=l.length+1) (λb ak=>by obtain ⟨m,_,rfl⟩:=eQ.1 ak;simp)];simp
theorem amV (aj:E.n<=5):cost (oH E.n)<=5/\(oH E.n).length<=1024:=by
 refine ⟨?_,by unfold oH;simp;omega⟩;have h:cost (oH E.n)<=(oH E.n).length * 1:=u5 λv aw=>by obtain ⟨m,_,rfl⟩:=eQ.1 aw;exact eJ _
 exact Cu h (show _<=5 by unfold oH;simpa using aj) (by omega)
theorem amW {hY:eI} (aj:hY.length<=5):cost (my hY)<=5/\(my hY).length<=1024:=by
 refine ⟨?_,by unfold my;simp;omega⟩;have h:cost (my hY)<=(my hY).length * 1:=u5 λv aw=>by obtain ⟨m,_,rfl⟩:=eQ.1 aw;exact eJ _
 exact Cu h (show _<=5 by unfold my;simpa using aj) (by omega)
theorem amX:cost (lT c)<=1/\(lT c).length<=1024:=by
 refine ⟨?_,by simp [lT]⟩;have h:cost (lT c)<=(lT c).length * 1:=u5 λv aw=>by simp only [lT,zj] at aw;subst aw;exact eJ _
 exact h
theorem amY:cost (lq c)<=1/\(lq c).length<=1024:=by
 refine ⟨?_,by simp [lq]⟩;have h:cost (lq c)<=(lq c).length * 1:=u5 λv aw=>by simp only [lq,zj] at aw;subst aw;exact eJ _
 exact h
theorem CT (h:v.v.count.toNat<=k):cost [v]<=k:=by
 have h:cost [v]<=([v]:List bn).length * k:=u5 λu hu=>by simp only [zj] at hu;subst hu;exact h
 simpa using h
theorem amZ (aj:E.n<=5):cost (lB E.n)<=606/\(lB E.n).length<=1024:=by
 refine ⟨?_,by have:=anC E.n;omega⟩;unfold lB;rw [Aq];have af:cost ((List.range E.n).map λm=>[eL m 24 1,eL m 48 120]).flatten<=((List.range E.n).map λm=>[eL m 24 1,eL m 48 120]).length * 121:=QE λb ak=>by
  obtain ⟨m,_,rfl⟩:=eQ.1 ak;have:cost ([eL m 24 1]++[eL m 48 120])<=121:=by rw [Aq];have af:cost [eL m 24 1]<=1:=CT (eJ _);have al:cost [eL m 48 120]<=120:=CT (eJ _);omega
  exact this
 have al:=Cu af (show _<=5 by simpa using aj) (eJ (5 * 121));have aL:cost [eL 0 32 1]<=1:=CT (eJ _);omega
theorem am0 (aI:di E) {sp:eI} (aj:sp.length<=5):cost (lg E sp)<=565/\(lg E sp).length<=1024:=by
 refine ⟨?_,by have:=anD E sp;omega⟩;unfold lg;have af:cost (sp.map λm=>[dV m 48 [0],dV m 56 (lK E),dV m 48 [n3 E]]).flatten<=(sp.map λm=>[dV m 48 [0],dV m 56 (lK E),dV m 48 [n3 E]]).length * 113:=QE λb ak=>by
  obtain ⟨m,_,rfl⟩:=eQ.1 ak;have:cost ([dV m 48 [0]]++([dV m 56 (lK E)]++[dV m 48 [n3 E]]))<=113:=by
   rw [Aq,Aq];have af:cost [dV m 48 [0]]<=1:=CT (eJ _);have al:cost [dV m 56 (lK E)]<=111:=CT (by have:=aI.ux;show ((lK E).length:Int).toNat<=111;omega)
   have aL:cost [dV m 48 [n3 E]]<=1:=CT (eJ _);omega
  exact this
 exact Cu af (show _<=5 by simpa using aj) (eJ (5 * 113))
theorem am1 (aI:di E):cost (lD (cA E))<=12/\(lD (cA E)).length<=1024:=by
 refine ⟨?_,by have:=aI.ux.2;unfold lD;simp;omega⟩;have h:cost (lD (cA E))<=(lD (cA E)).length * 1:=u5 λv aw=>by obtain ⟨m,_,rfl⟩:=eQ.1 aw;exact eJ _
 exact Cu h (show _<=12 by unfold lD;simpa using aI.ux.2) (by omega)
theorem am2 {hL:List a6} (aj:hL.length<=12):cost (ox hL)<=12/\(ox hL).length<=1024:=by
 refine ⟨?_,by unfold ox;simp;omega⟩;have h:cost (ox hL)<=(ox hL).length * 1:=u5 λv aw=>by obtain ⟨m,_,rfl⟩:=eQ.1 aw;exact eJ _
 exact Cu h (show _<=12 by unfold ox;simpa using aj) (by omega)
theorem Fd {l:List a6} (aj:l.length<=12):cost (l.map (jO m))<=96:=by
 have h:cost (l.map (jO m))<=(l.map (jO m)).length * 8:=u5 λv aw=>by obtain ⟨m,_,rfl⟩:=eQ.1 aw;exact eJ _
 exact Cu h (show _<=12 by simpa using aj) (by omega)
theorem Zn {l:List a6} (aj:l.length<=12):cost (kn E l)<=97/\(kn E l).length<=1024:=by refine ⟨?_,by unfold kn;simp;omega⟩;have h:kn E l=[dV 0 32 [fl E]]++l.map (jO 0):=rfl;rw [h,Aq];have af:cost [dV 0 32 [fl E]]<=1:=CT (eJ _);have:=Fd (m:=0) aj;omega
theorem Zo (rb:E.n<=5) {l:List a6} (aj:l.length<=12):cost (jV E l)<=388/\(jV E l).length<=1024:=by
 refine ⟨?_,by have:=anE E l;have al:(E.n - 1) * (l.length+1)<=4 * 13:=CW (by omega) (by omega);omega⟩;unfold jV;have af:cost ((List.range (E.n - 1)).map λm=>l.map (jO (m+1))++[dV (m+1) 32 [fl E]]).flatten<=((List.range (E.n - 1)).map λm=>l.map (jO (m+1))++[dV (m+1) 32 [fl E]]).length * 97:=QE λb ak=>by obtain ⟨m,_,rfl⟩:=eQ.1 ak;rw [Aq];have af:cost [dV (m+1) 32 [fl E]]<=1:=CT (eJ _);have:=Fd (m:=m+1) aj;omega
 exact Cu af (show _<=4 by simp;omega) (eJ (4 * 97))
end
theorem MC {D:List a_} {d:a_} (h:D[q]?=some d):fY D q=gZ d:=by unfold fY;rw [gd,h];rfl
def mn:Nat->Option a_:=λ_=>none
def ye (aQ:Nat):fa:=⟨aQ,mn,[],[],0,[],[],[],(0,0)⟩
def w8 (aQ:Nat):Nat:=if aQ<=7 then aQ else aQ - 1
theorem wZ {a b:Nat} (h:a<b) (al:¬ (a=7/\b=8)):a=12\/w8 a<w8 b:=.inr (by unfold w8;split<;>split<;>omega)
structure pC (E:Env) (rs:eI) (A:cd) (cm:List bt) (gr:Nat->fa) (c:Nat) (G:List (List a_)) (s:fa):Prop where
 up:(gr c).aQ=12\/w8 (gr c).aQ<w8 s.aQ
 ok:ef E rs A cm (nt gr c s) c
 Qj:um E s
 cf:s.cf=mn
 LL:lo (gr c)->lo s
 holds:nW (gr c)->nW s
 go:(s.aQ<=9/\jK (dU E c) G=(eH E c s,⟨0,0,0,0,0⟩,false)/\Kp E c G (hG E c s)/\eH E c s≠[]/\cost (eH E c s)+lI s.aQ<=lI (gr c).aQ/\(eH E c s).length<=1024)\/(s.aQ=10/\jK (dU E c) G=([],⟨0,s.fh.1,s.fh.2,qt E.L s.et s.bj,0⟩,true))\/(s.aQ=11/\∃ w,jK (dU E c) G=([],⟨3,0,0,0,w⟩,true))
section
variable {E:Env} {rs:eI} {A:cd} {cm:List bt} {gr:Nat->fa} {c:Nat} {G:List (List a_)} {D:List a_}
structure rQ (E:Env) (c:Nat) (g:fa) (D:List a_):Prop where
 fit:Fit (eH E c g) D
 to:∀ q d,g.cf q=some d->D[q]?=some d
 all:∀ q,q<(eH E c g).length->∃ d,g.cf q=some d
theorem rQ.cf (h:rQ E c (gr c) D) {q:Nat} {v:bn} (aw:(eH E c (gr c))[q]?=some v):∃ d,(gr c).cf q=some d/\D[q]?=some d:=by obtain ⟨d,aC⟩:=h.all q (dy aw);exact ⟨d,aC,h.to q d aC⟩
theorem yZ (aI:di E) (ab:1<=c/\c<6) {s:fa} (h4:s.aQ<=9) (J:Kp E c G (hG E c s)) (bc:(hG E c s []).1.ask=some (eH E c s)) (cj:eH E c s≠[]) (gu:cost (eH E c s)+lI s.aQ<=lI (gr c).aQ/\(eH E c s).length<=1024):(s.aQ<=9/\jK (dU E c) G=(eH E c s,⟨0,0,0,0,0⟩,false)/\Kp E c G (hG E c s)/\eH E c s≠[]/\cost (eH E c s)+lI s.aQ<=lI (gr c).aQ/\(eH E c s).length<=1024)\/(s.aQ=10/\jK (dU E c) G=([],⟨0,s.fh.1,s.fh.2,qt E.L s.et s.bj,0⟩,true))\/(s.aQ=11/\∃ w,jK (dU E c) G=([],⟨3,0,0,0,w⟩,true)):=
 .inl ⟨h4,J.ask aI ab bc,J,cj,gu⟩
theorem R0 (h:(gr c).aQ=12\/(gr c).aQ<=1) (hw:lo (gr c)):P:=by rcases hw with ⟨g,_⟩ | ⟨bs,bI⟩<;>omega
theorem RM (h:(gr c).aQ=12\/(gr c).aQ<=1) (hw:nW (gr c)):P:=by rcases hw with ⟨g,_⟩ | ⟨bs,bI⟩ | ⟨g,_⟩<;>omega
theorem anF (aI:di E) (ab:1<=c/\c<6) (e:(gr c).aQ=12):pC E rs A cm gr c [] (ye 0):=by
 refine ⟨.inl e,?_,⟨λh=>(by have:4<=0:=h.1;omega),λh=>(by have:0=8:=h;omega)⟩,rfl,λh=>R0 (.inl e) h,λh=>RM (.inl e) h,yZ aI ab (by show 0<=9;omega) auX (anY aI.e.n.1) (R' aI.e.n.1) ?_⟩
 ·unfold ef;rw [h'];show ∀ m,m<E.n->∀ d,mn m=some d->_;intro m _ d h;cases h
 ·rw [e];have:=amV (E:=E) aI.e.n.2;show cost (oH E.n)+1675<=1680/\(oH E.n).length<=1024;omega
theorem Kp.congr {f oI:List (List a_)->dM×f7} (h:Kp E c G f) (he:∀ X,f X=oI X):Kp E c G oI:=λX=>(h X).trans (he X)
theorem Xs (aI:di E) (ab:1<=c/\c<6) (e:(gr c).aQ<=1) (J:Kp E c G (tc E c)) (aC:pD E A):pC E rs A cm gr c G (ye 2):=by
 refine ⟨(wZ (b:=2) (by omega) (by omega)),?_,⟨λh=>(by have:4<=2:=h.1;omega),λh=>(by have:2=8:=h;omega)⟩,rfl,λh=>R0 (.inr e) h,λh=>RM (.inr e) h,yZ aI ab (by show 2<=9;omega) J (ann ab.2) (by show lT c≠[];simp [lT]) ?_⟩
 ·unfold ef;rw [h'];exact ⟨aC,λd h=>by cases h⟩
 ·have:=amX (c:=c);have al:1670<=lI (gr c).aQ:=by
   obtain e | e:(gr c).aQ=0\/(gr c).aQ=1:=by omega
   ·rw [e];show 1670<=1675;omega
   ·rw [e];exact eJ _
  show cost (lT c)+1669<=_/\(lT c).length<=1024;omega
theorem Z2:m ∈ sL n D↔m<n/\fY D m=1:=by unfold sL;rw [Ik,jT];simp
theorem aoe (aI:di E) (ab:1<=c/\c<6) (e:(gr c).aQ=0) (J:Kp E c G (hG E c (gr c))) (aN:ef E rs A cm gr c) (aA:rQ E c (gr c) D):∃ s,pC E rs A cm gr c (G++[D]) s:=by
 have aj:=aI.e.n;have eb:eH E c (gr c)=oH E.n:=by unfold eH;rw [e];rfl
 have aJ:hG E c (gr c)=DK E c:=by unfold hG;rw [e];rfl
 have hw:∀ i,i<E.n->fY D i=1\/(fY D i=2/\A.fA i=true):=λi aD=>by obtain ⟨d,af,al⟩:=aA.cf (q:=i) (v:=eL i 24 1) (by rw [eb];unfold oH;rw [gV,rM aD];rfl);unfold ef at aN;rw [e] at aN;rw [MC al];exact aN i aD d af
 have gv:=aA.fit;rw [eb] at gv;rw [aJ] at J;have dQ:Kp E c (G++[D]) (vL E c (sL E.n D)):=J.next λX=>al7 aj.1 gv (λi aD=>(hw i aD).imp id And.left) X
 have rf:∀ m,m<E.n->m ∉ sL E.n D->A.fA m=true:=λm hm fp=>by
  rcases hw m hm with g | ⟨_,g⟩
  ·exact absurd (Z2.2 ⟨hm,g⟩) fp
  ·exact g
 by_cases aE:sL E.n D=[]
 ·refine ⟨_,Xs aI ab (by omega) (dQ.congr λX=>by rw [aE];exact anl X) λm hm=>rf m hm (by rw [aE];simp)⟩
 ·have au:(sL E.n D).length<=5:=by have:=Mj (λi=>fY D i == 1) (List.range E.n);rw [ui] at this;unfold sL;omega
  refine ⟨⟨1,mn,sL E.n D,[],0,[],[],[],(0,0)⟩,(wZ (b:=1) (by omega) (by omega)),?_,⟨λh=>(by have:4<=1:=h.1;omega),λh=>(by have:1=8:=h;omega)⟩,rfl,λh=>R0 (.inr (by omega)) h,λh=>RM (.inr (by omega)) h,yZ aI ab (by show 1<=9;omega) dQ (anm aE) (by show my _≠[];unfold my;simpa using aE) ?_⟩
  ·unfold ef;rw [h'];exact ⟨rf,λm hm=>(Z2.1 hm).1,λq m d _ h=>by cases h⟩
  ·rw [e];have:=amW au;show cost (my (sL E.n D))+1670<=1675/\(my (sL E.n D)).length<=1024;omega
theorem PP (aI:di E) (ab:1<=c/\c<6) (e:(gr c).aQ=1) (cj:eH E c (gr c)≠[]) (J:Kp E c G (hG E c (gr c))) (aN:ef E rs A cm gr c) (aA:rQ E c (gr c) D):∃ s,pC E rs A cm gr c (G++[D]) s:=by
 have aj:=aI.e.n;have eb:eH E c (gr c)=my (gr c).hY:=by unfold eH;rw [e];rfl
 have aJ:hG E c (gr c)=vL E c (gr c).hY:=by unfold hG;rw [e];rfl
 unfold ef at aN;rw [e] at aN;obtain ⟨dr,c2,eA⟩:=aN;have aE:(gr c).hY≠[]:=λbg=>cj (by rw [eb,bg];rfl)
 have ez:∀ {q m:Nat},(gr c).hY[q]?=some m->∃ d,(gr c).cf q=some d/\D[q]?=some d:=λ{q m} aM=>aA.cf (q:=q) (v:=kc m 24 1 2) (by rw [eb];unfold my;rw [gV,aM];rfl)
 have gv:=aA.fit;rw [eb] at gv;rw [aJ] at J;refine ⟨_,Xs aI ab (by omega) (J.next λX=>al8 aE gv (λi aD=>?_) X) λm hm=>?_⟩
 ·obtain ⟨m,hm⟩:∃ m,(gr c).hY[i]?=some m:=⟨_,cp aD⟩;obtain ⟨d,af,al⟩:=ez hm;rw [MC al];exact (eA i m d hm af).2
 ·by_cases gE:m ∈ (gr c).hY
  ·obtain ⟨q,aM⟩:=hn.1 gE;obtain ⟨d,af,_⟩:=ez aM;exact (eA q m d aM af).1
  ·exact dr m hm gE
theorem aof (aI:di E) (ab:1<=c/\c<6) (e:(gr c).aQ=2) (J:Kp E c G (hG E c (gr c))) (aN:ef E rs A cm gr c) (aA:rQ E c (gr c) D):∃ s,pC E rs A cm gr c (G++[D]) s:=by
 have aj:=aI.e.n;have eb:eH E c (gr c)=lT c:=by unfold eH;rw [e];rfl
 have aJ:hG E c (gr c)=tc E c:=by unfold hG;rw [e];rfl
 unfold ef at aN;rw [e] at aN;obtain ⟨dr,c2⟩:=aN;obtain ⟨d,af,al⟩:=aA.cf (q:=0) (v:=kc 0 49 0 (lf c)) (by rw [eb];rfl);have gv:=aA.fit;rw [eb] at gv;rw [aJ] at J;have hw:xK D=gZ d:=by
  cases D with
  |nil=>simp at al
  |cons x xs=>simp at al;subst al;rfl
 rcases c2 d af with ⟨b1,aP⟩ | ⟨c',b1,aP,bT,ec⟩
 ·refine ⟨ye 3,(wZ (b:=3) (by omega) (by omega)),?_,⟨λh=>(by have:4<=3:=h.1;omega),λh=>(by have:3=8:=h;omega)⟩,rfl,λ_=>.inr ⟨by show 3<=3;omega,by show 3<=10;omega⟩,λ_=>.inr (.inl ⟨by show 3<=3;omega,by show 3<=8;omega⟩),yZ aI ab (by show 3<=9;omega) (J.next λX=>al9 ab.2 gv (hw.trans b1) X) ano (Sa _) ?_⟩
  ·unfold ef;rw [h'];exact ⟨⟨dr,aP⟩,λq v d _ h=>by cases h⟩
  ·rw [e];have:=amZ (E:=E) aj.2;show cost (lB E.n)+1063<=1669/\(lB E.n).length<=1024;omega
 ·have Ef:gZ d≠0:=by rw [bT];exact RI c'
  have dQ:=J.next λX=>al_ ab.2 gv (by rw [hw];exact Ef) (by rw [hw,bT];exact λbg=>aP (Yi bg)) X
  have OV:∀ gA,(gr c).cf 0=some gA->gZ gA≠0:=λgA pj=>by rw [af] at pj;cases pj;exact Ef
  refine ⟨ye 11,(wZ (b:=11) (by omega) (by omega)),?_,⟨λh=>(by have:11<=7:=h.2;omega),λh=>(by have:11=8:=h;omega)⟩,rfl,λh=>?_,λh=>?_,.inr (.inr ⟨rfl,_,dQ.out aI ab rfl rfl rfl⟩)⟩
  ·unfold ef;rw [h'];exact ⟨c',b1,aP,by rw [rm aP];exact ec⟩
  ·rcases h with ⟨_,gA,bs,bI⟩ | ⟨bs,_⟩
   ·exact absurd bI (OV gA bs)
   ·omega
  ·rcases h with ⟨_,gA,bs,bI⟩ | ⟨bs,_⟩ | ⟨bs,_⟩
   ·exact absurd bI (OV gA bs)
   ·omega
   ·omega
end
end
end Go.Proofs.YtmkljjbioomepaaGreat
