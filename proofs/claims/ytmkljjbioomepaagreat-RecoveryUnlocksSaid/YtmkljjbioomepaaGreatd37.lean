import Derived.Test.YtmkljjbioomepaaGreatd36
set_option linter.all false
namespace Go.Proofs.YtmkljjbioomepaaGreat
open Go.Proofs.Tryz Go.bs
variable {C:bh} {E:Env} {P:Prop} {c i k m n q:Nat} {l:cA} {p:cR} {v:aQ} {vs:List aQ} {x:aN}
section
open e7
theorem JV {n:aN} (c:fS p) {l':cA} (d:l.pair=p) (b:l'.pair=(p.step n).1) (al:p.a3≠[]):iR l'<iR l:=by
 obtain ⟨v,e0,a⟩:=rv al;by_cases f:p.refusal v n=0
 ·exact IR c (λv2 rf e=>by rw [a] at e;cases e;exact f) d b al
 ·have g:=c.hX v e0 a;have h:=zJ a f;unfold iR;rw [d,b,h,a];show (p.a3.tail.map _).sum - 0<_;rw [a];simp only [gj,jI,List.tail_cons];omega
theorem K7 (x:aN) (h:C.az[m]?=some l) (g:fS l.pair) (al:l.pair.a3≠[]):iQ (C.comes m l (l.pair.step x).1 (l.pair.step x).2.2)<iQ C:=by
 have c:∃ l',(C.comes m l (l.pair.step x).1 (l.pair.step x).2.2).az=C.az.set m l'/\l'.pair=(l.pair.step x).1:=by
  cases (l.pair.step x).2.2 with
  |none=>exact ⟨_,rfl,rfl⟩
  |some d=>exact ⟨_,rfl,rfl⟩
 obtain ⟨l',e,f⟩:=c;unfold iQ;rw [e,iH];have j:=JV g (l:=l) (l':=l') rfl f al;have:=ze (l:=C.az.map iR) (i:=m) (a:=iR l) (b:=iR l') (by rw [dS,h];rfl);omega
theorem N9 {e0:List aQ} (a:p.a3=v::e0) (c:v.kind=1\/(v.kind=3/\(v.at_.toNat<56\/168<=v.at_.toNat))) (i:Nat) (d:56<=i) (f:i<168):(p.step x).2.1.get i=x.get i:=by
 by_cases b:p.refusal v x=0
 ·have he:∀ pc,(exec v pc x).1.get i=x.get i:=λpc=>by
   unfold exec;rcases c with e | ⟨e,g⟩
   ·rw [if_pos e]
   ·rw [if_neg (by omega),if_neg (by omega),if_pos e];show (x.fx v.at_ v.old v.new).get i=_;unfold aN.fx;split
    ·unfold aN.get;simp only;rw [dq,dq,gN (by omega)]
    ·rfl
  rw [vk a b];split
  ·exact he _
  ·exact he _
 ·rw [zJ a b]
theorem zg {g bW:c5} (h:bW.bare=g.bare):bW.aC=g.aC:=by
 have:bW.bare.aC=g.bare.aC:=by rw [h]
 exact this
structure kr (n:Nat) (C:bh):Prop where
 inc:C.inc=1
 live:C.alive=true
 az:C.az.length=n
 nz:∀ (k:Nat) (l:cA),C.az[k]?=some l->v5 l.pair
theorem kr.comes {n:Nat} {C:bh} (h:kr n C) {m:Nat} {l:cA} (b:C.az[m]?=some l) (x:aN):kr n (C.comes m l (l.pair.step x).1 (l.pair.step x).2.2):=by
 refine ⟨?_,(Jf C m l _ _).trans h.live,?_,λk l' a=>?_⟩
 ·cases (l.pair.step x).2.2<;>exact h.inc
 ·cases (l.pair.step x).2.2<;>simp [bh.comes,h.az]
 ·by_cases e:k=m
  ·subst e;obtain ⟨l2,c,d⟩:=x2 b (l.pair.step x).1 (l.pair.step x).2.2;rw [c] at a;cases a;rw [d];exact Mn (h.nz k l b)
  ·rw [kC e] at a;exact h.nz k l' a
theorem Fz {F:aE} (p:cd F) {j:Nat} (k:F.aR[i]?=some C) (o:kr E.n C) (b:C.az[j]?=some l) (r:F.nodes[j]?=some x) (al:l.pair.a3≠[]) {bt:Nat->Option aM} (e:gO C vs bt):∃ v e0 q cl,zA E F.nodes i j C vs bt l x v e0 q cl:=by obtain ⟨v,e0,d⟩:=rv al;obtain ⟨q,cl,g,h,a,f⟩:=(e.lane j l b).head d;have c:=(p.b8.ok.aW i C k).lane j l b;exact ⟨v,e0,q,cl,b,r,d,g,h,a,f,c.aW,c.inc.trans o.inc,p.b8.cE C (b5 k) l (b5 b),o.nz j l b⟩
structure gQ (E:Env) (rs:cT) (F:aE) (A:bu) (g:f7) (gr:Nat->c5):Prop where
 fl:cd F
 lines:F.lines=E.L
 gX:F.bU=[]
 qF:4<=F.aR.length
 rep:jM E A F.nodes
 law:e8 E A
 u6:ug rs A gr
 cB:∃ C,F.aR[0]?=some C/\kr E.n C/\(g.aC<=4->gO C (d8 E g.aC) g.bt/\(g.aC=0->pa E C F.nodes))/\(5<=g.aC->C.batch=none/\hE C)
 q0:e1 E A g
 u1:ns E A g
 xU:g.aC=8->gk E A/\(∀ m,m<E.n->A.dJ m=false)/\∀ m,m<E.n->∀ p ∈ bM E,A.bV m (br p)=0
 q6:∀ c ∈ rs,∃ C,F.aR[c]?=some C/\kr E.n C/\((gr c).aC<=9->gO C (cW E c (gr c)) (gr c).bt/\((gr c).aC=3->qv C F.nodes))/\(10<=(gr c).aC->C.batch=none/\hE C)
 mJ:∀ c ∈ rs,cI E rs A F.nodes gr c/\lN E (gr c)/\mh E c (gr c)/\(gr c).aC<=12
 uM:(∃ p ∈ bM E,A.bV 0 (br p)=1)->iu E A
 op:(∀ c ∈ rs,(gr c).aC=12)->∀ m,A.dj m=false
 rest:∀ (c:Nat) (C:bh),c≠0->c ∉ rs->F.aR[c]?=some C->kr E.n C/\C.batch=none/\hE C
theorem oj.gE (b:1<=E.n) {A A':bu} (h:oj E A A'):og E A A':=⟨h.mono,λ_=>h.qX,λ_ a p c=>h.uR a 0 b p c⟩
section
variable {E:Env} {rs:cT} {F cy:aE} {A:bu} {g:f7} {gr:Nat->c5}
theorem Mq (ay:cg E) {bp:List aN} (h:cI E rs A bp gr c) (hm:gk E A) (al:(cW E c (gr c))[q]?=some v):v.kind=1\/(v.kind=3/\(v.at_.toNat<56\/168<=v.at_.toNat)):=by
 have f:=ay.e.n;have no:∀ {P:Prop},(∃ m,m<E.n/\A.cM m=true)->P:=λ⟨m,b,a⟩=>by rw [hm m b] at a;cases a
 unfold cI at h;unfold cW at al;split at al
 ·obtain ⟨m,_,rfl⟩:=cZ.1 (b5 al);exact .inl rfl
 ·obtain ⟨m,_,rfl⟩:=cZ.1 (b5 al);exact .inr ⟨rfl,.inl (by show ((24:Int)).toNat<56;omega)⟩
 ·have:=b5 al;simp only [g',n3] at this;subst this;exact .inr ⟨rfl,.inl (by show ((49:Int)).toNat<56;omega)⟩
 ·rcases zV al with ⟨m,_,⟨_,rfl⟩ | ⟨_,rfl⟩⟩ | ⟨_,rfl⟩<;>exact .inl rfl
 ·rename_i e;rw [e] at h;exact no h.2.2.1
 ·rename_i e;rw [e] at h;exact no ⟨0,by omega,h.2.1 0 (by omega)⟩
 ·rename_i e;rw [e] at h;exact no ⟨0,by omega,h.2.1 0 (by omega)⟩
 ·rename_i e;rw [e] at h;exact no ⟨0,by omega,h.2.1 0 (by omega)⟩
 ·rename_i e;rw [e] at h;obtain ⟨p,d,rfl⟩:=cZ.1 (b5 al);have:=h.2.2.2.2.1 p d;exact .inr ⟨rfl,.inr (by show 168<=(p.bm * 8).toNat;omega)⟩
 ·have:=b5 al;simp only [gS,n3] at this;subst this;exact .inr ⟨rfl,.inl (by show ((49:Int)).toNat<56;omega)⟩
 ·simp at al
theorem P5 {A:bu} {g:f7} (o:1<=E.n) (h:e1 E A g) (a:e8 E A) (l:g.aC<=4):(∃ p ∈ bM E,A.bV 0 (br p)=1)->iu E A:=λ⟨p,b,k⟩=>by
 unfold e1 at h;split at h
 ·have:=h.2.2.1 0 (by omega) p b;omega
 ·exact h.1
 ·exact h.1
 ·exact (a.l2 0 (by omega) (h.1 0 (by omega))).1
 ·exact (a.l2 0 (by omega) (h.1 0 (by omega))).1
 ·omega
 ·rename_i c d f i j q;exfalso;obtain e | e | e | e | e:g.aC=0\/g.aC=1\/g.aC=2\/g.aC=3\/g.aC=4:=by omega
  ·exact c e
  ·exact d e
  ·exact f e
  ·exact i e
  ·exact j e
theorem P6 {A A':bu} (r:1<=E.n) (h:e8 E A) (c:e8 E A') (f:oj E A A') (k:(∃ p ∈ bM E,A.bV 0 (br p)=1)->iu E A):(∃ p ∈ bM E,A'.bV 0 (br p)=1)->iu E A':=λ⟨p,b,q⟩=>by
 by_cases hm:gk E A'
 ·have a:=f.some_ hm;refine f.mono.lb (k ⟨p,b,?_⟩);have o:=(h.cN 0 (by omega) p b).1;have l:A.bV 0 (br p)≠0:=λe=>by have:=f.uR a 0 (by omega) p b e;omega
  have g:A.bV 0 (br p)≠2:=λe=>by have:=h.iM 0 (by omega) p b e 0 (by omega);rw [a 0 (by omega)] at this;cases this
  omega
 ·have:∃ m,m<E.n/\A'.cM m=true:=by
   refine Classical.byContradiction λj=>hm λm hm=>?_
   cases d:A'.cM m with
   |false=>rfl
   |true=>exact absurd ⟨m,hm,d⟩ j
  obtain ⟨m,i,g⟩:=this;exact (c.l2 m i g).1
theorem DL {bp:List aN} (h:cI E rs A bp gr c) (a:(gr c).aC=3):Own E A c:=h.own (.inr (.inl ⟨by omega,by omega⟩))
theorem N_ (ay:cg E) (T:∀ c ∈ rs,1<=c/\c<6) (h:gQ E rs F A g gr) (XW:fe i m F=some cy) :
  ∃ A' bW Xv,gQ E rs cy A' bW Xv/\bW.aC=g.aC/\(∀ c,(Xv c).bare=(gr c).bare)/\(5<=g.aC->oj E A A')/\dp E A A'/\(i=0\/i ∈ rs)/\∃ C C',F.aR[i]?=some C/\cy.aR[i]?=some C'/\iQ C'<iQ C/\∀ k,k≠i->cy.aR[k]?=F.aR[k]?:=by
 obtain ⟨C,l,x,K,M,XA,al,s⟩:=jR.1 XW;have B:=h.fl.fe XW;have G:=b3 K;have r:l.pair.a3≠[]:=λe=>al (by rw [e];rfl)
 have XY:fS l.pair:=h.fl.b8.cE C (b5 K) l (b5 M);have N:=ay.e.n;have z:cy.aR[i]?=some (C.comes m l (l.pair.step x).1 (l.pair.step x).2.2):=by rw [s];exact g5 G
 have j:∀ k,k≠i->cy.aR[k]?=F.aR[k]?:=λk XZ=>by rw [s];exact gN (λe=>XZ e.symm)
 have f:cy.nodes=F.nodes.set m (l.pair.step x).2.1:=by rw [s]
 have Xz:=K7 x M XY r;by_cases Xx:i=0
 ·subst Xx;obtain ⟨XD,XB,XC,XM,XN⟩:=h.cB;rw [K] at XB;cases XB;have H:g.aC<=4:=by
   refine vq λG=>?_
   exact r ((XN G).2 m l M)
  obtain ⟨D,XG⟩:=XM H;obtain ⟨v,e0,q,cl,aq⟩:=Fz h.fl K XC M XA r D;obtain ⟨A',bW,st⟩:=Qj ay h.rep h.law h.q0 h.u1 H D aq XG;have XH:m<E.n:=by have:=b3 XA;rw [h.rep.len] at this;exact this
  have o:∀ c ∈ rs,Own E A c->A'=A/\cy.nodes=F.nodes:=λc _ XK=>by rw [f];exact st.stay (XK.1 m XH)
  refine ⟨A',bW,gr,⟨B,by rw [s];exact h.lines,by rw [s];exact h.gX,by rw [s];simpa using h.qF,by rw [f];exact st.rep,st.law,?_,⟨_,z,XC.comes M x,λ_=>⟨by rw [st.aC];exact st.mu,λe=>by rw [f];exact st.jN (by rw [<-st.aC];exact e)⟩,λe=>absurd e (by rw [st.aC];omega)⟩,st.ok,st.res,λe=>absurd e (by rw [st.aC];omega),λc u=>?_,λc u=>?_,P5 N.1 st.ok st.law (by rw [st.aC];exact H),λL m=>by rw [st.dj];exact h.op L m,λc O Q I U=>h.rest c O Q I (by rw [<-j c Q];exact U)⟩,st.aC,λc=>rfl,λe=>by omega,st.gE.mono,.inl rfl,C,_,K,z,Xz,j⟩
  ·rcases h.u6 with e | ⟨c,a,b,d⟩
   ·exact .inl (st.dZ.trans e)
   ·exact .inr ⟨c,a,st.dZ.trans b,d⟩
  ·obtain ⟨O,X,Y,J,Z⟩:=h.q6 c u;have:=T c u;refine ⟨O,by rw [j c (by omega)];exact X,Y,λe=>⟨(J e).1,λP=>?_⟩,Z⟩
   rw [(o c u (DL (h.mJ c u).1 P)).2];exact (J e).2 P
  ·obtain ⟨V,XO,XP,XQ⟩:=h.mJ c u;refine ⟨?_,XO,XP,XQ⟩;by_cases L:ie (gr c)
   ·obtain ⟨XF,W⟩:=o c u (V.own L);rw [XF,W];exact V
   ·exact V.gE rfl L st.gE λ_ w=>w
 ·by_cases t:i ∈ rs
  ·have Xw:=T i t;obtain ⟨XD,XB,XC,XM,XN⟩:=h.q6 i t;rw [K] at XB;cases XB;obtain ⟨V,XO,XP,XQ⟩:=h.mJ i t;have H:(gr i).aC<=9:=by
    refine vq λG=>?_
    exact r ((XN G).2 m l M)
   obtain ⟨D,XL⟩:=XM H;obtain ⟨v,e0,q,cl,aq⟩:=Fz h.fl K XC M XA r D;obtain ⟨A',bW,st⟩:=Qk ay Xw t T h.rep h.law V XO XP D aq XL h.u6;have S:bW.aC=(gr i).aC:=zg st.bare;have R:∀ c,(hZ gr i bW c).bare=(gr c).bare:=λc=>by
    by_cases e:c=i
    ·subst e;rw [eS];exact st.bare
    ·rw [kc e]
   have o:∀ c ∈ rs,c≠i->Own E A c->A'=A/\cy.nodes=F.nodes:=λc _ XI XK=>by rw [f];exact st.other c XI XK
   refine ⟨A',g,hZ gr i bW,⟨B,by rw [s];exact h.lines,by rw [s];exact h.gX,by rw [s];simpa using h.qF,by rw [f];exact st.rep,st.law,st.dZ,?_,h.q0.rec N.1 st.oM,h.u1.mono st.oM.mono,λe=>?_,λc u=>?_,λc u=>?_,P6 N.1 h.law st.law st.oM h.uM,λL=>(by have:=L i t;rw [eS,S] at this;omega),λc O Q I U=>h.rest c O Q I (by rw [<-j c (λe=>I (by rw [e];exact t))];exact U)⟩,rfl,R,λ_=>st.oM,st.oM.mono,.inr t,C,_,K,z,Xz,j⟩
   ·obtain ⟨XD,X,Y,J,Z⟩:=h.cB;refine ⟨XD,by rw [j 0 (by omega)];exact X,Y,λe=>⟨(J e).1,λXE=>?_⟩,Z⟩
    have XJ:gk E A:=by have:=h.q0;unfold e1 at this;rw [XE] at this;exact this.1
    have Xy:=Mq ay V XJ aq.at_;intro k l' y Q I XX U XU;have X3:=ay.lS;rw [f] at I;by_cases XT:k=m
    ·subst XT;rw [g5 (b3 XA)] at I;cases I;rw [N9 aq.hV Xy _ (by omega) (by omega)];exact (J e).2 XE k l' x Q XA XX U XU
    ·rw [gN (λW=>XT W.symm)] at I;exact (J e).2 XE k l' y Q I XX U XU
   ·obtain ⟨a,b,d⟩:=h.xU e;exact ⟨st.oM.qX a,λm hm=>st.oM.dJ a m hm (b m hm),λm hm p XV=>st.oM.uR a m hm p XV (d m hm p XV)⟩
   ·by_cases e:c=i
    ·subst e;rw [eS];exact ⟨_,z,XC.comes M x,λ_=>⟨st.mu,λP=>by rw [f];exact st.U9 P⟩,λe=>absurd e (by rw [S];omega)⟩
    ·obtain ⟨O,X,Y,J,Z⟩:=h.q6 c u;rw [kc e];refine ⟨O,by rw [j c e];exact X,Y,λXS=>⟨(J XS).1,λP=>?_⟩,Z⟩
     rw [(o c u e (DL (h.mJ c u).1 P)).2];exact (J XS).2 P
   ·by_cases e:c=i
    ·subst e;rw [eS];exact ⟨by rw [f];exact st.ok,st.x7,st.res,by rw [S];exact XQ⟩
    ·obtain ⟨XR,X0,X1,X2⟩:=h.mJ c u;rw [kc e];refine ⟨?_,X0,X1,X2⟩;by_cases L:ie (gr c)
     ·obtain ⟨XF,W⟩:=o c u e (XR.own L);rw [XF,W];exact XR.stay (kc e) (vP st.vb)
     ·exact XR.gE (kc e) L (st.oM.gE N.1) (vP st.vb)
  ·exact absurd ((h.rest i C Xx t K).2.2 m l M) r
end
end
section
open e7
def g1:Nat->Nat
 | 0=>1675
 | 1=>1670
 | 2=>1669
 | 3=>1063
 | 4=>498
 | 5=>486
 | 6=>98
 | 7=>1
 | 8=>1
 | 12=>1680
 | _=>0
theorem ww {k:Nat}:∀ {hx:List (List aQ)},(∀ b ∈ hx,cost b<=k)->cost hx.flatten<=hx.length * k
 | [],_=>by simp [cost]
 |b::hx,h=>by
  have d:=ww λc a=>h c (fw _ a)
  have e:=h b eO;rw [hg,oF,hh,h2];omega
theorem pL {K:Nat} (h:cost vs<=n * k) (b:n<=m) (a:m * k<=K):cost vs<=K:=lE h (lE (tj _ b) a)
section
variable {E:Env} {c:Nat}
theorem P7 (n:Nat):(gV n).length=n * 2+1:=by unfold gV;rw [dy,qY (k:=2) (λb a=>by obtain ⟨m,_,rfl⟩:=cZ.1 a;rfl)];simp
theorem P8 (E:Env) (sp:cT):(gL E sp).length=sp.length * 3:=by unfold gL;rw [qY (k:=3) (λb a=>by obtain ⟨m,_,rfl⟩:=cZ.1 a;rfl)];simp
theorem Pv (E:Env) (l:List aK):(fR E l).length=(E.n - 1) * (l.length+1):=by unfold fR;rw [qY (k:=l.length+1) (λb a=>by obtain ⟨m,_,rfl⟩:=cZ.1 a;simp)];simp
theorem N' (a:E.n<=5):cost (iL E.n)<=5/\(iL E.n).length<=1024:=by
 refine ⟨?_,by unfold iL;simp;omega⟩;have h:cost (iL E.n)<=(iL E.n).length * 1:=l0 λv al=>by obtain ⟨m,_,rfl⟩:=cZ.1 al;exact cY _
 exact pL h (show _<=5 by unfold iL;simpa using a) (by omega)
theorem Oa {eN:cT} (a:eN.length<=5):cost (hr eN)<=5/\(hr eN).length<=1024:=by
 refine ⟨?_,by unfold hr;simp;omega⟩;have h:cost (hr eN)<=(hr eN).length * 1:=l0 λv al=>by obtain ⟨m,_,rfl⟩:=cZ.1 al;exact cY _
 exact pL h (show _<=5 by unfold hr;simpa using a) (by omega)
theorem Ob:cost (g' c)<=1/\(g' c).length<=1024:=by
 refine ⟨?_,by simp [g']⟩;have h:cost (g' c)<=(g' c).length * 1:=l0 λv al=>by simp only [g',n3] at al;subst al;exact cY _
 exact h
theorem Oc:cost (gS c)<=1/\(gS c).length<=1024:=by
 refine ⟨?_,by simp [gS]⟩;have h:cost (gS c)<=(gS c).length * 1:=l0 λv al=>by simp only [gS,n3] at al;subst al;exact cY _
 exact h
theorem p6 (h:v.v.count.toNat<=k):cost [v]<=k:=by
 have h:cost [v]<=([v]:List aQ).length * k:=l0 λu hu=>by simp only [n3] at hu;subst hu;exact h
 simpa using h
theorem Od (e:E.n<=5):cost (gV E.n)<=606/\(gV E.n).length<=1024:=by
 refine ⟨?_,by have:=P7 E.n;omega⟩;unfold gV;rw [oF];have a:cost ((List.range E.n).map λm=>[cX m 24 1,cX m 48 120]).flatten<=((List.range E.n).map λm=>[cX m 24 1,cX m 48 120]).length * 121:=ww λb d=>by
  obtain ⟨m,_,rfl⟩:=cZ.1 d;have:cost ([cX m 24 1]++[cX m 48 120])<=121:=by rw [oF];have a:cost [cX m 24 1]<=1:=p6 (cY _);have c:cost [cX m 48 120]<=120:=p6 (cY _);omega
  exact this
 have c:=pL a (show _<=5 by simpa using e) (cY (5 * 121));have f:cost [cX 0 32 1]<=1:=p6 (cY _);omega
theorem Oe (ay:cg E) {sp:cT} (d:sp.length<=5):cost (gL E sp)<=565/\(gL E sp).length<=1024:=by
 refine ⟨?_,by have:=P8 E sp;omega⟩;unfold gL;have a:cost (sp.map λm=>[cD m 48 [0],cD m 56 (g3 E),cD m 48 [il E]]).flatten<=(sp.map λm=>[cD m 48 [0],cD m 56 (g3 E),cD m 48 [il E]]).length * 113:=ww λb c=>by
  obtain ⟨m,_,rfl⟩:=cZ.1 c;have:cost ([cD m 48 [0]]++([cD m 56 (g3 E)]++[cD m 48 [il E]]))<=113:=by
   rw [oF,oF];have a:cost [cD m 48 [0]]<=1:=p6 (cY _);have e:cost [cD m 56 (g3 E)]<=111:=p6 (by have:=ay.lS;show ((g3 E).length:Int).toNat<=111;omega)
   have f:cost [cD m 48 [il E]]<=1:=p6 (cY _);omega
  exact this
 exact pL a (show _<=5 by simpa using d) (cY (5 * 113))
theorem Of (ay:cg E):cost (gY (bM E))<=12/\(gY (bM E)).length<=1024:=by
 refine ⟨?_,by have:=ay.lS.2;unfold gY;simp;omega⟩;have h:cost (gY (bM E))<=(gY (bM E)).length * 1:=l0 λv al=>by obtain ⟨m,_,rfl⟩:=cZ.1 al;exact cY _
 exact pL h (show _<=12 by unfold gY;simpa using ay.lS.2) (by omega)
theorem Og {eE:List aK} (a:eE.length<=12):cost (iE eE)<=12/\(iE eE).length<=1024:=by
 refine ⟨?_,by unfold iE;simp;omega⟩;have h:cost (iE eE)<=(iE eE).length * 1:=l0 λv al=>by obtain ⟨m,_,rfl⟩:=cZ.1 al;exact cY _
 exact pL h (show _<=12 by unfold iE;simpa using a) (by omega)
theorem DM {l:List aK} (a:l.length<=12):cost (l.map (fO m))<=96:=by
 have h:cost (l.map (fO m))<=(l.map (fO m)).length * 8:=l0 λv al=>by obtain ⟨m,_,rfl⟩:=cZ.1 al;exact cY _
 exact pL h (show _<=12 by simpa using a) (by omega)
theorem D' {l:List aK} (a:l.length<=12):cost (gd E l)<=97/\(gd E l).length<=1024:=by refine ⟨?_,by unfold gd;simp;omega⟩;have h:gd E l=[cD 0 32 [dd E]]++l.map (fO 0):=rfl;rw [h,oF];have b:cost [cD 0 32 [dd E]]<=1:=p6 (cY _);have:=DM (m:=0) a;omega
theorem Ea (e:E.n<=5) {l:List aK} (d:l.length<=12):cost (fR E l)<=388/\(fR E l).length<=1024:=by
 refine ⟨?_,by have:=Pv E l;have f:(E.n - 1) * (l.length+1)<=4 * 13:=p_ (by omega) (by omega);omega⟩;unfold fR;have a:cost ((List.range (E.n - 1)).map λm=>l.map (fO (m+1))++[cD (m+1) 32 [dd E]]).flatten<=((List.range (E.n - 1)).map λm=>l.map (fO (m+1))++[cD (m+1) 32 [dd E]]).length * 97:=ww λb c=>by obtain ⟨m,_,rfl⟩:=cZ.1 c;rw [oF];have a:cost [cD (m+1) 32 [dd E]]<=1:=p6 (cY _);have:=DM (m:=m+1) d;omega
 exact pL a (show _<=4 by simp;omega) (cY (4 * 97))
end
theorem vQ {D:List aM} {d:aM} (h:D[q]?=some d):dv D q=eb d:=by unfold dv;rw [dq,h];rfl
def hn:Nat->Option aM:=λ_=>none
def nF (aC:Nat):c5:=⟨aC,hn,[],[],0,[],[],[],(0,0)⟩
def mY (aC:Nat):Nat:=if aC<=7 then aC else aC - 1
theorem mW {a b:Nat} (h:a<b) (c:¬ (a=7/\b=8)):a=12\/mY a<mY b:=.inr (by unfold mY;split<;>split<;>omega)
structure jo (E:Env) (rs:cT) (A:bu) (bp:List aN) (gr:Nat->c5) (c:Nat) (G:List (List aM)) (s:c5):Prop where
 up:(gr c).aC=12\/mY (gr c).aC<mY s.aC
 ok:cI E rs A bp (hZ gr c s) c
 x7:lN E s
 bt:s.bt=hn
 vb:gR (gr c)->gR s
 holds:ie (gr c)->ie s
 go:(s.aC<=9/\fM (cC E c) G=(cW E c s,⟨0,0,0,0,0⟩,false)/\Kp E c G (eA E c s)/\cW E c s≠[]/\cost (cW E c s)+g1 s.aC<=g1 (gr c).aC/\(cW E c s).length<=1024)\/(s.aC=10/\fM (cC E c) G=([],⟨0,s.c_.1,s.c_.2,jT E.L s.cO s.aV,0⟩,true))\/(s.aC=11/\∃ w,fM (cC E c) G=([],⟨3,0,0,0,w⟩,true))
section
variable {E:Env} {rs:cT} {A:bu} {bp:List aN} {gr:Nat->c5} {c:Nat} {G:List (List aM)} {D:List aM}
structure kz (E:Env) (c:Nat) (g:c5) (D:List aM):Prop where
 fit:Fit (cW E c g) D
 to:∀ q d,g.bt q=some d->D[q]?=some d
 all:∀ q,q<(cW E c g).length->∃ d,g.bt q=some d
theorem kz.bt (h:kz E c (gr c) D) {q:Nat} {v:aQ} (al:(cW E c (gr c))[q]?=some v):∃ d,(gr c).bt q=some d/\D[q]?=some d:=by obtain ⟨d,aq⟩:=h.all q (b3 al);exact ⟨d,aq,h.to q d aq⟩
theorem n0 (ay:cg E) (g:1<=c/\c<6) {s:c5} (e:s.aC<=9) (d:Kp E c G (eA E c s)) (f:(eA E c s []).1.ask=some (cW E c s)) (b:cW E c s≠[]) (a:cost (cW E c s)+g1 s.aC<=g1 (gr c).aC/\(cW E c s).length<=1024):(s.aC<=9/\fM (cC E c) G=(cW E c s,⟨0,0,0,0,0⟩,false)/\Kp E c G (eA E c s)/\cW E c s≠[]/\cost (cW E c s)+g1 s.aC<=g1 (gr c).aC/\(cW E c s).length<=1024)\/(s.aC=10/\fM (cC E c) G=([],⟨0,s.c_.1,s.c_.2,jT E.L s.cO s.aV,0⟩,true))\/(s.aC=11/\∃ w,fM (cC E c) G=([],⟨3,0,0,0,w⟩,true)):=
 .inl ⟨e,d.ask ay g f,d,b,a⟩
theorem zE (h:(gr c).aC=12\/(gr c).aC<=1) (hw:gR (gr c)):P:=by rcases hw with ⟨g,_⟩ | ⟨a,b⟩<;>omega
theorem zh (h:(gr c).aC=12\/(gr c).aC<=1) (hw:ie (gr c)):P:=by rcases hw with ⟨g,_⟩ | ⟨a,b⟩ | ⟨g,_⟩<;>omega
theorem Pw (ay:cg E) (a:1<=c/\c<6) (e:(gr c).aC=12):jo E rs A bp gr c [] (nF 0):=by
 refine ⟨.inl e,?_,⟨λh=>(by have:4<=0:=h.1;omega),λh=>(by have:0=8:=h;omega)⟩,rfl,λh=>zE (.inl e) h,λh=>zh (.inl e) h,n0 ay a (by show 0<=9;omega) R9 (PQ ay.e.n.1) (zY ay.e.n.1) ?_⟩
 ·unfold cI;rw [eS];show ∀ m,m<E.n->∀ d,hn m=some d->_;intro m _ d h;cases h
 ·rw [e];have:=N' (E:=E) ay.e.n.2;show cost (iL E.n)+1675<=1680/\(iL E.n).length<=1024;omega
theorem Kp.congr {f a:List (List aM)->cr×dA} (h:Kp E c G f) (he:∀ X,f X=a X):Kp E c G a:=λX=>(h X).trans (he X)
theorem Do (ay:cg E) (a:1<=c/\c<6) (e:(gr c).aC<=1) (f:Kp E c G (k7 E c)) (aq:jq E A):jo E rs A bp gr c G (nF 2):=by
 refine ⟨(mW (b:=2) (by omega) (by omega)),?_,⟨λh=>(by have:4<=2:=h.1;omega),λh=>(by have:2=8:=h;omega)⟩,rfl,λh=>zE (.inr e) h,λh=>zh (.inr e) h,n0 ay a (by show 2<=9;omega) f (PU a.2) (by show g' c≠[];simp [g']) ?_⟩
 ·unfold cI;rw [eS];exact ⟨aq,λd h=>by cases h⟩
 ·have:=Ob (c:=c);have g:1670<=g1 (gr c).aC:=by
   obtain e | e:(gr c).aC=0\/(gr c).aC=1:=by omega
   ·rw [e];show 1670<=1675;omega
   ·rw [e];exact cY _
  show cost (g' c)+1669<=_/\(g' c).length<=1024;omega
theorem EU:m ∈ kR n D↔m<n/\dv D m=1:=by unfold kR;rw [tp,fs];simp
theorem Ql (ay:cg E) (r:1<=c/\c<6) (e:(gr c).aC=0) (t:Kp E c G (eA E c (gr c))) (o:cI E rs A bp gr c) (u:kz E c (gr c) D):∃ s,jo E rs A bp gr c (G++[D]) s:=by
 have B:=ay.e.n;have k:cW E c (gr c)=iL E.n:=by unfold cW;rw [e];rfl
 have y:eA E c (gr c)=qN E c:=by unfold eA;rw [e];rfl
 have hw:∀ i,i<E.n->dv D i=1\/(dv D i=2/\A.dj i=true):=λi l=>by obtain ⟨d,w,x⟩:=u.bt (q:=i) (v:=cX i 24 1) (by rw [k];unfold iL;rw [dS,j6 l];rfl);unfold cI at o;rw [e] at o;rw [vQ x];exact o i l d w
 have a:=u.fit;rw [k] at a;rw [y] at t;have j:Kp E c (G++[D]) (mw E c (kR E.n D)):=t.next λX=>Ou B.1 a (λi l=>(hw i l).imp id And.left) X
 have f:∀ m,m<E.n->m ∉ kR E.n D->A.dj m=true:=λm hm p=>by
  rcases hw m hm with g | ⟨_,g⟩
  ·exact absurd (EU.2 ⟨hm,g⟩) p
  ·exact g
 by_cases au:kR E.n D=[]
 ·refine ⟨_,Do ay r (by omega) (j.congr λX=>by rw [au];exact PS X) λm hm=>f m hm (by rw [au];simp)⟩
 ·have z:(kR E.n D).length<=5:=by have:=vA (λi=>dv D i == 1) (List.range E.n);rw [lJ] at this;unfold kR;omega
  refine ⟨⟨1,hn,kR E.n D,[],0,[],[],[],(0,0)⟩,(mW (b:=1) (by omega) (by omega)),?_,⟨λh=>(by have:4<=1:=h.1;omega),λh=>(by have:1=8:=h;omega)⟩,rfl,λh=>zE (.inr (by omega)) h,λh=>zh (.inr (by omega)) h,n0 ay r (by show 1<=9;omega) j (PT au) (by show hr _≠[];unfold hr;simpa using au) ?_⟩
  ·unfold cI;rw [eS];exact ⟨f,λm hm=>(EU.1 hm).1,λq m d _ h=>by cases h⟩
  ·rw [e];have:=Oa z;show cost (hr (kR E.n D))+1670<=1675/\(hr (kR E.n D)).length<=1024;omega
theorem Qm (ay:cg E) (x:1<=c/\c<6) (e:(gr c).aC=1) (l:cW E c (gr c)≠[]) (p:Kp E c G (eA E c (gr c))) (j:cI E rs A bp gr c) (r:kz E c (gr c) D):∃ s,jo E rs A bp gr c (G++[D]) s:=by
 have B:=ay.e.n;have b:cW E c (gr c)=hr (gr c).eN:=by unfold cW;rw [e];rfl
 have y:eA E c (gr c)=mw E c (gr c).eN:=by unfold eA;rw [e];rfl
 unfold cI at j;rw [e] at j;obtain ⟨t,b2,o⟩:=j;have au:(gr c).eN≠[]:=λu=>l (by rw [b,u];rfl)
 have f:∀ {q m:Nat},(gr c).eN[q]?=some m->∃ d,(gr c).bt q=some d/\D[q]?=some d:=λ{q m} h=>r.bt (q:=q) (v:=f8 m 24 1 2) (by rw [b];unfold hr;rw [dS,h];rfl)
 have a:=r.fit;rw [b] at a;rw [y] at p;refine ⟨_,Do ay x (by omega) (p.next λX=>Ov au a (λi z=>?_) X) λm hm=>?_⟩
 ·obtain ⟨m,hm⟩:∃ m,(gr c).eN[i]?=some m:=⟨_,bE z⟩;obtain ⟨d,k,w⟩:=f hm;rw [vQ w];exact (o i m d hm k).2
 ·by_cases g:m ∈ (gr c).eN
  ·obtain ⟨q,h⟩:=ei.1 g;obtain ⟨d,k,_⟩:=f h;exact (o q m d h k).1
  ·exact t m hm g
theorem Qn (ay:cg E) (o:1<=c/\c<6) (e:(gr c).aC=2) (u:Kp E c G (eA E c (gr c))) (r:cI E rs A bp gr c) (B:kz E c (gr c) D):∃ s,jo E rs A bp gr c (G++[D]) s:=by
 have J:=ay.e.n;have l:cW E c (gr c)=g' c:=by unfold cW;rw [e];rfl
 have I:eA E c (gr c)=k7 E c:=by unfold eA;rw [e];rfl
 unfold cI at r;rw [e] at r;obtain ⟨C,b2⟩:=r;obtain ⟨d,z,t⟩:=B.bt (q:=0) (v:=f8 0 49 0 (gK c)) (by rw [l];rfl);have a:=B.fit;rw [l] at a;rw [I] at u;have hw:m6 D=eb d:=by
  cases D with
  |nil=>simp at t
  |cons x xs=>simp at t;subst t;rfl
 rcases b2 d z with ⟨b1,aB⟩ | ⟨c',b1,aB,y,F⟩
 ·refine ⟨nF 3,(mW (b:=3) (by omega) (by omega)),?_,⟨λh=>(by have:4<=3:=h.1;omega),λh=>(by have:3=8:=h;omega)⟩,rfl,λ_=>.inr ⟨by show 3<=3;omega,by show 3<=10;omega⟩,λ_=>.inr (.inl ⟨by show 3<=3;omega,by show 3<=8;omega⟩),n0 ay o (by show 3<=9;omega) (u.next λX=>Ow o.2 a (hw.trans b1) X) PV (zZ _) ?_⟩
  ·unfold cI;rw [eS];exact ⟨⟨C,aB⟩,λq v d _ h=>by cases h⟩
  ·rw [e];have:=Od (E:=E) J.2;show cost (gV E.n)+1063<=1669/\(gV E.n).length<=1024;omega
 ·have f:eb d≠0:=by rw [y];exact zd c'
  have w:=u.next λX=>Ox o.2 a (by rw [hw];exact f) (by rw [hw,y];exact λH=>aB (DI H)) X
  have g:∀ i,(gr c).bt 0=some i->eb i≠0:=λi k=>by rw [z] at k;cases k;exact f
  refine ⟨nF 11,(mW (b:=11) (by omega) (by omega)),?_,⟨λh=>(by have:11<=7:=h.2;omega),λh=>(by have:11=8:=h;omega)⟩,rfl,λh=>?_,λh=>?_,.inr (.inr ⟨rfl,_,w.out ay o rfl rfl rfl⟩)⟩
  ·unfold cI;rw [eS];exact ⟨c',b1,aB,by rw [kc aB];exact F⟩
  ·rcases h with ⟨_,i,j,p⟩ | ⟨j,_⟩
   ·exact absurd p (g i j)
   ·omega
  ·rcases h with ⟨_,i,j,p⟩ | ⟨j,_⟩ | ⟨j,_⟩
   ·exact absurd p (g i j)
   ·omega
   ·omega
end
end
end Go.Proofs.YtmkljjbioomepaaGreat
