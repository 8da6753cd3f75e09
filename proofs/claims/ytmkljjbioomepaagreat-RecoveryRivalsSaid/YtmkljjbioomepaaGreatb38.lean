import Derived.Test.YtmkljjbioomepaaGreatb37
set_option linter.all false
namespace Go.Proofs.YtmkljjbioomepaaGreat
open Go.Proofs.Tryz Go.bu
variable {C:bU} {E:Env} {P:Prop} {c i k m n q:Nat} {l:cS} {p:dg} {v:aW} {vs:List aW} {x:aZ}
section
open e7
theorem JP {n:aZ} (c:fL p) {l':cS} (d:l.pair=p) (b:l'.pair=(p.step n).1) (al:p.ba≠[]):iI l'<iI l:=by
 obtain ⟨v,eX,a⟩:=rm al;by_cases f:p.refusal v n=0
 ·exact KL c (λv2 sY e=>by rw [a] at e;cases e;exact f) d b al
 ·have g:=c.hO v eX a;have h:=zh a f;unfold iI;rw [d,b,h,a];show (p.ba.tail.map _).sum - 0<_;rw [a];simp only [f9,jR,List.tail_cons];omega
theorem Ks (x:aZ) (h:C.aD[m]?=some l) (g:fL l.pair) (al:l.pair.ba≠[]):iH (C.comes m l (l.pair.step x).1 (l.pair.step x).2.2)<iH C:=by
 have c:∃ l',(C.comes m l (l.pair.step x).1 (l.pair.step x).2.2).aD=C.aD.set m l'/\l'.pair=(l.pair.step x).1:=by
  cases (l.pair.step x).2.2 with
  |none=>exact ⟨_,rfl,rfl⟩
  |some d=>exact ⟨_,rfl,rfl⟩
 obtain ⟨l',e,f⟩:=c;unfold iH;rw [e,iv];have j:=JP g (l:=l) (l':=l') rfl f al;have:=y8 (l:=C.aD.map iI) (i:=m) (a:=iI l) (b:=iI l') (by rw [dR,h];rfl);omega
theorem NP {eX:List aW} (a:p.ba=v::eX) (c:v.kind=1\/(v.kind=3/\(v.at_.toNat<56\/168<=v.at_.toNat))) (i:Nat) (d:56<=i) (f:i<168):(p.step x).2.1.get i=x.get i:=by
 by_cases b:p.refusal v x=0
 ·have he:∀ pc,(exec v pc x).1.get i=x.get i:=λpc=>by
   unfold exec;rcases c with e | ⟨e,g⟩
   ·rw [if_pos e]
   ·rw [if_neg (by omega),if_neg (by omega),if_pos e];show (x.gm v.at_ v.old v.new).get i=_;unfold aZ.gm;split
    ·unfold aZ.get;simp only;rw [dF,dF,hW (by omega)]
    ·rfl
  rw [u7 a b];split
  ·exact he _
  ·exact he _
 ·rw [zh a b]
theorem y_ {g bV:c5} (h:bV.bare=g.bare):bV.aB=g.aB:=by
 have:bV.bare.aB=g.bare.aB:=by rw [h]
 exact this
structure kf (n:Nat) (C:bU):Prop where
 inc:C.inc=1
 live:C.alive=true
 aD:C.aD.length=n
 nj:∀ (k:Nat) (l:cS),C.aD[k]?=some l->vK l.pair
theorem kf.comes {n:Nat} {C:bU} (h:kf n C) {m:Nat} {l:cS} (b:C.aD[m]?=some l) (x:aZ):kf n (C.comes m l (l.pair.step x).1 (l.pair.step x).2.2):=by
 refine ⟨?_,(Il C m l _ _).trans h.live,?_,λk l' a=>?_⟩
 ·cases (l.pair.step x).2.2<;>exact h.inc
 ·cases (l.pair.step x).2.2<;>simp [bU.comes,h.aD]
 ·by_cases e:k=m
  ·subst e;obtain ⟨l2,c,d⟩:=xJ b (l.pair.step x).1 (l.pair.step x).2.2;rw [c] at a;cases a;rw [d];exact L5 (h.nj k l b)
  ·rw [ps e] at a;exact h.nj k l' a
theorem ET {F:aN} (p:cp F) {j:Nat} (k:F.aV[i]?=some C) (o:kf E.n C) (b:C.aD[j]?=some l) (r:F.nodes[j]?=some x) (al:l.pair.ba≠[]) {bw:Nat->Option aO} (e:gC C vs bw):∃ v eX q ch,zj E F.nodes i j C vs bw l x v eX q ch:=by obtain ⟨v,eX,d⟩:=rm al;obtain ⟨q,ch,g,h,a,f⟩:=(e.lane j l b).head d;have c:=(p.cf.ok.a1 i C k).lane j l b;exact ⟨v,eX,q,ch,b,r,d,g,h,a,f,c.a1,c.inc.trans o.inc,p.cf.dm C (b7 k) l (b7 b),o.nj j l b⟩
structure gD (E:Env) (rs:cP) (F:aN) (A:bt) (g:f_) (gr:Nat->c5):Prop where
 gn:cp F
 lines:F.lines=E.L
 hL:F.bP=[]
 r_:4<=F.aV.length
 rep:jA E A F.nodes
 law:e8 E A
 uX:tZ rs A gr
 cA:∃ C,F.aV[0]?=some C/\kf E.n C/\(g.aB<=4->gC C (d' E g.aB) g.bw/\(g.aB=0->o6 E C F.nodes))/\(5<=g.aB->C.batch=none/\hr C)
 qY:e3 E A g
 uS:m9 E A g
 xB:g.aB=8->f' E A/\(∀ m,m<E.n->A.dJ m=false)/\∀ m,m<E.n->∀ p ∈ bI E,A.bQ m (br p)=0
 q3:∀ c ∈ rs,∃ C,F.aV[c]?=some C/\kf E.n C/\((gr c).aB<=9->gC C (cO E c (gr c)) (gr c).bw/\((gr c).aB=3->qs C F.nodes))/\(10<=(gr c).aB->C.batch=none/\hr C)
 my:∀ c ∈ rs,cC E rs A F.nodes gr c/\lC E (gr c)/\l5 E c (gr c)/\(gr c).aB<=12
 uD:(∃ p ∈ bI E,A.bQ 0 (br p)=1)->ia E A
 op:(∀ c ∈ rs,(gr c).aB=12)->∀ m,A.dj m=false
 rest:∀ (c:Nat) (C:bU),c≠0->c ∉ rs->F.aV[c]?=some C->kf E.n C/\C.batch=none/\hr C
theorem oe.gz (b:1<=E.n) {A A':bt} (h:oe E A A'):ob E A A':=⟨h.mono,λ_=>h.qW,λ_ a p c=>h.uH a 0 b p c⟩
section
variable {E:Env} {rs:cP} {F cJ:aN} {A:bt} {g:f_} {gr:Nat->c5}
theorem L8 (ay:b8 E) {bB:List aZ} (h:cC E rs A bB gr c) (hm:f' E A) (al:(cO E c (gr c))[q]?=some v):v.kind=1\/(v.kind=3/\(v.at_.toNat<56\/168<=v.at_.toNat)):=by
 have f:=ay.e.n;have no:∀ {P:Prop},(∃ m,m<E.n/\A.cG m=true)->P:=λ⟨m,b,a⟩=>by rw [hm m b] at a;cases a
 unfold cC at h;unfold cO at al;split at al
 ·obtain ⟨m,_,rfl⟩:=cT.1 (b7 al);exact .inl rfl
 ·obtain ⟨m,_,rfl⟩:=cT.1 (b7 al);exact .inr ⟨rfl,.inl (by show ((24:Int)).toNat<56;omega)⟩
 ·have:=b7 al;simp only [gZ,n1] at this;subst this;exact .inr ⟨rfl,.inl (by show ((49:Int)).toNat<56;omega)⟩
 ·rcases zJ al with ⟨m,_,⟨_,rfl⟩ | ⟨_,rfl⟩⟩ | ⟨_,rfl⟩<;>exact .inl rfl
 ·rename_i e;rw [e] at h;exact no h.2.2.1
 ·rename_i e;rw [e] at h;exact no ⟨0,by omega,h.2.1 0 (by omega)⟩
 ·rename_i e;rw [e] at h;exact no ⟨0,by omega,h.2.1 0 (by omega)⟩
 ·rename_i e;rw [e] at h;exact no ⟨0,by omega,h.2.1 0 (by omega)⟩
 ·rename_i e;rw [e] at h;obtain ⟨p,d,rfl⟩:=cT.1 (b7 al);have:=h.2.2.2.2.1 p d;exact .inr ⟨rfl,.inr (by show 168<=(p.bo * 8).toNat;omega)⟩
 ·have:=b7 al;simp only [gG,n1] at this;subst this;exact .inr ⟨rfl,.inl (by show ((49:Int)).toNat<56;omega)⟩
 ·simp at al
theorem Ox {A:bt} {g:f_} (o:1<=E.n) (h:e3 E A g) (a:e8 E A) (l:g.aB<=4):(∃ p ∈ bI E,A.bQ 0 (br p)=1)->ia E A:=λ⟨p,b,k⟩=>by
 unfold e3 at h;split at h
 ·have:=h.2.2.1 0 (by omega) p b;omega
 ·exact h.1
 ·exact h.1
 ·exact (a.l2 0 (by omega) (h.1 0 (by omega))).1
 ·exact (a.l2 0 (by omega) (h.1 0 (by omega))).1
 ·omega
 ·rename_i c d f i j q;exfalso;obtain e | e | e | e | e:g.aB=0\/g.aB=1\/g.aB=2\/g.aB=3\/g.aB=4:=by omega
  ·exact c e
  ·exact d e
  ·exact f e
  ·exact i e
  ·exact j e
theorem Oy {A A':bt} (r:1<=E.n) (h:e8 E A) (c:e8 E A') (f:oe E A A') (k:(∃ p ∈ bI E,A.bQ 0 (br p)=1)->ia E A):(∃ p ∈ bI E,A'.bQ 0 (br p)=1)->ia E A':=λ⟨p,b,q⟩=>by
 by_cases hm:f' E A'
 ·have a:=f.some_ hm;refine f.mono.lb (k ⟨p,b,?_⟩);have o:=(h.cY 0 (by omega) p b).1;have l:A.bQ 0 (br p)≠0:=λe=>by have:=f.uH a 0 (by omega) p b e;omega
  have g:A.bQ 0 (br p)≠2:=λe=>by have:=h.iC 0 (by omega) p b e 0 (by omega);rw [a 0 (by omega)] at this;cases this
  omega
 ·have:∃ m,m<E.n/\A'.cG m=true:=by
   refine Classical.byContradiction λj=>hm λm hm=>?_
   cases d:A'.cG m with
   |false=>rfl
   |true=>exact absurd ⟨m,hm,d⟩ j
  obtain ⟨m,i,g⟩:=this;exact (c.l2 m i g).1
theorem Dd {bB:List aZ} (h:cC E rs A bB gr c) (a:(gr c).aB=3):Own E A c:=h.own (.inr (.inl ⟨by omega,by omega⟩))
theorem NQ (ay:b8 E) (T:∀ c ∈ rs,1<=c/\c<6) (h:gD E rs F A g gr) (Wr:mH i m F=some cJ) :
  ∃ A' bV V2,gD E rs cJ A' bV V2/\bV.aB=g.aB/\(∀ c,(V2 c).bare=(gr c).bare)/\(5<=g.aB->oe E A A')/\dp E A A'/\(i=0\/i ∈ rs)/\∃ C C',F.aV[i]?=some C/\cJ.aV[i]?=some C'/\iH C'<iH C/\∀ k,k≠i->cJ.aV[k]?=F.aV[k]?:=by
 obtain ⟨C,l,x,K,M,V7,al,s⟩:=sx.1 Wr;have B:=h.gn.mH Wr;have G:=cb K;have r:l.pair.ba≠[]:=λe=>al (by rw [e];rfl)
 have Wt:fL l.pair:=h.gn.cf.dm C (b7 K) l (b7 M);have N:=ay.e.n;have z:cJ.aV[i]?=some (C.comes m l (l.pair.step x).1 (l.pair.step x).2.2):=by rw [s];exact jy G
 have j:∀ k,k≠i->cJ.aV[k]?=F.aV[k]?:=λk Wu=>by rw [s];exact hW (λe=>Wu e.symm)
 have f:cJ.nodes=F.nodes.set m (l.pair.step x).2.1:=by rw [s]
 have V6:=Ks x M Wt r;by_cases V4:i=0
 ·subst V4;obtain ⟨V_,V8,V9,Wh,Wi⟩:=h.cA;rw [K] at V8;cases V8;have H:g.aB<=4:=by
   refine yo λG=>?_
   exact r ((Wi G).2 m l M)
  obtain ⟨D,Wb⟩:=Wh H;obtain ⟨v,eX,q,ch,ar⟩:=ET h.gn K V9 M V7 r D;obtain ⟨A',bV,st⟩:=Pc ay h.rep h.law h.qY h.uS H D ar Wb;have Wc:m<E.n:=by have:=cb V7;rw [h.rep.len] at this;exact this
  have o:∀ c ∈ rs,Own E A c->A'=A/\cJ.nodes=F.nodes:=λc _ Wf=>by rw [f];exact st.stay (Wf.1 m Wc)
  refine ⟨A',bV,gr,⟨B,by rw [s];exact h.lines,by rw [s];exact h.hL,by rw [s];simpa using h.r_,by rw [f];exact st.rep,st.law,?_,⟨_,z,V9.comes M x,λ_=>⟨by rw [st.aB];exact st.me,λe=>by rw [f];exact st.jB (by rw [<-st.aB];exact e)⟩,λe=>absurd e (by rw [st.aB];omega)⟩,st.ok,st.res,λe=>absurd e (by rw [st.aB];omega),λc u=>?_,λc u=>?_,Ox N.1 st.ok st.law (by rw [st.aB];exact H),λL m=>by rw [st.dj];exact h.op L m,λc O Q I U=>h.rest c O Q I (by rw [<-j c Q];exact U)⟩,st.aB,λc=>rfl,λe=>by omega,st.gz.mono,.inl rfl,C,_,K,z,V6,j⟩
  ·rcases h.uX with e | ⟨c,a,b,d⟩
   ·exact .inl (st.dW.trans e)
   ·exact .inr ⟨c,a,st.dW.trans b,d⟩
  ·obtain ⟨O,X,Y,J,Z⟩:=h.q3 c u;have:=T c u;refine ⟨O,by rw [j c (by omega)];exact X,Y,λe=>⟨(J e).1,λP=>?_⟩,Z⟩
   rw [(o c u (Dd (h.my c u).1 P)).2];exact (J e).2 P
  ·obtain ⟨V,Wj,Wk,Wl⟩:=h.my c u;refine ⟨?_,Wj,Wk,Wl⟩;by_cases L:h6 (gr c)
   ·obtain ⟨Wa,W⟩:=o c u (V.own L);rw [Wa,W];exact V
   ·exact V.gz rfl L st.gz λ_ w=>w
 ·by_cases t:i ∈ rs
  ·have V3:=T i t;obtain ⟨V_,V8,V9,Wh,Wi⟩:=h.q3 i t;rw [K] at V8;cases V8;obtain ⟨V,Wj,Wk,Wl⟩:=h.my i t;have H:(gr i).aB<=9:=by
    refine yo λG=>?_
    exact r ((Wi G).2 m l M)
   obtain ⟨D,Wg⟩:=Wh H;obtain ⟨v,eX,q,ch,ar⟩:=ET h.gn K V9 M V7 r D;obtain ⟨A',bV,st⟩:=PP ay V3 t T h.rep h.law V Wj Wk D ar Wg h.uX;have S:bV.aB=(gr i).aB:=y_ st.bare;have R:∀ c,(hQ gr i bV c).bare=(gr c).bare:=λc=>by
    by_cases e:c=i
    ·subst e;rw [eT];exact st.bare
    ·rw [kw e]
   have o:∀ c ∈ rs,c≠i->Own E A c->A'=A/\cJ.nodes=F.nodes:=λc _ Wd Wf=>by rw [f];exact st.other c Wd Wf
   refine ⟨A',g,hQ gr i bV,⟨B,by rw [s];exact h.lines,by rw [s];exact h.hL,by rw [s];simpa using h.r_,by rw [f];exact st.rep,st.law,st.dW,?_,h.qY.rec N.1 st.oH,h.uS.mono st.oH.mono,λe=>?_,λc u=>?_,λc u=>?_,Oy N.1 h.law st.law st.oH h.uD,λL=>(by have:=L i t;rw [eT,S] at this;omega),λc O Q I U=>h.rest c O Q I (by rw [<-j c (λe=>I (by rw [e];exact t))];exact U)⟩,rfl,R,λ_=>st.oH,st.oH.mono,.inr t,C,_,K,z,V6,j⟩
   ·obtain ⟨V_,X,Y,J,Z⟩:=h.cA;refine ⟨V_,by rw [j 0 (by omega)];exact X,Y,λe=>⟨(J e).1,λV'=>?_⟩,Z⟩
    have We:f' E A:=by have:=h.qY;unfold e3 at this;rw [V'] at this;exact this.1
    have V5:=L8 ay V We ar.at_;intro k l' y Q I Ws U Wp;have Wy:=ay.lH;rw [f] at I;by_cases Wo:k=m
    ·subst Wo;rw [jy (cb V7)] at I;cases I;rw [NP ar.hM V5 _ (by omega) (by omega)];exact (J e).2 V' k l' x Q V7 Ws U Wp
    ·rw [hW (λW=>Wo W.symm)] at I;exact (J e).2 V' k l' y Q I Ws U Wp
   ·obtain ⟨a,b,d⟩:=h.xB e;exact ⟨st.oH.qW a,λm hm=>st.oH.dJ a m hm (b m hm),λm hm p Wq=>st.oH.uH a m hm p Wq (d m hm p Wq)⟩
   ·by_cases e:c=i
    ·subst e;rw [eT];exact ⟨_,z,V9.comes M x,λ_=>⟨st.me,λP=>by rw [f];exact st.Tz P⟩,λe=>absurd e (by rw [S];omega)⟩
    ·obtain ⟨O,X,Y,J,Z⟩:=h.q3 c u;rw [kw e];refine ⟨O,by rw [j c e];exact X,Y,λWn=>⟨(J Wn).1,λP=>?_⟩,Z⟩
     rw [(o c u e (Dd (h.my c u).1 P)).2];exact (J Wn).2 P
   ·by_cases e:c=i
    ·subst e;rw [eT];exact ⟨by rw [f];exact st.ok,st.xP,st.res,by rw [S];exact Wl⟩
    ·obtain ⟨Wm,Wv,Ww,Wx⟩:=h.my c u;rw [kw e];refine ⟨?_,Wv,Ww,Wx⟩;by_cases L:h6 (gr c)
     ·obtain ⟨Wa,W⟩:=o c u e (Wm.own L);rw [Wa,W];exact Wm.stay (kw e) (vz st.u2)
     ·exact Wm.gz (kw e) L (st.oH.gz N.1) (vz st.u2)
  ·exact absurd ((h.rest i C V4 t K).2.2 m l M) r
end
end
section
open e7
def gQ:Nat->Nat
 | 0=>1675
 | 1=>1670
 | 2=>1669
 | 3=>1063
 | 4=>498
 | 5=>486
 | 6=>98
 | 7=>1
 | 8=>1
 | 12=>1680
 | _=>0
theorem x7 {k:Nat}:∀ {hj:List (List aW)},(∀ b ∈ hj,cost b<=k)->cost hj.flatten<=hj.length * k
 | [],_=>by simp [cost]
 |b::hj,h=>by
  have d:=x7 λc a=>h c (fu _ a)
  have e:=h b e2;rw [gV,oB,g7,hT];omega
theorem pG {K:Nat} (h:cost vs<=n * k) (b:n<=m) (a:m * k<=K):cost vs<=K:=lq h (lq (tc _ b) a)
section
variable {E:Env} {c:Nat}
theorem Oz (n:Nat):(gK n).length=n * 2+1:=by unfold gK;rw [dI,qX (k:=2) (λb a=>by obtain ⟨m,_,rfl⟩:=cT.1 a;rfl)];simp
theorem OA (E:Env) (sp:cP):(gB E sp).length=sp.length * 3:=by unfold gB;rw [qX (k:=3) (λb a=>by obtain ⟨m,_,rfl⟩:=cT.1 a;rfl)];simp
theorem N_ (E:Env) (l:List aK):(fK E l).length=(E.n - 1) * (l.length+1):=by unfold fK;rw [qX (k:=l.length+1) (λb a=>by obtain ⟨m,_,rfl⟩:=cT.1 a;simp)];simp
theorem NR (a:E.n<=5):cost (iA E.n)<=5/\(iA E.n).length<=1024:=by
 refine ⟨?_,by unfold iA;simp;omega⟩;have h:cost (iA E.n)<=(iA E.n).length * 1:=lO λv al=>by obtain ⟨m,_,rfl⟩:=cT.1 al;exact cQ _
 exact pG h (show _<=5 by unfold iA;simpa using a) (by omega)
theorem NS {eM:cP} (a:eM.length<=5):cost (hg eM)<=5/\(hg eM).length<=1024:=by
 refine ⟨?_,by unfold hg;simp;omega⟩;have h:cost (hg eM)<=(hg eM).length * 1:=lO λv al=>by obtain ⟨m,_,rfl⟩:=cT.1 al;exact cQ _
 exact pG h (show _<=5 by unfold hg;simpa using a) (by omega)
theorem NT:cost (gZ c)<=1/\(gZ c).length<=1024:=by
 refine ⟨?_,by simp [gZ]⟩;have h:cost (gZ c)<=(gZ c).length * 1:=lO λv al=>by simp only [gZ,n1] at al;subst al;exact cQ _
 exact h
theorem NU:cost (gG c)<=1/\(gG c).length<=1024:=by
 refine ⟨?_,by simp [gG]⟩;have h:cost (gG c)<=(gG c).length * 1:=lO λv al=>by simp only [gG,n1] at al;subst al;exact cQ _
 exact h
theorem p0 (h:v.v.count.toNat<=k):cost [v]<=k:=by
 have h:cost [v]<=([v]:List aW).length * k:=lO λu hu=>by simp only [n1] at hu;subst hu;exact h
 simpa using h
theorem NV (e:E.n<=5):cost (gK E.n)<=606/\(gK E.n).length<=1024:=by
 refine ⟨?_,by have:=Oz E.n;omega⟩;unfold gK;rw [oB];have a:cost ((List.range E.n).map λm=>[cR m 24 1,cR m 48 120]).flatten<=((List.range E.n).map λm=>[cR m 24 1,cR m 48 120]).length * 121:=x7 λb d=>by
  obtain ⟨m,_,rfl⟩:=cT.1 d;have:cost ([cR m 24 1]++[cR m 48 120])<=121:=by rw [oB];have a:cost [cR m 24 1]<=1:=p0 (cQ _);have c:cost [cR m 48 120]<=120:=p0 (cQ _);omega
  exact this
 have c:=pG a (show _<=5 by simpa using e) (cQ (5 * 121));have f:cost [cR 0 32 1]<=1:=p0 (cQ _);omega
theorem NW (ay:b8 E) {sp:cP} (d:sp.length<=5):cost (gB E sp)<=565/\(gB E sp).length<=1024:=by
 refine ⟨?_,by have:=OA E sp;omega⟩;unfold gB;have a:cost (sp.map λm=>[cx m 48 [0],cx m 56 (gS E),cx m 48 [h' E]]).flatten<=(sp.map λm=>[cx m 48 [0],cx m 56 (gS E),cx m 48 [h' E]]).length * 113:=x7 λb c=>by
  obtain ⟨m,_,rfl⟩:=cT.1 c;have:cost ([cx m 48 [0]]++([cx m 56 (gS E)]++[cx m 48 [h' E]]))<=113:=by
   rw [oB,oB];have a:cost [cx m 48 [0]]<=1:=p0 (cQ _);have e:cost [cx m 56 (gS E)]<=111:=p0 (by have:=ay.lH;show ((gS E).length:Int).toNat<=111;omega)
   have f:cost [cx m 48 [h' E]]<=1:=p0 (cQ _);omega
  exact this
 exact pG a (show _<=5 by simpa using d) (cQ (5 * 113))
theorem NX (ay:b8 E):cost (gM (bI E))<=12/\(gM (bI E)).length<=1024:=by
 refine ⟨?_,by have:=ay.lH.2;unfold gM;simp;omega⟩;have h:cost (gM (bI E))<=(gM (bI E)).length * 1:=lO λv al=>by obtain ⟨m,_,rfl⟩:=cT.1 al;exact cQ _
 exact pG h (show _<=12 by unfold gM;simpa using ay.lH.2) (by omega)
theorem NY {eG:List aK} (a:eG.length<=12):cost (ir eG)<=12/\(ir eG).length<=1024:=by
 refine ⟨?_,by unfold ir;simp;omega⟩;have h:cost (ir eG)<=(ir eG).length * 1:=lO λv al=>by obtain ⟨m,_,rfl⟩:=cT.1 al;exact cQ _
 exact pG h (show _<=12 by unfold ir;simpa using a) (by omega)
theorem De {l:List aK} (a:l.length<=12):cost (l.map (fG m))<=96:=by
 have h:cost (l.map (fG m))<=(l.map (fG m)).length * 8:=lO λv al=>by obtain ⟨m,_,rfl⟩:=cT.1 al;exact cQ _
 exact pG h (show _<=12 by simpa using a) (by omega)
theorem DN {l:List aK} (a:l.length<=12):cost (f0 E l)<=97/\(f0 E l).length<=1024:=by refine ⟨?_,by unfold f0;simp;omega⟩;have h:f0 E l=[cx 0 32 [c_ E]]++l.map (fG 0):=rfl;rw [h,oB];have b:cost [cx 0 32 [c_ E]]<=1:=p0 (cQ _);have:=De (m:=0) a;omega
theorem DO (e:E.n<=5) {l:List aK} (d:l.length<=12):cost (fK E l)<=388/\(fK E l).length<=1024:=by
 refine ⟨?_,by have:=N_ E l;have f:(E.n - 1) * (l.length+1)<=4 * 13:=p5 (by omega) (by omega);omega⟩;unfold fK;have a:cost ((List.range (E.n - 1)).map λm=>l.map (fG (m+1))++[cx (m+1) 32 [c_ E]]).flatten<=((List.range (E.n - 1)).map λm=>l.map (fG (m+1))++[cx (m+1) 32 [c_ E]]).length * 97:=x7 λb c=>by obtain ⟨m,_,rfl⟩:=cT.1 c;rw [oB];have a:cost [cx (m+1) 32 [c_ E]]<=1:=p0 (cQ _);have:=De (m:=m+1) d;omega
 exact pG a (show _<=4 by simp;omega) (cQ (4 * 97))
end
theorem vA {D:List aO} {d:aO} (h:D[q]?=some d):dx D q=d8 d:=by unfold dx;rw [dF,h];rfl
def ha:Nat->Option aO:=λ_=>none
def ns (aB:Nat):c5:=⟨aB,ha,[],[],0,[],[],[],(0,0)⟩
def mP (aB:Nat):Nat:=if aB<=7 then aB else aB - 1
theorem mN {a b:Nat} (h:a<b) (c:¬ (a=7/\b=8)):a=12\/mP a<mP b:=.inr (by unfold mP;split<;>split<;>omega)
structure jb (E:Env) (rs:cP) (A:bt) (bB:List aZ) (gr:Nat->c5) (c:Nat) (G:List (List aO)) (s:c5):Prop where
 up:(gr c).aB=12\/mP (gr c).aB<mP s.aB
 ok:cC E rs A bB (hQ gr c s) c
 xP:lC E s
 bw:s.bw=ha
 u2:gF (gr c)->gF s
 holds:h6 (gr c)->h6 s
 go:(s.aB<=9/\fD (cw E c) G=(cO E c s,⟨0,0,0,0,0⟩,false)/\Kp E c G (eC E c s)/\cO E c s≠[]/\cost (cO E c s)+gQ s.aB<=gQ (gr c).aB/\(cO E c s).length<=1024)\/(s.aB=10/\fD (cw E c) G=([],⟨0,s.c7.1,s.c7.2,jG E.L s.cH s.aT,0⟩,true))\/(s.aB=11/\∃ w,fD (cw E c) G=([],⟨3,0,0,0,w⟩,true))
section
variable {E:Env} {rs:cP} {A:bt} {bB:List aZ} {gr:Nat->c5} {c:Nat} {G:List (List aO)} {D:List aO}
structure kn (E:Env) (c:Nat) (g:c5) (D:List aO):Prop where
 fit:Fit (cO E c g) D
 to:∀ q d,g.bw q=some d->D[q]?=some d
 all:∀ q,q<(cO E c g).length->∃ d,g.bw q=some d
theorem kn.bw (h:kn E c (gr c) D) {q:Nat} {v:aW} (al:(cO E c (gr c))[q]?=some v):∃ d,(gr c).bw q=some d/\D[q]?=some d:=by obtain ⟨d,ar⟩:=h.all q (cb al);exact ⟨d,ar,h.to q d ar⟩
theorem nN (ay:b8 E) (g:1<=c/\c<6) {s:c5} (e:s.aB<=9) (d:Kp E c G (eC E c s)) (f:(eC E c s []).1.ask=some (cO E c s)) (b:cO E c s≠[]) (a:cost (cO E c s)+gQ s.aB<=gQ (gr c).aB/\(cO E c s).length<=1024):(s.aB<=9/\fD (cw E c) G=(cO E c s,⟨0,0,0,0,0⟩,false)/\Kp E c G (eC E c s)/\cO E c s≠[]/\cost (cO E c s)+gQ s.aB<=gQ (gr c).aB/\(cO E c s).length<=1024)\/(s.aB=10/\fD (cw E c) G=([],⟨0,s.c7.1,s.c7.2,jG E.L s.cH s.aT,0⟩,true))\/(s.aB=11/\∃ w,fD (cw E c) G=([],⟨3,0,0,0,w⟩,true)):=
 .inl ⟨e,d.ask ay g f,d,b,a⟩
theorem zm (h:(gr c).aB=12\/(gr c).aB<=1) (hw:gF (gr c)):P:=by rcases hw with ⟨g,_⟩ | ⟨a,b⟩<;>omega
theorem y' (h:(gr c).aB=12\/(gr c).aB<=1) (hw:h6 (gr c)):P:=by rcases hw with ⟨g,_⟩ | ⟨a,b⟩ | ⟨g,_⟩<;>omega
theorem N' (ay:b8 E) (a:1<=c/\c<6) (e:(gr c).aB=12):jb E rs A bB gr c [] (ns 0):=by
 refine ⟨.inl e,?_,⟨λh=>(by have:4<=0:=h.1;omega),λh=>(by have:0=8:=h;omega)⟩,rfl,λh=>zm (.inl e) h,λh=>y' (.inl e) h,nN ay a (by show 0<=9;omega) QA (Oe ay.e.n.1) (zy ay.e.n.1) ?_⟩
 ·unfold cC;rw [eT];show ∀ m,m<E.n->∀ d,ha m=some d->_;intro m _ d h;cases h
 ·rw [e];have:=NR (E:=E) ay.e.n.2;show cost (iA E.n)+1675<=1680/\(iA E.n).length<=1024;omega
theorem Kp.congr {f a:List (List aO)->cq×dA} (h:Kp E c G f) (he:∀ X,f X=a X):Kp E c G a:=λX=>(h X).trans (he X)
theorem Co (ay:b8 E) (a:1<=c/\c<6) (e:(gr c).aB<=1) (f:Kp E c G (kW E c)) (ar:jc E A):jb E rs A bB gr c G (ns 2):=by
 refine ⟨(mN (b:=2) (by omega) (by omega)),?_,⟨λh=>(by have:4<=2:=h.1;omega),λh=>(by have:2=8:=h;omega)⟩,rfl,λh=>zm (.inr e) h,λh=>y' (.inr e) h,nN ay a (by show 2<=9;omega) f (Oi a.2) (by show gZ c≠[];simp [gZ]) ?_⟩
 ·unfold cC;rw [eT];exact ⟨ar,λd h=>by cases h⟩
 ·have:=NT (c:=c);have g:1670<=gQ (gr c).aB:=by
   obtain e | e:(gr c).aB=0\/(gr c).aB=1:=by omega
   ·rw [e];show 1670<=1675;omega
   ·rw [e];exact cQ _
  show cost (gZ c)+1669<=_/\(gZ c).length<=1024;omega
theorem Ep:m ∈ kG n D↔m<n/\dx D m=1:=by unfold kG;rw [tk,fJ];simp
theorem Pd (ay:b8 E) (r:1<=c/\c<6) (e:(gr c).aB=0) (t:Kp E c G (eC E c (gr c))) (o:cC E rs A bB gr c) (u:kn E c (gr c) D):∃ s,jb E rs A bB gr c (G++[D]) s:=by
 have B:=ay.e.n;have k:cO E c (gr c)=iA E.n:=by unfold cO;rw [e];rfl
 have y:eC E c (gr c)=qK E c:=by unfold eC;rw [e];rfl
 have hw:∀ i,i<E.n->dx D i=1\/(dx D i=2/\A.dj i=true):=λi l=>by obtain ⟨d,w,x⟩:=u.bw (q:=i) (v:=cR i 24 1) (by rw [k];unfold iA;rw [dR,kk l];rfl);unfold cC at o;rw [e] at o;rw [vA x];exact o i l d w
 have a:=u.fit;rw [k] at a;rw [y] at t;have j:Kp E c (G++[D]) (mg E c (kG E.n D)):=t.next λX=>MZ B.1 a (λi l=>(hw i l).imp id And.left) X
 have f:∀ m,m<E.n->m ∉ kG E.n D->A.dj m=true:=λm hm p=>by
  rcases hw m hm with g | ⟨_,g⟩
  ·exact absurd (Ep.2 ⟨hm,g⟩) p
  ·exact g
 by_cases au:kG E.n D=[]
 ·refine ⟨_,Co ay r (by omega) (j.congr λX=>by rw [au];exact Og X) λm hm=>f m hm (by rw [au];simp)⟩
 ·have z:(kG E.n D).length<=5:=by have:=vi (λi=>dx D i == 1) (List.range E.n);rw [ly] at this;unfold kG;omega
  refine ⟨⟨1,ha,kG E.n D,[],0,[],[],[],(0,0)⟩,(mN (b:=1) (by omega) (by omega)),?_,⟨λh=>(by have:4<=1:=h.1;omega),λh=>(by have:1=8:=h;omega)⟩,rfl,λh=>zm (.inr (by omega)) h,λh=>y' (.inr (by omega)) h,nN ay r (by show 1<=9;omega) j (Oh au) (by show hg _≠[];unfold hg;simpa using au) ?_⟩
  ·unfold cC;rw [eT];exact ⟨f,λm hm=>(Ep.1 hm).1,λq m d _ h=>by cases h⟩
  ·rw [e];have:=NS z;show cost (hg (kG E.n D))+1670<=1675/\(hg (kG E.n D)).length<=1024;omega
theorem Pe (ay:b8 E) (x:1<=c/\c<6) (e:(gr c).aB=1) (l:cO E c (gr c)≠[]) (p:Kp E c G (eC E c (gr c))) (j:cC E rs A bB gr c) (r:kn E c (gr c) D):∃ s,jb E rs A bB gr c (G++[D]) s:=by
 have B:=ay.e.n;have b:cO E c (gr c)=hg (gr c).eM:=by unfold cO;rw [e];rfl
 have y:eC E c (gr c)=mg E c (gr c).eM:=by unfold eC;rw [e];rfl
 unfold cC at j;rw [e] at j;obtain ⟨t,b0,o⟩:=j;have au:(gr c).eM≠[]:=λu=>l (by rw [b,u];rfl)
 have f:∀ {q m:Nat},(gr c).eM[q]?=some m->∃ d,(gr c).bw q=some d/\D[q]?=some d:=λ{q m} h=>r.bw (q:=q) (v:=fW m 24 1 2) (by rw [b];unfold hg;rw [dR,h];rfl)
 have a:=r.fit;rw [b] at a;rw [y] at p;refine ⟨_,Co ay x (by omega) (p.next λX=>M0 au a (λi z=>?_) X) λm hm=>?_⟩
 ·obtain ⟨m,hm⟩:∃ m,(gr c).eM[i]?=some m:=⟨_,bD z⟩;obtain ⟨d,k,w⟩:=f hm;rw [vA w];exact (o i m d hm k).2
 ·by_cases g:m ∈ (gr c).eM
  ·obtain ⟨q,h⟩:=eh.1 g;obtain ⟨d,k,_⟩:=f h;exact (o q m d h k).1
  ·exact t m hm g
theorem Pf (ay:b8 E) (o:1<=c/\c<6) (e:(gr c).aB=2) (u:Kp E c G (eC E c (gr c))) (r:cC E rs A bB gr c) (B:kn E c (gr c) D):∃ s,jb E rs A bB gr c (G++[D]) s:=by
 have J:=ay.e.n;have l:cO E c (gr c)=gZ c:=by unfold cO;rw [e];rfl
 have I:eC E c (gr c)=kW E c:=by unfold eC;rw [e];rfl
 unfold cC at r;rw [e] at r;obtain ⟨C,b0⟩:=r;obtain ⟨d,z,t⟩:=B.bw (q:=0) (v:=fW 0 49 0 (gA c)) (by rw [l];rfl);have a:=B.fit;rw [l] at a;rw [I] at u;have hw:mY D=d8 d:=by
  cases D with
  |nil=>simp at t
  |cons x xs=>simp at t;subst t;rfl
 rcases b0 d z with ⟨b1,aA⟩ | ⟨c',b1,aA,y,F⟩
 ·refine ⟨ns 3,(mN (b:=3) (by omega) (by omega)),?_,⟨λh=>(by have:4<=3:=h.1;omega),λh=>(by have:3=8:=h;omega)⟩,rfl,λ_=>.inr ⟨by show 3<=3;omega,by show 3<=10;omega⟩,λ_=>.inr (.inl ⟨by show 3<=3;omega,by show 3<=8;omega⟩),nN ay o (by show 3<=9;omega) (u.next λX=>M1 o.2 a (hw.trans b1) X) Oj (zz _) ?_⟩
  ·unfold cC;rw [eT];exact ⟨⟨C,aA⟩,λq v d _ h=>by cases h⟩
  ·rw [e];have:=NV (E:=E) J.2;show cost (gK E.n)+1063<=1669/\(gK E.n).length<=1024;omega
 ·have f:d8 d≠0:=by rw [y];exact y7 c'
  have w:=u.next λX=>M3 o.2 a (by rw [hw];exact f) (by rw [hw,y];exact λH=>aA (Da H)) X
  have g:∀ i,(gr c).bw 0=some i->d8 i≠0:=λi k=>by rw [z] at k;cases k;exact f
  refine ⟨ns 11,(mN (b:=11) (by omega) (by omega)),?_,⟨λh=>(by have:11<=7:=h.2;omega),λh=>(by have:11=8:=h;omega)⟩,rfl,λh=>?_,λh=>?_,.inr (.inr ⟨rfl,_,w.out ay o rfl rfl rfl⟩)⟩
  ·unfold cC;rw [eT];exact ⟨c',b1,aA,by rw [kw aA];exact F⟩
  ·rcases h with ⟨_,i,j,p⟩ | ⟨j,_⟩
   ·exact absurd p (g i j)
   ·omega
  ·rcases h with ⟨_,i,j,p⟩ | ⟨j,_⟩ | ⟨j,_⟩
   ·exact absurd p (g i j)
   ·omega
   ·omega
end
end
end Go.Proofs.YtmkljjbioomepaaGreat
