import Derived.Test.YtmkljjbioomepaaGreatc39
set_option linter.all false
namespace Go.Proofs.YtmkljjbioomepaaGreat
open Go.Proofs.Tryz Go.br
variable {C:bP} {E:Env} {P:Prop} {c i k m n q:Nat} {l:cP} {p:c4} {v:aP} {vs:List aP} {x:a0}
section
open e1
theorem Jj {n:a0} (c:fH p) {l':cP} (d:l.pair=p) (b:l'.pair=(p.step n).1) (an:p.ba≠[]):iB l'<iB l:=by
 obtain ⟨v,eU,a⟩:=sX an;by_cases f:p.refusal v n=0
 ·exact Kt c (λv2 i e=>by rw [a] at e;cases e;exact f) d b an
 ·have g:=c.hL v eU a;have h:=yY a f;unfold iB;rw [d,b,h,a];show (p.ba.tail.map _).sum - 0<_;rw [a];simp only [gA,j_,List.tail_cons];omega
theorem Kx (x:a0) (h:C.aD[m]?=some l) (g:fH l.pair) (an:l.pair.ba≠[]):iA (C.comes m l (l.pair.step x).1 (l.pair.step x).2.2)<iA C:=by
 have c:∃ l',(C.comes m l (l.pair.step x).1 (l.pair.step x).2.2).aD=C.aD.set m l'/\l'.pair=(l.pair.step x).1:=by
  cases (l.pair.step x).2.2 with
  |none=>exact ⟨_,rfl,rfl⟩
  |some d=>exact ⟨_,rfl,rfl⟩
 obtain ⟨l',e,f⟩:=c;unfold iA;rw [e,il];have j:=Jj g (l:=l) (l':=l') rfl f an;have:=yu (l:=C.aD.map iB) (i:=m) (a:=iB l) (b:=iB l') (by rw [d',h];rfl);omega
theorem MV {eU:List aP} (a:p.ba=v::eU) (c:v.kind=1\/(v.kind=3/\(v.at_.toNat<56\/168<=v.at_.toNat))) (i:Nat) (d:56<=i) (f:i<168):(p.step x).2.1.get i=x.get i:=by
 by_cases b:p.refusal v x=0
 ·have he:∀ pc,(exec v pc x).1.get i=x.get i:=λpc=>by
   unfold exec;rcases c with e | ⟨e,g⟩
   ·rw [if_pos e]
   ·rw [if_neg (by omega),if_neg (by omega),if_pos e];show (x.gh v.at_ v.old v.new).get i=_;unfold a0.gh;split
    ·unfold a0.get;simp only;rw [dD,dD,h6 (by omega)]
    ·rfl
  rw [uM a b];split
  ·exact he _
  ·exact he _
 ·rw [yY a b]
theorem yN {g bU:c8} (h:bU.bare=g.bare):bU.aB=g.aB:=by
 have:bU.bare.aB=g.bare.aB:=by rw [h]
 exact this
structure j4 (n:Nat) (C:bP):Prop where
 inc:C.inc=1
 live:C.alive=true
 aD:C.aD.length=n
 m7:∀ (k:Nat) (l:cP),C.aD[k]?=some l->vp l.pair
theorem j4.comes {n:Nat} {C:bP} (h:j4 n C) {m:Nat} {l:cP} (b:C.aD[m]?=some l) (x:a0):j4 n (C.comes m l (l.pair.step x).1 (l.pair.step x).2.2):=by
 refine ⟨?_,(H4 C m l _ _).trans h.live,?_,λk l' a=>?_⟩
 ·cases (l.pair.step x).2.2<;>exact h.inc
 ·cases (l.pair.step x).2.2<;>simp [bP.comes,h.aD]
 ·by_cases e:k=m
  ·subst e;obtain ⟨l2,c,d⟩:=xo b (l.pair.step x).1 (l.pair.step x).2.2;rw [c] at a;cases a;rw [d];exact KF (h.m7 k l b)
  ·rw [kw e] at a;exact h.m7 k l' a
theorem EA {F:aM} (p:cp F) {j:Nat} (k:F.aX[i]?=some C) (o:j4 E.n C) (b:C.aD[j]?=some l) (r:F.nodes[j]?=some x) (an:l.pair.ba≠[]) {bs:Nat->Option aL} (e:gB C vs bs):∃ v eU q b_,y1 E F.nodes i j C vs bs l x v eU q b_:=by obtain ⟨v,eU,d⟩:=sX an;obtain ⟨q,b_,g,h,a,f⟩:=(e.lane j l b).head d;have c:=(p.cj.ok.a3 i C k).lane j l b;exact ⟨v,eU,q,b_,b,r,d,g,h,a,f,c.a3,c.inc.trans o.inc,p.cj.dj C (cg k) l (cg b),o.m7 j l b⟩
structure hx (E:Env) (rs:cQ) (F:aM) (A:bA) (g:gC) (gr:Nat->c8):Prop where
 g8:cp F
 lines:F.lines=E.L
 ib:F.bV=[]
 rT:4<=F.aX.length
 rep:jv E A F.nodes
 law:e2 E A
 uG:tH rs A gr
 cz:∃ C,F.aX[0]?=some C/\j4 E.n C/\(g.aB<=4->gB C (dV E g.aB) g.bs/\(g.aB=0->oU E C F.nodes))/\(5<=g.aB->C.batch=none/\hr C)
 qP:eZ E A g
 uz:m0 E A g
 xd:g.aB=8->fP E A/\(∀ m,m<E.n->A.dK m=false)/\∀ m,m<E.n->∀ p ∈ bJ E,A.bS m (bp p)=0
 qV:∀ c ∈ rs,∃ C,F.aX[c]?=some C/\j4 E.n C/\((gr c).aB<=9->gB C (cM E c (gr c)) (gr c).bs/\((gr c).aB=3->ql C F.nodes))/\(10<=(gr c).aB->C.batch=none/\hr C)
 oq:∀ c ∈ rs,cB E rs A F.nodes gr c/\lx E (gr c)/\l4 E c (gr c)/\(gr c).aB<=12
 uf:(∃ p ∈ bJ E,A.bS 0 (bp p)=1)->h7 E A
 op:(∀ c ∈ rs,(gr c).aB=12)->∀ m,A.dh m=false
 rest:∀ (c:Nat) (C:bP),c≠0->c ∉ rs->F.aX[c]?=some C->j4 E.n C/\C.batch=none/\hr C
theorem n6.gw (b:1<=E.n) {A A':bA} (h:n6 E A A'):n3 E A A':=⟨h.mono,λ_=>h.qO,λ_ a p c=>h.uj a 0 b p c⟩
section
variable {E:Env} {rs:cQ} {F F':aM} {A:bA} {g:gC} {gr:Nat->c8}
theorem KI (ay:b5 E) {bz:List a0} (h:cB E rs A bz gr c) (hm:fP E A) (an:(cM E c (gr c))[q]?=some v):v.kind=1\/(v.kind=3/\(v.at_.toNat<56\/168<=v.at_.toNat)):=by
 have f:=ay.e.n;have no:∀ {P:Prop},(∃ m,m<E.n/\A.cF m=true)->P:=λ⟨m,b,a⟩=>by rw [hm m b] at a;cases a
 unfold cB at h;unfold cM at an;split at an
 ·obtain ⟨m,_,rfl⟩:=cW.1 (cg an);exact .inl rfl
 ·obtain ⟨m,_,rfl⟩:=cW.1 (cg an);exact .inr ⟨rfl,.inl (by show ((24:Int)).toNat<56;omega)⟩
 ·have:=cg an;simp only [gW,nR] at this;subst this;exact .inr ⟨rfl,.inl (by show ((49:Int)).toNat<56;omega)⟩
 ·rcases ze an with ⟨m,_,⟨_,rfl⟩ | ⟨_,rfl⟩⟩ | ⟨_,rfl⟩<;>exact .inl rfl
 ·rename_i e;rw [e] at h;exact no h.2.2.1
 ·rename_i e;rw [e] at h;exact no ⟨0,by omega,h.2.1 0 (by omega)⟩
 ·rename_i e;rw [e] at h;exact no ⟨0,by omega,h.2.1 0 (by omega)⟩
 ·rename_i e;rw [e] at h;exact no ⟨0,by omega,h.2.1 0 (by omega)⟩
 ·rename_i e;rw [e] at h;obtain ⟨p,d,rfl⟩:=cW.1 (cg an);have:=h.2.2.2.2.1 p d;exact .inr ⟨rfl,.inr (by show 168<=(p.bn * 8).toNat;omega)⟩
 ·have:=cg an;simp only [gF,nR] at this;subst this;exact .inr ⟨rfl,.inl (by show ((49:Int)).toNat<56;omega)⟩
 ·simp at an
theorem OJ {A:bA} {g:gC} (o:1<=E.n) (h:eZ E A g) (a:e2 E A) (l:g.aB<=4):(∃ p ∈ bJ E,A.bS 0 (bp p)=1)->h7 E A:=λ⟨p,b,k⟩=>by
 unfold eZ at h;split at h
 ·have:=h.2.2.1 0 (by omega) p b;omega
 ·exact h.1
 ·exact h.1
 ·exact (a.l2 0 (by omega) (h.1 0 (by omega))).1
 ·exact (a.l2 0 (by omega) (h.1 0 (by omega))).1
 ·omega
 ·rename_i c d f i j q;exfalso;obtain e | e | e | e | e:g.aB=0\/g.aB=1\/g.aB=2\/g.aB=3\/g.aB=4:=by omega
  ·exact c e
  ·exact d e
  ·exact f e
  ·exact i e
  ·exact j e
theorem OK {A A':bA} (r:1<=E.n) (h:e2 E A) (c:e2 E A') (f:n6 E A A') (k:(∃ p ∈ bJ E,A.bS 0 (bp p)=1)->h7 E A):(∃ p ∈ bJ E,A'.bS 0 (bp p)=1)->h7 E A':=λ⟨p,b,q⟩=>by
 by_cases hm:fP E A'
 ·have a:=f.some_ hm;refine f.mono.lb (k ⟨p,b,?_⟩);have o:=(h.cU 0 (by omega) p b).1;have l:A.bS 0 (bp p)≠0:=λe=>by have:=f.uj a 0 (by omega) p b e;omega
  have g:A.bS 0 (bp p)≠2:=λe=>by have:=h.ix 0 (by omega) p b e 0 (by omega);rw [a 0 (by omega)] at this;cases this
  omega
 ·have:∃ m,m<E.n/\A'.cF m=true:=by
   refine Classical.byContradiction λj=>hm λm hm=>?_
   cases d:A'.cF m with
   |false=>rfl
   |true=>exact absurd ⟨m,hm,d⟩ j
  obtain ⟨m,i,g⟩:=this;exact (c.l2 m i g).1
theorem CD {bz:List a0} (h:cB E rs A bz gr c) (a:(gr c).aB=3):Own E A c:=h.own (.inr (.inl ⟨by omega,by omega⟩))
theorem MW (ay:b5 E) (T:∀ c ∈ rs,1<=c/\c<6) (h:hx E rs F A g gr) (VS:mG i m F=some F') :
  ∃ A' bU Vr,hx E rs F' A' bU Vr/\bU.aB=g.aB/\(∀ c,(Vr c).bare=(gr c).bare)/\(5<=g.aB->n6 E A A')/\dm E A A'/\(i=0\/i ∈ rs)/\∃ C C',F.aX[i]?=some C/\F'.aX[i]?=some C'/\iA C'<iA C/\∀ k,k≠i->F'.aX[k]?=F.aX[k]?:=by
 obtain ⟨C,l,x,K,M,Vw,an,s⟩:=sn.1 VS;have B:=h.g8.mG VS;have G:=ch K;have r:l.pair.ba≠[]:=λe=>an (by rw [e];rfl)
 have VU:fH l.pair:=h.g8.cj.dj C (cg K) l (cg M);have N:=ay.e.n;have z:F'.aX[i]?=some (C.comes m l (l.pair.step x).1 (l.pair.step x).2.2):=by rw [s];exact jK G
 have j:∀ k,k≠i->F'.aX[k]?=F.aX[k]?:=λk VV=>by rw [s];exact h6 (λe=>VV e.symm)
 have f:F'.nodes=F.nodes.set m (l.pair.step x).2.1:=by rw [s]
 have Vv:=Kx x M VU r;by_cases Vt:i=0
 ·subst Vt;obtain ⟨Vz,Vx,Vy,VI,VJ⟩:=h.cz;rw [K] at Vx;cases Vx;have H:g.aB<=4:=by
   refine x5 λG=>?_
   exact r ((VJ G).2 m l M)
  obtain ⟨D,VC⟩:=VI H;obtain ⟨v,eU,q,b_,ar⟩:=EA h.g8 K Vy M Vw r D;obtain ⟨A',bU,st⟩:=O' ay h.rep h.law h.qP h.uz H D ar VC;have VD:m<E.n:=by have:=ch Vw;rw [h.rep.len] at this;exact this
  have o:∀ c ∈ rs,Own E A c->A'=A/\F'.nodes=F.nodes:=λc _ VG=>by rw [f];exact st.stay (VG.1 m VD)
  refine ⟨A',bU,gr,⟨B,by rw [s];exact h.lines,by rw [s];exact h.ib,by rw [s];simpa using h.rT,by rw [f];exact st.rep,st.law,?_,⟨_,z,Vy.comes M x,λ_=>⟨by rw [st.aB];exact st.mb,λe=>by rw [f];exact st.jw (by rw [<-st.aB];exact e)⟩,λe=>absurd e (by rw [st.aB];omega)⟩,st.ok,st.res,λe=>absurd e (by rw [st.aB];omega),λc u=>?_,λc u=>?_,OJ N.1 st.ok st.law (by rw [st.aB];exact H),λL m=>by rw [st.dh];exact h.op L m,λc O Q I U=>h.rest c O Q I (by rw [<-j c Q];exact U)⟩,st.aB,λc=>rfl,λe=>by omega,st.gw.mono,.inl rfl,C,_,K,z,Vv,j⟩
  ·rcases h.uG with e | ⟨c,a,b,d⟩
   ·exact .inl (st.dU.trans e)
   ·exact .inr ⟨c,a,st.dU.trans b,d⟩
  ·obtain ⟨O,X,Y,J,Z⟩:=h.qV c u;have:=T c u;refine ⟨O,by rw [j c (by omega)];exact X,Y,λe=>⟨(J e).1,λP=>?_⟩,Z⟩
   rw [(o c u (CD (h.oq c u).1 P)).2];exact (J e).2 P
  ·obtain ⟨V,VK,VL,VM⟩:=h.oq c u;refine ⟨?_,VK,VL,VM⟩;by_cases L:hY (gr c)
   ·obtain ⟨VB,W⟩:=o c u (V.own L);rw [VB,W];exact V
   ·exact V.gw rfl L st.gw λ_ w=>w
 ·by_cases t:i ∈ rs
  ·have Vs:=T i t;obtain ⟨Vz,Vx,Vy,VI,VJ⟩:=h.qV i t;rw [K] at Vx;cases Vx;obtain ⟨V,VK,VL,VM⟩:=h.oq i t;have H:(gr i).aB<=9:=by
    refine x5 λG=>?_
    exact r ((VJ G).2 m l M)
   obtain ⟨D,VH⟩:=VI H;obtain ⟨v,eU,q,b_,ar⟩:=EA h.g8 K Vy M Vw r D;obtain ⟨A',bU,st⟩:=Pa ay Vs t T h.rep h.law V VK VL D ar VH h.uG;have S:bU.aB=(gr i).aB:=yN st.bare;have R:∀ c,(hN gr i bU c).bare=(gr c).bare:=λc=>by
    by_cases e:c=i
    ·subst e;rw [eR];exact st.bare
    ·rw [jT e]
   have o:∀ c ∈ rs,c≠i->Own E A c->A'=A/\F'.nodes=F.nodes:=λc _ VE VG=>by rw [f];exact st.other c VE VG
   refine ⟨A',g,hN gr i bU,⟨B,by rw [s];exact h.lines,by rw [s];exact h.ib,by rw [s];simpa using h.rT,by rw [f];exact st.rep,st.law,st.dU,?_,h.qP.rec N.1 st.oy,h.uz.mono st.oy.mono,λe=>?_,λc u=>?_,λc u=>?_,OK N.1 h.law st.law st.oy h.uf,λL=>(by have:=L i t;rw [eR,S] at this;omega),λc O Q I U=>h.rest c O Q I (by rw [<-j c (λe=>I (by rw [e];exact t))];exact U)⟩,rfl,R,λ_=>st.oy,st.oy.mono,.inr t,C,_,K,z,Vv,j⟩
   ·obtain ⟨Vz,X,Y,J,Z⟩:=h.cz;refine ⟨Vz,by rw [j 0 (by omega)];exact X,Y,λe=>⟨(J e).1,λVA=>?_⟩,Z⟩
    have VF:fP E A:=by have:=h.qP;unfold eZ at this;rw [VA] at this;exact this.1
    have Vu:=KI ay V VF ar.at_;intro k l' y Q I VT U VQ;have VZ:=ay.lC;rw [f] at I;by_cases VP:k=m
    ·subst VP;rw [jK (ch Vw)] at I;cases I;rw [MV ar.hJ Vu _ (by omega) (by omega)];exact (J e).2 VA k l' x Q Vw VT U VQ
    ·rw [h6 (λW=>VP W.symm)] at I;exact (J e).2 VA k l' y Q I VT U VQ
   ·obtain ⟨a,b,d⟩:=h.xd e;exact ⟨st.oy.qO a,λm hm=>st.oy.dK a m hm (b m hm),λm hm p VR=>st.oy.uj a m hm p VR (d m hm p VR)⟩
   ·by_cases e:c=i
    ·subst e;rw [eR];exact ⟨_,z,Vy.comes M x,λ_=>⟨st.mb,λP=>by rw [f];exact st.Tb P⟩,λe=>absurd e (by rw [S];omega)⟩
    ·obtain ⟨O,X,Y,J,Z⟩:=h.qV c u;rw [jT e];refine ⟨O,by rw [j c e];exact X,Y,λVO=>⟨(J VO).1,λP=>?_⟩,Z⟩
     rw [(o c u e (CD (h.oq c u).1 P)).2];exact (J VO).2 P
   ·by_cases e:c=i
    ·subst e;rw [eR];exact ⟨by rw [f];exact st.ok,st.xr,st.res,by rw [S];exact VM⟩
    ·obtain ⟨VN,VW,VX,VY⟩:=h.oq c u;rw [jT e];refine ⟨?_,VW,VX,VY⟩;by_cases L:hY (gr c)
     ·obtain ⟨VB,W⟩:=o c u e (VN.own L);rw [VB,W];exact VN.stay (jT e) (vl st.uK)
     ·exact VN.gw (jT e) L (st.oy.gw N.1) (vl st.uK)
  ·exact absurd ((h.rest i C Vt t K).2.2 m l M) r
end
end
section
open e1
def gx:Nat->Nat
 | 0=>1675
 | 1=>1670
 | 2=>1669
 | 3=>1063
 | 4=>498
 | 5=>486
 | 6=>98
 | 7=>1
 | 8=>1
 | 12=>1680
 | _=>0
theorem xI {k:Nat}:∀ {hj:List (List aP)},(∀ b ∈ hj,cost b<=k)->cost hj.flatten<=hj.length * k
 | [],_=>by simp [cost]
 |b::hj,h=>by
  have d:=xI λc a=>h c (fD _ a)
  have e:=h b e_;rw [gR,oo,hh,h5];omega
theorem pm {K:Nat} (h:cost vs<=n * k) (b:n<=m) (a:m * k<=K):cost vs<=K:=ll h (ll (sV _ b) a)
section
variable {E:Env} {c:Nat}
theorem OL (n:Nat):(gJ n).length=n * 2+1:=by unfold gJ;rw [dH,qQ (k:=2) (λb a=>by obtain ⟨m,_,rfl⟩:=cW.1 a;rfl)];simp
theorem N' (E:Env) (sp:cQ):(gz E sp).length=sp.length * 3:=by unfold gz;rw [qQ (k:=3) (λb a=>by obtain ⟨m,_,rfl⟩:=cW.1 a;rfl)];simp
theorem Oa (E:Env) (l:List aJ):(fG E l).length=(E.n - 1) * (l.length+1):=by unfold fG;rw [qQ (k:=l.length+1) (λb a=>by obtain ⟨m,_,rfl⟩:=cW.1 a;simp)];simp
theorem MX (a:E.n<=5):cost (iv E.n)<=5/\(iv E.n).length<=1024:=by
 refine ⟨?_,by unfold iv;simp;omega⟩;have h:cost (iv E.n)<=(iv E.n).length * 1:=lK λv an=>by obtain ⟨m,_,rfl⟩:=cW.1 an;exact cO _
 exact pm h (show _<=5 by unfold iv;simpa using a) (by omega)
theorem MY {eM:cQ} (a:eM.length<=5):cost (hg eM)<=5/\(hg eM).length<=1024:=by
 refine ⟨?_,by unfold hg;simp;omega⟩;have h:cost (hg eM)<=(hg eM).length * 1:=lK λv an=>by obtain ⟨m,_,rfl⟩:=cW.1 an;exact cO _
 exact pm h (show _<=5 by unfold hg;simpa using a) (by omega)
theorem MZ:cost (gW c)<=1/\(gW c).length<=1024:=by
 refine ⟨?_,by simp [gW]⟩;have h:cost (gW c)<=(gW c).length * 1:=lK λv an=>by simp only [gW,nR] at an;subst an;exact cO _
 exact h
theorem M0:cost (gF c)<=1/\(gF c).length<=1024:=by
 refine ⟨?_,by simp [gF]⟩;have h:cost (gF c)<=(gF c).length * 1:=lK λv an=>by simp only [gF,nR] at an;subst an;exact cO _
 exact h
theorem pY (h:v.v.count.toNat<=k):cost [v]<=k:=by
 have h:cost [v]<=([v]:List aP).length * k:=lK λu hu=>by simp only [nR] at hu;subst hu;exact h
 simpa using h
theorem M1 (e:E.n<=5):cost (gJ E.n)<=606/\(gJ E.n).length<=1024:=by
 refine ⟨?_,by have:=OL E.n;omega⟩;unfold gJ;rw [oo];have a:cost ((List.range E.n).map λm=>[cN m 24 1,cN m 48 120]).flatten<=((List.range E.n).map λm=>[cN m 24 1,cN m 48 120]).length * 121:=xI λb d=>by
  obtain ⟨m,_,rfl⟩:=cW.1 d;have:cost ([cN m 24 1]++[cN m 48 120])<=121:=by rw [oo];have a:cost [cN m 24 1]<=1:=pY (cO _);have c:cost [cN m 48 120]<=120:=pY (cO _);omega
  exact this
 have c:=pm a (show _<=5 by simpa using e) (cO (5 * 121));have f:cost [cN 0 32 1]<=1:=pY (cO _);omega
theorem M3 (ay:b5 E) {sp:cQ} (d:sp.length<=5):cost (gz E sp)<=565/\(gz E sp).length<=1024:=by
 refine ⟨?_,by have:=N' E sp;omega⟩;unfold gz;have a:cost (sp.map λm=>[cw m 48 [0],cw m 56 (gP E),cw m 48 [h4 E]]).flatten<=(sp.map λm=>[cw m 48 [0],cw m 56 (gP E),cw m 48 [h4 E]]).length * 113:=xI λb c=>by
  obtain ⟨m,_,rfl⟩:=cW.1 c;have:cost ([cw m 48 [0]]++([cw m 56 (gP E)]++[cw m 48 [h4 E]]))<=113:=by
   rw [oo,oo];have a:cost [cw m 48 [0]]<=1:=pY (cO _);have e:cost [cw m 56 (gP E)]<=111:=pY (by have:=ay.lC;show ((gP E).length:Int).toNat<=111;omega)
   have f:cost [cw m 48 [h4 E]]<=1:=pY (cO _);omega
  exact this
 exact pm a (show _<=5 by simpa using d) (cO (5 * 113))
theorem M4 (ay:b5 E):cost (gL (bJ E))<=12/\(gL (bJ E)).length<=1024:=by
 refine ⟨?_,by have:=ay.lC.2;unfold gL;simp;omega⟩;have h:cost (gL (bJ E))<=(gL (bJ E)).length * 1:=lK λv an=>by obtain ⟨m,_,rfl⟩:=cW.1 an;exact cO _
 exact pm h (show _<=12 by unfold gL;simpa using ay.lC.2) (by omega)
theorem MB {ev:List aJ} (a:ev.length<=12):cost (ih ev)<=12/\(ih ev).length<=1024:=by
 refine ⟨?_,by unfold ih;simp;omega⟩;have h:cost (ih ev)<=(ih ev).length * 1:=lK λv an=>by obtain ⟨m,_,rfl⟩:=cW.1 an;exact cO _
 exact pm h (show _<=12 by unfold ih;simpa using a) (by omega)
theorem Cb {l:List aJ} (a:l.length<=12):cost (l.map (fz m))<=96:=by
 have h:cost (l.map (fz m))<=(l.map (fz m)).length * 8:=lK λv an=>by obtain ⟨m,_,rfl⟩:=cW.1 an;exact cO _
 exact pm h (show _<=12 by simpa using a) (by omega)
theorem Dv {l:List aJ} (a:l.length<=12):cost (fV E l)<=97/\(fV E l).length<=1024:=by refine ⟨?_,by unfold fV;simp;omega⟩;have h:fV E l=[cw 0 32 [c7 E]]++l.map (fz 0):=rfl;rw [h,oo];have b:cost [cw 0 32 [c7 E]]<=1:=pY (cO _);have:=Cb (m:=0) a;omega
theorem Dw (e:E.n<=5) {l:List aJ} (d:l.length<=12):cost (fG E l)<=388/\(fG E l).length<=1024:=by
 refine ⟨?_,by have:=Oa E l;have f:(E.n - 1) * (l.length+1)<=4 * 13:=p1 (by omega) (by omega);omega⟩;unfold fG;have a:cost ((List.range (E.n - 1)).map λm=>l.map (fz (m+1))++[cw (m+1) 32 [c7 E]]).flatten<=((List.range (E.n - 1)).map λm=>l.map (fz (m+1))++[cw (m+1) 32 [c7 E]]).length * 97:=xI λb c=>by obtain ⟨m,_,rfl⟩:=cW.1 c;rw [oo];have a:cost [cw (m+1) 32 [c7 E]]<=1:=pY (cO _);have:=Cb (m:=m+1) d;omega
 exact pm a (show _<=4 by simp;omega) (cO (4 * 97))
end
theorem vm {D:List aL} {d:aL} (h:D[q]?=some d):dx D q=dZ d:=by unfold dx;rw [dD,h];rfl
def ha:Nat->Option aL:=λ_=>none
def lG (aB:Nat):c8:=⟨aB,ha,[],[],0,[],[],[],(0,0)⟩
def mK (aB:Nat):Nat:=if aB<=7 then aB else aB - 1
theorem mI {a b:Nat} (h:a<b) (c:¬ (a=7/\b=8)):a=12\/mK a<mK b:=.inr (by unfold mK;split<;>split<;>omega)
structure iY (E:Env) (rs:cQ) (A:bA) (bz:List a0) (gr:Nat->c8) (c:Nat) (G:List (List aL)) (s:c8):Prop where
 up:(gr c).aB=12\/mK (gr c).aB<mK s.aB
 ok:cB E rs A bz (hN gr c s) c
 xr:lx E s
 bs:s.bs=ha
 uK:gE (gr c)->gE s
 holds:hY (gr c)->hY s
 go:(s.aB<=9/\fu (cv E c) G=(cM E c s,⟨0,0,0,0,0⟩,false)/\Kp E c G (ez E c s)/\cM E c s≠[]/\cost (cM E c s)+gx s.aB<=gx (gr c).aB/\(cM E c s).length<=1024)\/(s.aB=10/\fu (cv E c) G=([],⟨0,s.c3.1,s.c3.2,jA E.L s.cG s.aT,0⟩,true))\/(s.aB=11/\∃ w,fu (cv E c) G=([],⟨3,0,0,0,w⟩,true))
section
variable {E:Env} {rs:cQ} {A:bA} {bz:List a0} {gr:Nat->c8} {c:Nat} {G:List (List aL)} {D:List aL}
structure kf (E:Env) (c:Nat) (g:c8) (D:List aL):Prop where
 fit:Fit (cM E c g) D
 to:∀ q d,g.bs q=some d->D[q]?=some d
 all:∀ q,q<(cM E c g).length->∃ d,g.bs q=some d
theorem kf.bs (h:kf E c (gr c) D) {q:Nat} {v:aP} (an:(cM E c (gr c))[q]?=some v):∃ d,(gr c).bs q=some d/\D[q]?=some d:=by obtain ⟨d,ar⟩:=h.all q (ch an);exact ⟨d,ar,h.to q d ar⟩
theorem nF (ay:b5 E) (g:1<=c/\c<6) {s:c8} (e:s.aB<=9) (d:Kp E c G (ez E c s)) (f:(ez E c s []).1.ask=some (cM E c s)) (b:cM E c s≠[]) (a:cost (cM E c s)+gx s.aB<=gx (gr c).aB/\(cM E c s).length<=1024):(s.aB<=9/\fu (cv E c) G=(cM E c s,⟨0,0,0,0,0⟩,false)/\Kp E c G (ez E c s)/\cM E c s≠[]/\cost (cM E c s)+gx s.aB<=gx (gr c).aB/\(cM E c s).length<=1024)\/(s.aB=10/\fu (cv E c) G=([],⟨0,s.c3.1,s.c3.2,jA E.L s.cG s.aT,0⟩,true))\/(s.aB=11/\∃ w,fu (cv E c) G=([],⟨3,0,0,0,w⟩,true)):=
 .inl ⟨e,d.ask ay g f,d,b,a⟩
theorem y5 (h:(gr c).aB=12\/(gr c).aB<=1) (hw:gE (gr c)):P:=by rcases hw with ⟨g,_⟩ | ⟨a,b⟩<;>omega
theorem yO (h:(gr c).aB=12\/(gr c).aB<=1) (hw:hY (gr c)):P:=by rcases hw with ⟨g,_⟩ | ⟨a,b⟩ | ⟨g,_⟩<;>omega
theorem Ob (ay:b5 E) (a:1<=c/\c<6) (e:(gr c).aB=12):iY E rs A bz gr c [] (lG 0):=by
 refine ⟨.inl e,?_,⟨λh=>(by have:4<=0:=h.1;omega),λh=>(by have:0=8:=h;omega)⟩,rfl,λh=>y5 (.inl e) h,λh=>yO (.inl e) h,nF ay a (by show 0<=9;omega) P' (Oq ay.e.n.1) (zj ay.e.n.1) ?_⟩
 ·unfold cB;rw [eR];show ∀ m,m<E.n->∀ d,ha m=some d->_;intro m _ d h;cases h
 ·rw [e];have:=MX (E:=E) ay.e.n.2;show cost (iv E.n)+1675<=1680/\(iv E.n).length<=1024;omega
theorem Kp.congr {f a:List (List aL)->cn×dz} (h:Kp E c G f) (he:∀ X,f X=a X):Kp E c G a:=λX=>(h X).trans (he X)
theorem BK (ay:b5 E) (a:1<=c/\c<6) (e:(gr c).aB<=1) (f:Kp E c G (kQ E c)) (ar:iZ E A):iY E rs A bz gr c G (lG 2):=by
 refine ⟨(mI (b:=2) (by omega) (by omega)),?_,⟨λh=>(by have:4<=2:=h.1;omega),λh=>(by have:2=8:=h;omega)⟩,rfl,λh=>y5 (.inr e) h,λh=>yO (.inr e) h,nF ay a (by show 2<=9;omega) f (Ow a.2) (by show gW c≠[];simp [gW]) ?_⟩
 ·unfold cB;rw [eR];exact ⟨ar,λd h=>by cases h⟩
 ·have:=MZ (c:=c);have g:1670<=gx (gr c).aB:=by
   obtain e | e:(gr c).aB=0\/(gr c).aB=1:=by omega
   ·rw [e];show 1670<=1675;omega
   ·rw [e];exact cO _
  show cost (gW c)+1669<=_/\(gW c).length<=1024;omega
theorem D8:m ∈ kB n D↔m<n/\dx D m=1:=by unfold kB;rw [u5,fE];simp
theorem Pb (ay:b5 E) (r:1<=c/\c<6) (e:(gr c).aB=0) (t:Kp E c G (ez E c (gr c))) (o:cB E rs A bz gr c) (u:kf E c (gr c) D):∃ s,iY E rs A bz gr c (G++[D]) s:=by
 have B:=ay.e.n;have k:cM E c (gr c)=iv E.n:=by unfold cM;rw [e];rfl
 have y:ez E c (gr c)=qD E c:=by unfold ez;rw [e];rfl
 have hw:∀ i,i<E.n->dx D i=1\/(dx D i=2/\A.dh i=true):=λi l=>by obtain ⟨d,w,x⟩:=u.bs (q:=i) (v:=cN i 24 1) (by rw [k];unfold iv;rw [d',ka l];rfl);unfold cB at o;rw [e] at o;rw [vm x];exact o i l d w
 have a:=u.fit;rw [k] at a;rw [y] at t;have j:Kp E c (G++[D]) (me E c (kB E.n D)):=t.next λX=>Nd B.1 a (λi l=>(hw i l).imp id And.left) X
 have f:∀ m,m<E.n->m ∉ kB E.n D->A.dh m=true:=λm hm p=>by
  rcases hw m hm with g | ⟨_,g⟩
  ·exact absurd (D8.2 ⟨hm,g⟩) p
  ·exact g
 by_cases au:kB E.n D=[]
 ·refine ⟨_,BK ay r (by omega) (j.congr λX=>by rw [au];exact Ou X) λm hm=>f m hm (by rw [au];simp)⟩
 ·have z:(kB E.n D).length<=5:=by have:=u0 (λi=>dx D i == 1) (List.range E.n);rw [lr] at this;unfold kB;omega
  refine ⟨⟨1,ha,kB E.n D,[],0,[],[],[],(0,0)⟩,(mI (b:=1) (by omega) (by omega)),?_,⟨λh=>(by have:4<=1:=h.1;omega),λh=>(by have:1=8:=h;omega)⟩,rfl,λh=>y5 (.inr (by omega)) h,λh=>yO (.inr (by omega)) h,nF ay r (by show 1<=9;omega) j (Ov au) (by show hg _≠[];unfold hg;simpa using au) ?_⟩
  ·unfold cB;rw [eR];exact ⟨f,λm hm=>(D8.1 hm).1,λq m d _ h=>by cases h⟩
  ·rw [e];have:=MY z;show cost (hg (kB E.n D))+1670<=1675/\(hg (kB E.n D)).length<=1024;omega
theorem Pc (ay:b5 E) (x:1<=c/\c<6) (e:(gr c).aB=1) (l:cM E c (gr c)≠[]) (p:Kp E c G (ez E c (gr c))) (j:cB E rs A bz gr c) (r:kf E c (gr c) D):∃ s,iY E rs A bz gr c (G++[D]) s:=by
 have C:=ay.e.n;have b:cM E c (gr c)=hg (gr c).eM:=by unfold cM;rw [e];rfl
 have y:ez E c (gr c)=me E c (gr c).eM:=by unfold ez;rw [e];rfl
 unfold cB at j;rw [e] at j;obtain ⟨t,B,o⟩:=j;have au:(gr c).eM≠[]:=λu=>l (by rw [b,u];rfl)
 have f:∀ {q m:Nat},(gr c).eM[q]?=some m->∃ d,(gr c).bs q=some d/\D[q]?=some d:=λ{q m} h=>r.bs (q:=q) (v:=fR m 24 1 2) (by rw [b];unfold hg;rw [d',h];rfl)
 have a:=r.fit;rw [b] at a;rw [y] at p;refine ⟨_,BK ay x (by omega) (p.next λX=>Nf au a (λi z=>?_) X) λm hm=>?_⟩
 ·obtain ⟨m,hm⟩:∃ m,(gr c).eM[i]?=some m:=⟨_,bF z⟩;obtain ⟨d,k,w⟩:=f hm;rw [vm w];exact (o i m d hm k).2
 ·by_cases g:m ∈ (gr c).eM
  ·obtain ⟨q,h⟩:=eF.1 g;obtain ⟨d,k,_⟩:=f h;exact (o q m d h k).1
  ·exact t m hm g
theorem Pd (ay:b5 E) (o:1<=c/\c<6) (e:(gr c).aB=2) (u:Kp E c G (ez E c (gr c))) (r:cB E rs A bz gr c) (B:kf E c (gr c) D):∃ s,iY E rs A bz gr c (G++[D]) s:=by
 have K:=ay.e.n;have l:cM E c (gr c)=gW c:=by unfold cM;rw [e];rfl
 have J:ez E c (gr c)=kQ E c:=by unfold ez;rw [e];rfl
 unfold cB at r;rw [e] at r;obtain ⟨C,F⟩:=r;obtain ⟨d,z,t⟩:=B.bs (q:=0) (v:=fR 0 49 0 (gy c)) (by rw [l];rfl);have a:=B.fit;rw [l] at a;rw [J] at u;have hw:mP D=dZ d:=by
  cases D with
  |nil=>simp at t
  |cons x xs=>simp at t;subst t;rfl
 rcases F d z with ⟨b1,aA⟩ | ⟨c',b1,aA,y,H⟩
 ·refine ⟨lG 3,(mI (b:=3) (by omega) (by omega)),?_,⟨λh=>(by have:4<=3:=h.1;omega),λh=>(by have:3=8:=h;omega)⟩,rfl,λ_=>.inr ⟨by show 3<=3;omega,by show 3<=10;omega⟩,λ_=>.inr (.inl ⟨by show 3<=3;omega,by show 3<=8;omega⟩),nF ay o (by show 3<=9;omega) (u.next λX=>Ng o.2 a (hw.trans b1) X) Ox (zk _) ?_⟩
  ·unfold cB;rw [eR];exact ⟨⟨C,aA⟩,λq v d _ h=>by cases h⟩
  ·rw [e];have:=M1 (E:=E) K.2;show cost (gJ E.n)+1063<=1669/\(gJ E.n).length<=1024;omega
 ·have f:dZ d≠0:=by rw [y];exact yt c'
  have w:=u.next λX=>Nh o.2 a (by rw [hw];exact f) (by rw [hw,y];exact λI=>aA (Cz I)) X
  have g:∀ i,(gr c).bs 0=some i->dZ i≠0:=λi k=>by rw [z] at k;cases k;exact f
  refine ⟨lG 11,(mI (b:=11) (by omega) (by omega)),?_,⟨λh=>(by have:11<=7:=h.2;omega),λh=>(by have:11=8:=h;omega)⟩,rfl,λh=>?_,λh=>?_,.inr (.inr ⟨rfl,_,w.out ay o rfl rfl rfl⟩)⟩
  ·unfold cB;rw [eR];exact ⟨c',b1,aA,by rw [jT aA];exact H⟩
  ·rcases h with ⟨_,i,j,p⟩ | ⟨j,_⟩
   ·exact absurd p (g i j)
   ·omega
  ·rcases h with ⟨_,i,j,p⟩ | ⟨j,_⟩ | ⟨j,_⟩
   ·exact absurd p (g i j)
   ·omega
   ·omega
end
end
end Go.Proofs.YtmkljjbioomepaaGreat
