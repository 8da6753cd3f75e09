import Derived.Test.YtmkljjbioomepaaGreata39
import Derived.Test.YtmkljjbioomepaaGreata36
set_option linter.all false
namespace Go.Proofs.YtmkljjbioomepaaGreat
open Go.Proofs.Tryz Go.b8
variable {C C':cT} {F:a9} {c i p:Nat} {cU:kt} {s:fa}
section
open iH
theorem X3:∀ (vs:List bn) {C:cT} {k m:Nat} {l:eM},(C.lF k vs).aU[m]?=some l->∃ eU,C.aU[m]?=some eU/\l.pair.words=eU.pair.words/\l.pair.cu=eU.pair.cu
 | [],C,k,m,l,h=>⟨l,h,rfl,rfl⟩
 |v::vs,C,k,m,l,h=>by
  obtain ⟨ft,af,bY,bg⟩:=X3 vs (C:=C.k3 k v) (k:=k+1) h;unfold cT.k3 at af;simp only [Ic] at af;cases ab:C.aU[m]? with
  |none=>rw [ab] at af;simp at af
  |some eU=>
   rw [ab] at af;refine ⟨eU,rfl,bY.trans ?_,bg.trans ?_⟩;all_goals
    by_cases e:v.node.toNat=m
    ·simp [e] at af;subst af;rfl
    ·simp [e] at af;subst af;rfl
structure anh (n:Nat) (C':cT) (vs:List bn):Prop where
 base:rG n C'
 vG:lk C' vs mn
 zero:∀ (k:Nat) (l:eM),C'.aU[k]?=some l->l.pair.cu=0/\l.pair.words=[]
 oX:oX C'=cost vs
 busy:vs≠[]->¬ mO C'
section
variable {F:a9} {i n:Nat} {C:cT}
theorem aiT (aJ:dK F) (b0:F.bl[i]?=some C) (aM:mO C) (k:Nat) (l:eM) (au:C.aU[k]?=some l):l.pair.bN=[]/\l.cP=[]/\l.pair.cu=0/\l.pair.words=[]:=by have aw:=aM k l au;have af:=((aJ.du.ok.bw i C b0).lane k l au).cP;rw [aw] at af;have fO:=aJ.du.fE C (dn b0) l (dn au);exact ⟨aw,zh.1 af,fO.idle aw,fO.zero (fO.idle aw)⟩
theorem Ws (aJ:dK F) (b0:F.bl[i]?=some C) (aM:mO C):C.waiting=0:=by
 rw [(aJ.du.ok.bw i C b0).waiting];unfold l1;have:∀ ls:List eM,(∀ l ∈ ls,l.pair.bN=[])->(ls.map λl=>l.pair.bN.length).sum=0:=λls=>by
  induction ls with
  |nil=>intro _;rfl
  |cons l ls c5=>intro au;rw [kQ,qR,c5 λx ao=>au x (jz _ ao),au l iA];rfl
 exact this C.aU λl au=>by obtain ⟨k,J⟩:=hn.1 au;exact aM k l J
theorem X4 (aJ:dK F) (b0:F.bl[i]?=some C) (aM:¬ mO C):0<F.waiting (i:Int):=by
 unfold a9.waiting;rw [qC,b0];show 0<C.waiting;rw [(aJ.du.ok.bw i C b0).waiting];rcases Q1 (l1 C.aU) with e | e
 ·exact absurd (λk l au=>WF e l (dn au)) aM
 ·exact e
theorem X5 (aJ:dK F) (b0:F.bl[i]?=some C) (ak:rG n C) (aM:mO C) {vs:List bn} (eb:∀ v ∈ vs,v.node.toNat<n):anh n (({ C with batch:=none }:cT).sI vs) vs:=by
 have gw:=aiT aJ b0 aM;have jb:∀ v ∈ vs,v.node.toNat<({ C with batch:=none }:cT).aU.length:=λv aw=>by show _<C.aU.length;rw [ak.aU];exact eb v aw
 have fb:lk (({ C with batch:=none }:cT).sI vs) vs mn:=lk.post ak.live (λk l au=>⟨(gw k l au).1,(gw k l au).2.1⟩) jb;obtain ⟨oM,gE⟩:=W5 vs ({ C with batch:=none }:cT) 0;have aE:∀ (k:Nat) (l:eM),(({ C with batch:=none }:cT).sI vs).aU[k]?=some l->l.pair.cu=0/\l.pair.words=[]:=λk l au=>by obtain ⟨eU,bY,bg,dF⟩:=X3 vs (C:=({ C with batch:=none }:cT)) (k:=0) (l:=l) au;rw [bg,dF];exact ⟨(gw k eU bY).2.2.1,(gw k eU bY).2.2.2⟩
 refine ⟨⟨gE.trans ak.inc,fb.live,oM.trans ak.aU,λk l au v im _ _=>(aE k l au).2⟩,fb,aE,?_,λcj asY=>?_⟩
 ·have:=YL vs (C:=({ C with batch:=none }:cT)) (k:=0) (λm l au=>(gw m l au).2.2.1) jb;have iN:oX ({ C with batch:=none }:cT)=0:=LD aM;rw [iN,l6] at this;exact this
 ·obtain ⟨v,im,e⟩:=Fz cj;obtain ⟨k,l,au,hm⟩:=fb.left 0 (by rw [e];simp) rfl;have:=(fb.lane k l au).len;rw [asY k l au] at this;rw [zh.1 this] at hm;cases hm
end
theorem Cv (h:F.bl[i]?=some C):(l3 F i C').bl[i]?=some C':=qe (dy h)
theorem AN {k:Nat} (h:k≠i):(l3 F i C').bl[k]?=F.bl[k]?:=nC (λe=>h e.symm)
abbrev ir:=dB mA.conv
structure zB (E:Env) (A:cd) (g:kt) (t:ir):Prop where
 fE:t.bw=((0:Nat):Int)
 cH:t.cH=.inl (E.bG 0)
 bad:t.bad=false
 run:g.aQ<=4->t.ix=false/\qW E g.aQ t.bD/\(g.aQ=3->1<E.n)/\t.bD.length<=g.aQ
 fin:g.aQ=6->t.ix=true/\t.out=.inl (0,3)
 ref:g.aQ=7->t.ix=true/\∃ f,t.out=.inl (5,f)/\(f=1->ku E A)/\(f=3->nD E A)/\∃ m,m<E.n/\A.fA m=true
 new:g.aQ=8->t.ix=false/\t.bD=[]
 aQ:g.aQ<=8/\g.aQ≠5
theorem zB.aO {E:Env} {A A':cd} {g:kt} {t:ir} (h:zB E A g t) (ar:cU.aQ=g.aQ) (aA:5<=g.aQ->zA E A A'):zB E A' cU t:=by refine ⟨h.fE,h.cH,h.bad,by rw [ar];exact h.run,by rw [ar];exact h.fin,λe=>?_,by rw [ar];exact h.new,by rw [ar];exact h.aQ⟩;rw [ar] at e;obtain ⟨a,f,b,c,d,m,bY,bg⟩:=h.ref e;have aA:=aA (by omega);exact ⟨a,f,b,λe=>aA.EM (c e),λe=>aA.mono.am (d e),m,bY,aA.mono.fA m bg⟩
section
variable {E:Env} {rs:eI} {F:a9} {A:cd} {g:kt} {gr:Nat->fa}
theorem ln.aeU (h:ln E rs F A g gr) (oa:0 ∉ rs) (b0:F.bl[0]?=some C) (aJ:dK (l3 F 0 C')) (ak:rG E.n C') (ca:cU.aQ<=4->lk C' (g7 E cU.aQ) cU.cf/\(cU.aQ=0->A7 E C' F.nodes)) (c9:5<=cU.aQ->C'.batch=none/\mO C') (aq:iC E A cU) (aA:xZ E A cU) (aj:cU.aQ≠8):ln E rs (l3 F 0 C') A cU gr:=
 ⟨aJ,h.lines,h.nk,by simpa [l3] using h.Gn,h.rep,h.law,h.LC,⟨C',Cv b0,ak,ca,c9⟩,aq,aA,λe=>absurd e aj,λc ab=>by rw [AN (λe=>oa (by rw [<-e];exact ab))];exact h.EY c ab,h.wI,h.Lg,h.op,λc qV af al aL=>h.rest c qV af al (by rw [<-AN af];exact aL)⟩
def Dm (E:Env) (rs:eI) (F:a9) (A:cd) (g:kt) (gr:Nat->fa) (t:ir):Prop:=
 ∃ cU,ln E rs (eW F t).1 A cU gr/\zB E A cU (eW F t).2/\gR (eW F t).1 0+AE cU.aQ<=gR F 0+AE g.aQ/\(∀ k,k≠0->(eW F t).1.bl[k]?=F.bl[k]?)/\(cU.aQ=6\/cU.aQ=7\/cU.aQ<=4/\∃ C,(eW F t).1.bl[0]?=some C/\¬ mO C)/\(g.aQ=6\/g.aQ=7->eW F t=(F,t)/\cU=g)
theorem am4 (aI:di E) (p:Nat):(g7 E p).length<=1024:=by
 have aj:=aI.e.n;have ak:=aI.ux;unfold g7;split
 ·simp;omega
 ·simp;omega
 ·simp;omega
 ·exact (Zo aj.2 ak.2).2
 ·exact (Zn (E:=E) ak.2).2
theorem F' (aI:di E) (oa:0 ∉ rs) (h:ln E rs F A g gr) {t:ir} (bq:zB E A g t) (b0:F.bl[0]?=some C) (ak:rG E.n C) (aM:mO C) (aq:t.ix=false) (cj:g.aQ≠6/\g.aQ≠7) (ar:p<=4) (g':p=3->1<E.n) (J:qW E p (iT t C)) (au:(iT t C).length<=p) (b3:iC E A ⟨p,mn⟩) (gu:cost (g7 E p)+AE p<=AE g.aQ):Dm E rs F A g gr t:=by
 have aj:=aI.e.n;have hS:mA.conv.next t.cH (iT t C)=(g7 E p,.inl (0,0),false):=by rw [bq.cH];show ((g1 (E.bG 0) (iT t C)).1,Sum.inl (g1 (E.bG 0) (iT t C)).2.1,(g1 (E.bG 0) (iT t C)).2.2)=_;rw [J.ask aI ar g'];rfl
 have Ah:=FJ aI p ar g';have lV:∀ v ∈ g7 E p,n7 E.n E.L v:=λv aw=>by obtain ⟨q,aM⟩:=hn.1 aw;exact (R4 aI aM).1
 have pX:=Xq (n:=E.n) (L:=E.L) b0 ak.live (Ws h.kT b0 aM) bq.fE aq (by omega) hS Ah (am4 aI p) h.rep.len aj.2 h.lines lV;have fO:=X5 h.kT b0 ak aM (vs:=g7 E p) λv aw=>by have:=(lV v aw).node;omega
 have aJ:=h.kT.eW t;unfold Dm;rw [pX] at aJ ⊢;refine ⟨⟨p,mn⟩,h.aeU oa b0 aJ fO.base (λ_=>⟨fO.vG,λ_ k l y J az i _ he=>?_⟩) (λe=>absurd e (by show ¬ 5<=p;omega)) b3 (λq d e=>by cases e) (by show p≠8;omega),⟨bq.fE,bq.cH,bq.bad,λ_=>⟨rfl,J,g',au⟩,λe=>by have:p=6:=e;omega,λe=>by have:p=7:=e;omega,λe=>by have:p=8:=e;omega,by show p<=8/\p≠5;omega⟩,?_,λk J=>AN J,.inr (.inr ⟨ar,_,Cv b0,fO.busy Ah⟩),λe=>by omega⟩
 ·rw [(fO.zero k l J).1] at he;omega
 ·have bY:gR (l3 F 0 (({ C with batch:=none }:cT).sI (g7 E p))) 0=cost (g7 E p):=by unfold gR;rw [Cv b0];exact fO.oX
  show gR (l3 F 0 _) 0+AE p<=_;rw [bY];omega
theorem aan (aI:di E) (oa:0 ∉ rs) (h:ln E rs F A g gr) {t:ir} (bq:zB E A g t) (b0:F.bl[0]?=some C) (ak:rG E.n C) (aM:mO C) (aq:t.ix=false) (jm:(iT t C).length<=200) (cj:g.aQ≠6/\g.aQ≠7) (ar:p=6\/p=7) {o:Int×Int} (hS:g1 (E.bG 0) (iT t C)=([],o,true)) (e8:p=6->o=(0,3)/\zq E A) (i':p=7->∃ f,o=(5,f)/\(f=1->ku E A)/\(f=3->nD E A)/\∃ m,m<E.n/\A.fA m=true):Dm E rs F A g gr t:=by
 have aj:=aI.e.n;have hS:mA.conv.next t.cH (iT t C)=([],.inl o,true):=by rw [bq.cH];show ((g1 (E.bG 0) (iT t C)).1,Sum.inl (g1 (E.bG 0) (iT t C)).2.1,(g1 (E.bG 0) (iT t C)).2.2)=_;rw [hS];rfl
 have pX:=Xr b0 ak.live (Ws h.kT b0 aM) bq.fE aq jm hS;have aJ:=h.kT.eW t;unfold Dm;rw [pX] at aJ ⊢;have b3:iC E A ⟨p,mn⟩:=by
  unfold iC;rcases ar with e | e
  ·subst e;exact (e8 rfl).2
  ·subst e;trivial
 refine ⟨⟨p,mn⟩,h.aeU oa b0 aJ ⟨ak.inc,ak.live,ak.aU,ak.x_⟩ (λe=>absurd e (by show ¬ p<=4;clear e8 i';omega)) (λ_=>⟨rfl,aM⟩) b3 (λq d e=>by cases e) (by show p≠8;clear e8 i';omega),⟨bq.fE,bq.cH,bq.bad,λe=>by have:p<=4:=e;clear e8 i';omega,λe=>⟨rfl,by show Sum.inl o=_;rw [(e8 e).1]⟩,λe=>?_,λe=>by have:p=8:=e;clear e8 i';omega,by show p<=8/\p≠5;clear e8 i';omega⟩,?_,λk J=>AN J,ar.imp id .inl,λe=>by clear e8 i';omega⟩
 ·obtain ⟨f,a,b⟩:=i' e;exact ⟨rfl,f,congrArg Sum.inl a,b⟩
 ·have bY:gR (l3 F 0 ({ C with batch:=none }:cT)) 0=0:=by unfold gR;rw [Cv b0];exact LD aM
  have bg:AE p=0:=by rcases ar with e | e<;>subst e<;>rfl
  show gR (l3 F 0 _) 0+AE p<=_;rw [bY,bg];omega
theorem aon (aI:di E) (oa:0 ∉ rs) (h:ln E rs F A g gr) {t:ir} (bq:zB E A g t):Dm E rs F A g gr t:=by
 have aj:=aI.e.n;obtain ⟨C,b0,ak,fL,g5⟩:=h.d9;obtain ⟨awM,awJ⟩:=bq.aQ;by_cases aa3:g.aQ=6\/g.aQ=7
 ·have aq:t.ix=true:=by
   rcases aa3 with e | e
   ·exact (bq.fin e).1
   ·exact (bq.ref e).1
  have pX:eW F t=(F,t):=by unfold eW;rw [if_pos (.inl aq)]
  unfold Dm;rw [pX];exact ⟨g,h,bq,eJ _,λ_ _=>rfl,aa3.imp id .inl,λ_=>⟨rfl,rfl⟩⟩
 by_cases rZ:g.aQ=8
 ·obtain ⟨u4,j8⟩:=bq.new rZ;obtain ⟨iU,lG⟩:=g5 (by omega);have lV:iT t C=[]:=by unfold iT;rw [iU];exact j8
  obtain ⟨a,b,d⟩:=h.P5 rZ;refine F' aI oa h bq b0 ak lG u4 (by omega) (p:=0) (by omega) (by omega) (by rw [lV];exact auN) (by rw [lV];exact eJ _) ⟨a,b,d,λm _ d e=>by cases e⟩ ?_;rw [rZ,<-Yf aI];have:=ajQ aI.e aI.cH;show cost (zb (E.bG 0))+106<=700;omega
 have ca:g.aQ<=4:=by omega
 obtain ⟨r1,ko,nZ,sJ⟩:=bq.run ca;obtain ⟨fb,_⟩:=fL ca;by_cases aM:mO C
 ·obtain ⟨ds,d1,d2,d3,d4⟩:=fb.all aM;have lV:iT t C=t.bD++[ds]:=by unfold iT;rw [d1]
  have wc:=h.Lw;have b3:=h.EO;have z3:∀ {q:Nat} {v:bn},(g7 E g.aQ)[q]?=some v->∃ d,g.cf q=some d/\ds[q]?=some d:=λ{q v} aw=>by obtain ⟨d,aC⟩:=d4 q (dy aw);exact ⟨d,aC,d3 q d aC⟩
  have fH:Be (g7 E g.aQ) ds:=⟨d2,λq v d aw aC=>by obtain ⟨gA,bs,bI⟩:=z3 aw;rw [aC] at bI;cases bI;obtain ⟨bX,dd,ic⟩:=wc q d bs;rw [aw] at dd;cases dd;exact ic.imp id λx=>⟨x.1,x.2.1⟩⟩
  have hlen:(iT t C).length<=g.aQ+1:=by rw [lV,gp,Ii];omega
  rcases fH.cases with gv | ⟨c9,d5,OD,mH⟩
  ·have aE:∀ {q:Nat} {v:bn},(g7 E g.aQ)[q]?=some v->∃ d,g.cf q=some d/\ds[q]?=some d/\d.code=0:=λ{q v} aw=>by obtain ⟨d,bs,bI⟩:=z3 aw;exact ⟨d,bs,bI,(gv.each q v d aw bI).1⟩
   obtain e | e | e | e | e:g.aQ=0\/g.aQ=1\/g.aQ=2\/g.aQ=3\/g.aQ=4:=by omega
   ·unfold iC at b3;rw [e] at b3 ko gv aE hlen;obtain ⟨dr,c2,eA,hE⟩:=b3;refine F' aI oa h bq b0 ak aM r1 (by omega) (p:=1) (by omega) (by omega) (by rw [lV];exact ko.next aI (by omega) (by omega) gv (by omega)) hlen ⟨λm hm=>?_,dr,λq p ar=>⟨λ_=>eA 0 (by omega) p (dn ar),λd e=>by cases e⟩⟩ ?_
    ·obtain ⟨d,bs,_,dd⟩:=aE (q:=m) (v:=dV m 56 (lK E)) (by simp [g7,rM hm]);exact hE m hm d bs dd
    ·rw [e,<-QV aI];have:=ajS aI.e aI.cH;show cost (f9 (E.bG 0))+70<=106;omega
   ·unfold iC at b3;rw [e] at b3 ko gv aE hlen;obtain ⟨dr,c2,eA⟩:=b3;have ez:∀ {q:Nat} {p:a6},(cA E)[q]?=some p->∃ d,g.cf q=some d/\ds[q]?=some d/\d.code=0:=λ{q p} ar=>aE (q:=q) (v:=kc 0 (p.b5 * 8) p.Head (ii p.Head 0)) (by simp only [g7];rw [gV,ar];rfl)
    have ed:Nh E ds:=λq p d ar aC=>by obtain ⟨gA,bs,bI,dd⟩:=ez ar;rw [aC] at bI;cases bI;exact ((eA q p ar).2 d bs dd).1
    refine F' aI oa h bq b0 ak aM r1 (by omega) (p:=2) (by omega) (by omega) (by rw [lV];exact ko.next aI (by omega) (by omega) gv (λ_=>ed)) hlen ⟨dr,λ_=>?_,λm _ d e=>by cases e⟩ ?_
    ·by_cases aC:pD E A
     ·exact .inr aC
     ·refine .inl λp ar=>?_
      obtain ⟨q,aM⟩:=hn.1 ar;obtain ⟨gA,bs,bI,dd⟩:=ez aM;rcases ((eA q p aM).2 gA bs dd).2 with g | g
      ·exact g
      ·exact absurd g aC
    ·rw [e,<-Yg aI];have:=ajR aI.e aI.cH;show cost (zc (E.bG 0))+65<=70;omega
   ·unfold iC at b3;rw [e] at b3 ko gv aE hlen;obtain ⟨dr,c2,eA⟩:=b3;have abK:nD E A:=λm hm=>by obtain ⟨d,bs,_,dd⟩:=aE (q:=m) (v:=dV m 48 [n3 E]) (by simp [g7,rM hm]);exact eA m hm d bs dd
    have J:=ko.next aI (by omega) (by omega) gv (by omega);rw [<-lV] at J;by_cases af:E.n=1
    ·refine F' aI oa h bq b0 ak aM r1 (by omega) (p:=4) (by omega) (by omega) (J.skip aI af) (by omega) ⟨abK,λm _ _=>by omega,λq v d _ e=>by cases e⟩ ?_;rw [e,<-RH aI];have:=Yj aI.e aI.cH;show cost (nJ (E.bG 0))+0<=65;omega
    ·refine F' aI oa h bq b0 ak aM r1 (by omega) (p:=3) (by omega) (λ_=>by omega) J hlen ⟨abK,λq v d _ e=>by cases e⟩ ?_;rw [e,<-Yh aI];have:=ajT aI.e aI.cH;show cost (C6 (E.bG 0))+13<=65;omega
   ·unfold iC at b3;rw [e] at b3 ko gv aE hlen nZ;obtain ⟨dr,c2⟩:=b3;refine F' aI oa h bq b0 ak aM r1 (by omega) (p:=4) (by omega) (by omega) (by rw [lV];exact ko.next aI (by omega) (λ_=>nZ rfl) gv (by omega)) hlen ⟨dr,λm af al=>?_,λq v d _ e=>by cases e⟩ ?_
    ·obtain ⟨q,aM⟩:=aam (l:=cA E) af al;obtain ⟨d,bs,_,dd⟩:=aE (q:=q) aM;exact (c2 q _ d aM bs dd).2 m rfl
    ·rw [e,<-RH aI];have:=Yj aI.e aI.cH;show cost (nJ (E.bG 0))+0<=13;omega
   ·unfold iC at b3;rw [e] at b3 ko gv aE hlen;obtain ⟨dr,c2,eA⟩:=b3;have J:=ko.next aI (by omega) (by omega) gv (by omega);rw [<-lV] at J;refine aan aI oa h bq b0 ak aM r1 (by omega) (by omega) (p:=6) (.inl rfl) (J.done aI) (λ_=>⟨rfl,dr,?_,λp ar=>?_⟩) (by omega)
    ·obtain ⟨d,bs,_,dd⟩:=aE (q:=0) (v:=dV 0 32 [fl E]) rfl;exact (eA 0 _ d rfl bs dd).2 0 rfl
    ·obtain ⟨k,J⟩:=hn.1 ar;have v_:(kn E (cA E))[k+1]?=some (jO 0 p):=by unfold kn;rw [zg,gV,J];rfl
     obtain ⟨d,bs,_,dd⟩:=aE (q:=k+1) v_;exact (eA _ _ d v_ bs dd).1 0 p ar rfl
  ·have gn:∃ m,m<E.n/\A.fA m=true:=by
    obtain ⟨q,v_⟩:=hn.1 OD;have aK:q<(g7 E g.aQ).length:=by rw [<-d2];exact dy v_
    obtain ⟨gA,bs,bI⟩:=z3 (cp aK);rw [v_] at bI;cases bI;obtain ⟨v,dd,ic⟩:=wc q d5 bs;rcases ic with ic | ⟨_,_,ic⟩
    ·omega
    ·have:=(R4 aI dd).1.node;exact ⟨_,by omega,ic⟩
   refine aan aI oa h bq b0 ak aM r1 (by omega) (by omega) (p:=7) (.inr rfl) (by rw [lV];exact ko.ref aI ca nZ fH c9) (by omega) λ_=>⟨_,rfl,λzL=>?_,λzL=>?_,gn⟩
   ·unfold iC at b3;obtain e | e | e | e | e:g.aQ=0\/g.aQ=1\/g.aQ=2\/g.aQ=3\/g.aQ=4:=by omega
    ·rw [e] at b3;exact b3.1
    ·rw [e] at b3;exact b3.2.1
    all_goals
     rw [e] at zL;cases zL
   ·unfold iC at b3;obtain e | e | e | e | e:g.aQ=0\/g.aQ=1\/g.aQ=2\/g.aQ=3\/g.aQ=4:=by omega
    ·rw [e] at zL;cases zL
    ·rw [e] at zL;cases zL
    ·rw [e] at zL;cases zL
    ·rw [e] at b3;exact b3.1
    ·rw [e] at b3;exact b3.1
 ·have pX:eW F t=(F,t):=Xx (by rw [bq.fE];exact X4 h.kT b0 aM);unfold Dm;rw [pX];exact ⟨g,h,bq,eJ _,λ_ _=>rfl,.inr (.inr ⟨ca,C,b0,aM⟩),λe=>by omega⟩
structure vy (E:Env) (c:Nat) (g:fa) (t:ir):Prop where
 fE:t.bw=(c:Int)
 cH:t.cH=.inr (dU E c)
 bad:t.bad=false
 run:g.aQ<=9->t.ix=false/\Kp E c t.bD (hG E c g)/\eH E c g≠[]/\t.bD.length<=w8 g.aQ
 fin:g.aQ=10->t.ix=true/\t.out=.inr ⟨0,g.fh.1,g.fh.2,qt E.L g.et g.bj,0⟩/\t.bD.length<=9
 busy:g.aQ=11->t.ix=true/\∃ w,t.out=.inr ⟨3,0,0,0,w⟩
 new:g.aQ=12->t.ix=false/\t.bD=[]
theorem vy.aO {vb:fa} {t:ir} (h:vy E c s t) (ak:vb.bare=s.bare):vy E c vb t:=by
 have bY:=RL ak;have bg:hG E c vb=hG E c s:=by
  have:hG E c vb.bare=hG E c s.bare:=by rw [ak]
  exact this
 have dF:eH E c vb=eH E c s:=by
  have:eH E c vb.bare=eH E c s.bare:=by rw [ak]
  exact this
 have kB:vb.fh=s.fh:=by
  have:vb.bare.fh=s.bare.fh:=by rw [ak]
  exact this
 have l_:vb.et=s.et:=by
  have:vb.bare.et=s.bare.et:=by rw [ak]
  exact this
 have pK:vb.bj=s.bj:=by
  have:vb.bare.bj=s.bare.bj:=by rw [ak]
  exact this
 exact ⟨h.fE,h.cH,h.bad,by rw [bY,bg,dF];exact h.run,by rw [bY,kB,l_,pK];exact h.fin,by rw [bY];exact h.busy,by rw [bY];exact h.new⟩
theorem ln.aeV (h:ln E rs F A g gr) (gS:∀ c ∈ rs,1<=c/\c<6) (ab:c ∈ rs) (b0:F.bl[c]?=some C) (aJ:dK (l3 F c C')) (ak:rG E.n C') (h4:s.aQ<=9->lk C' (eH E c s) s.cf/\(s.aQ=3->Dh C' F.nodes)) (zP:10<=s.aQ->C'.batch=none/\mO C') (b3:ef E rs A F.nodes (nt gr c s) c) (kW:um E s) (wc:vu E c s) (DN:s.aQ<=11) (hw:lo (gr c)->lo s) (BQ:nW (gr c)->nW s):ln E rs (l3 F c C') A g (nt gr c s):=by
 have q6:=gS c ab;refine ⟨aJ,h.lines,h.nk,by simpa [l3] using h.Gn,h.rep,h.law,u6 h.LC rfl BQ,?_,h.EO,h.Lw,h.P5,λk J=>?_,λk J=>?_,h.Lg,λed=>(by have:=ed c ab;rw [h'] at this;omega),λk qV af al aL=>h.rest k qV af al (by rw [<-AN (λe=>al (by rw [e];exact ab))];exact aL)⟩
 ·obtain ⟨Iw,bs,bI⟩:=h.d9;exact ⟨Iw,by rw [AN (by omega)];exact bs,bI⟩
 ·by_cases e:k=c
  ·subst e;rw [h'];exact ⟨C',Cv b0,ak,h4,zP⟩
  ·rw [rm e,AN e];exact h.EY k J
 ·by_cases e:k=c
  ·subst e;rw [h'];exact ⟨b3,kW,wc,by omega⟩
  ·obtain ⟨iU,lG,p3,At⟩:=h.wI k J;rw [rm e];exact ⟨iU.stay (rm e) (MB hw),lG,p3,At⟩
def I6 (E:Env) (rs:eI) (F:a9) (A:cd) (g:kt) (gr:Nat->fa) (c:Nat) (t:ir):Prop:=
 ∃ s,ln E rs (eW F t).1 A g (nt gr c s)/\vy E c s (eW F t).2/\gR (eW F t).1 c+lI s.aQ<=gR F c+lI (gr c).aQ/\(∀ k,k≠c->(eW F t).1.bl[k]?=F.bl[k]?)/\(s.aQ=10\/s.aQ=11\/s.aQ<=9/\∃ C,(eW F t).1.bl[c]?=some C/\¬ mO C)/\((gr c).aQ=10\/(gr c).aQ=11->eW F t=(F,t)/\s=gr c)
theorem Zp (gr:Nat->fa) (c:Nat):nt gr c (gr c)=gr:=by funext k;unfold nt;split<;>simp_all
theorem anZ (aI:di E) {cm:List bt} (h:ef E rs A cm gr c) (h4:(gr c).aQ<=9):∀ v ∈ eH E c (gr c),n7 E.n E.L v:=by
 have aj:=aI.e.n;have bE:=aI.e.L;have BW:=aI.wA;have tg:1<=E.L/\E.L<=256:=by omega
 unfold ef at h;intro v aw;unfold eH at aw;split at aw
 ·obtain ⟨m,hm,rfl⟩:=eQ.1 aw;exact y2 aj.2 (jT.1 hm) tg (by omega) (by omega) (by omega) (.inr (by omega))
 ·rename_i e;rw [e] at h;obtain ⟨m,hm,rfl⟩:=eQ.1 aw;exact AJ aj.2 (h.2.1 m hm) tg (by omega) (by omega)
 ·simp only [lT,zj] at aw;subst aw;exact AJ aj.2 (by omega) tg (by omega) (by omega)
 ·obtain ⟨q,aM⟩:=hn.1 aw;rcases Sk aM with ⟨m,hm,⟨_,rfl⟩ | ⟨_,rfl⟩⟩ | ⟨_,rfl⟩
  ·exact y2 aj.2 hm tg (by omega) (by omega) (by omega) (.inr (by omega))
  ·exact y2 aj.2 hm tg (by omega) (by omega) (by omega) (.inl (by omega))
  ·exact y2 aj.2 (by omega) tg (by omega) (by omega) (by omega) (.inl (by omega))
 ·rename_i e;rw [e] at h;have ak:=aI.ux;obtain ⟨q,aM⟩:=hn.1 aw;obtain ⟨k,m,hm,JS⟩:=aar aM;have uO:=h.2.2.2.2.2.1 m (dn hm);rcases JS with ⟨_,rfl⟩ | ⟨_,rfl⟩ | ⟨_,rfl,_⟩
  ·exact zd aj.2 uO (by omega) (by omega) (by simp) (by simp) (by simp;omega)
  ·exact zd aj.2 uO (by omega) (by omega) (by omega) (by omega) (by rw [ak.1];omega)
  ·exact zd aj.2 uO (by omega) (by omega) (by simp) (by simp) (by simp;omega)
 ·obtain ⟨p,ar,rfl⟩:=eQ.1 aw;have hl:=aI.pl ar;exact y2 aj.2 (by omega) tg (by omega) (by omega) (by omega) (.inl (by omega))
 ·rename_i e;rw [e] at h;obtain ⟨q,aM⟩:=hn.1 aw;obtain ⟨m,hm,_,⟨p,ar,rfl⟩ | ⟨rfl,_⟩⟩:=Ni aM
  ·exact FL aI hm (h.2.2.1.1 p ar)
  ·exact FM aI hm
 ·rename_i e;rw [e] at h;obtain ⟨q,aM⟩:=hn.1 aw;obtain ⟨_,⟨_,rfl⟩ | ⟨_,p,ar,rfl⟩⟩:=Nj aM
  ·exact FM aI (by omega)
  ·exact FL aI (by omega) (h.2.2.2.1.1 p ar)
 ·rename_i e;rw [e] at h;obtain ⟨p,ar,rfl⟩:=eQ.1 aw;have:=h.2.2.2.2.1 p ar;exact AJ aj.2 (by omega) tg (by omega) (by omega)
 ·simp only [lq,zj] at aw;subst aw;exact AJ aj.2 (by omega) tg (by omega) (by omega)
 ·cases aw
theorem aao (aI:di E) (gS:∀ c ∈ rs,1<=c/\c<6) (h:ln E rs F A g gr) (ab:c ∈ rs) {t:ir} (bq:vy E c (gr c) t) (b0:F.bl[c]?=some C) (ak:rG E.n C) (aM:mO C) (aq:t.ix=false) (cj:(gr c).aQ≠10/\(gr c).aQ≠11) (jm:(iT t C).length<=w8 s.aQ) (fB:pC E rs A F.nodes gr c (iT t C) s):I6 E rs F A g gr c t:=by
 have aj:=aI.e.n;have hw:=Ws h.kT b0 aM;have sn:∀ {vs:List bn} {o:f7} {b:Bool},jK (dU E c) (iT t C)=(vs,o,b)->mA.conv.next t.cH (iT t C)=(vs,.inr o,b):=λ{vs o b} hS=>by rw [bq.cH];show ((jK (dU E c) (iT t C)).1,Sum.inr (jK (dU E c) (iT t C)).2.1,(jK (dU E c) (iT t C)).2.2)=_;rw [hS];rfl
 have adi:vu E c s:=λq d e=>by rw [fB.cf] at e;cases e
 have aJ:=h.kT.eW t;have abh:∀ k,k<=11->w8 k<=200:=λk J=>by unfold w8;split<;>omega
 unfold I6;rcases fB.go with ⟨bs,bI,dd,ic,vM,SW⟩ | ⟨bs,bI⟩ | ⟨bs,w,bI⟩
 ·have lV:=anZ (gr:=nt gr c s) aI fB.ok (by rw [h'];exact bs);rw [h'] at lV;have pX:=Xq (n:=E.n) (L:=E.L) b0 ak.live hw bq.fE aq (ud jm (abh _ (by omega))) (sn bI) ic SW h.rep.len aj.2 h.lines lV;have fO:=X5 h.kT b0 ak aM (vs:=eH E c s) λv aw=>by have:=(lV v aw).node;omega
  rw [pX] at aJ ⊢;refine ⟨s,h.aeV gS ab b0 aJ fO.base (λ_=>⟨by rw [fB.cf];exact fO.vG,λ_ k l y J az a n w6 _=>?_⟩) (λe=>by omega) fB.ok fB.Qj adi (by omega) fB.LL fB.holds,⟨bq.fE,bq.cH,bq.bad,λ_=>⟨rfl,dd,ic,jm⟩,λe=>by omega,λe=>by omega,λe=>by omega⟩,?_,λk J=>AN J,.inr (.inr ⟨bs,_,Cv b0,fO.busy ic⟩),λe=>by omega⟩
  ·obtain ⟨e',dq⟩:=fO.zero k l J;rw [e',dq];simp
  ·have bY:gR (l3 F c (({ C with batch:=none }:cT).sI (eH E c s))) c=cost (eH E c s):=by unfold gR;rw [Cv b0];exact fO.oX
   show gR (l3 F c _) c+lI s.aQ<=_;rw [bY];omega
 all_goals
  have pX:=Xr b0 ak.live hw bq.fE aq (ud jm (abh _ (by omega))) (sn bI);rw [pX] at aJ ⊢;have bY:gR (l3 F c ({ C with batch:=none }:cT)) c=0:=by unfold gR;rw [Cv b0];exact LD aM
  have bg:lI s.aQ=0:=by rw [bs];rfl
  refine ⟨s,h.aeV gS ab b0 aJ ⟨ak.inc,ak.live,ak.aU,ak.x_⟩ (λe=>by omega) (λ_=>⟨rfl,aM⟩) fB.ok fB.Qj adi (by omega) fB.LL fB.holds,⟨bq.fE,bq.cH,bq.bad,λe=>by omega,λe=>?_,λe=>?_,λe=>by omega⟩,?_,λk J=>AN J,?_,λe=>by omega⟩
 ·refine ⟨rfl,rfl,?_⟩;rw [bs] at jm;exact jm
 ·omega
 ·show gR (l3 F c _) c+lI s.aQ<=_;rw [bY,bg];omega
 ·exact .inl bs
 ·omega
 ·exact ⟨rfl,w,rfl⟩
 ·show gR (l3 F c _) c+lI s.aQ<=_;rw [bY,bg];omega
 ·exact .inr (.inl bs)
theorem an0 (aI:di E) (gS:∀ c ∈ rs,1<=c/\c<6) (h:ln E rs F A g gr) (ab:c ∈ rs) {t:ir} (bq:vy E c (gr c) t):I6 E rs F A g gr c t:=by
 have aj:=aI.e.n;have Ox:=gS c ab;obtain ⟨C,b0,ak,fL,g5⟩:=h.EY c ab;obtain ⟨mo,mq,ru,tK⟩:=h.wI c ab;by_cases aa2:(gr c).aQ=10\/(gr c).aQ=11
 ·have aq:t.ix=true:=by
   rcases aa2 with e | e
   ·exact (bq.fin e).1
   ·exact (bq.busy e).1
  have pX:eW F t=(F,t):=by unfold eW;rw [if_pos (.inl aq)]
  unfold I6;rw [pX];exact ⟨gr c,by rw [Zp];exact h,bq,eJ _,λ_ _=>rfl,aa2.imp id .inl,λ_=>⟨rfl,rfl⟩⟩
 by_cases vK:(gr c).aQ=12
 ·obtain ⟨u4,j8⟩:=bq.new vK;obtain ⟨iU,lG⟩:=g5 (by omega);have lV:iT t C=[]:=by unfold iT;rw [iU];exact j8
  refine aao aI gS h ab bq b0 ak lG u4 (by omega) (s:=ye 0) (by rw [lV];exact Md _) ?_;rw [lV];exact anF aI Ox vK
 have h4:(gr c).aQ<=9:=by omega
 obtain ⟨r1,ko,nZ,sJ⟩:=bq.run h4;obtain ⟨fb,_⟩:=fL h4;by_cases aM:mO C
 ·obtain ⟨ds,d1,d2,d3,d4⟩:=fb.all aM;have lV:iT t C=t.bD++[ds]:=by unfold iT;rw [d1]
  have qx:rQ E c (gr c) ds:=by refine ⟨⟨d2,λq v d aw aC=>?_⟩,d3,d4⟩;obtain ⟨gA,bs⟩:=d4 q (dy aw);have bI:=d3 q gA bs;rw [aC] at bI;cases bI;obtain ⟨bX,dd,ic⟩:=ru q d bs;rw [aw] at dd;cases dd;exact ic
  obtain ⟨s,aX⟩:=ax2 aI Ox h.rep h.law h.Lg h4 nZ mq ru ko mo qx;have rk:w8 (gr c).aQ<w8 s.aQ:=aX.up.resolve_left vK;refine aao aI gS h ab bq b0 ak aM r1 (by omega) (s:=s) ?_ (by rw [lV];exact aX);rw [lV,gp,Ii];omega
 ·have pX:eW F t=(F,t):=Xx (by rw [bq.fE];exact X4 h.kT b0 aM);unfold I6;rw [pX];exact ⟨gr c,by rw [Zp];exact h,bq,eJ _,λ_ _=>rfl,.inr (.inr ⟨h4,C,b0,aM⟩),λe=>by omega⟩
end
end
section
open iH
theorem IF {f g:Nat->Nat}:∀ {l:eI},(∀ k ∈ l,f k<=g k)->(l.map f).sum<=(l.map g).sum
 | [],_=>by simp
 |a::l,h=>by
  have:=IF λk J=>h k (jz _ J)
  have:=h a iA;simp only [kQ,qR];omega
theorem Z4 {f g:Nat->Nat}:∀ {l:eI},(∀ k ∈ l,f k<=g k)->∀ {i:Nat},i ∈ l->f i<g i->(l.map f).sum<(l.map g).sum
 | [],_,_,aD,_=>by cases aD
 |a::l,h,i,aD,au=>by
  have af:=IF λk J=>h k (jz _ J)
  have al:=h a iA;simp only [kQ,qR];rcases iF.1 aD with e | e
  ·subst e;omega
  ·have:=Z4 (λk J=>h k (jz _ J)) e au;omega
end
end Go.Proofs.YtmkljjbioomepaaGreat
