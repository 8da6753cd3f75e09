import Derived.Test.YtmkljjbioomepaaGreatb39
import Derived.Test.YtmkljjbioomepaaGreatb36
set_option linter.all false
namespace Go.Proofs.YtmkljjbioomepaaGreat
open Go.Proofs.Tryz Go.bu
variable {C C':bU} {F:aN} {c i p:Nat} {bV:f_} {s:c5}
section
open e7
theorem Cq:∀ (vs:List aW) {C:bU} {k m:Nat} {l:cS},(C.gO k vs).aD[m]?=some l->∃ cY,C.aD[m]?=some cY/\l.pair.words=cY.pair.words/\l.pair.bF=cY.pair.bF
 | [],C,k,m,l,h=>⟨l,h,rfl,rfl⟩
 |v::vs,C,k,m,l,h=>by
  obtain ⟨dd,a,c,d⟩:=Cq vs (C:=C.gu k v) (k:=k+1) h;unfold bU.gu at a;simp only [te] at a;cases b:C.aD[m]? with
  |none=>rw [b] at a;simp at a
  |some cY=>
   rw [b] at a;refine ⟨cY,rfl,c.trans ?_,d.trans ?_⟩;all_goals
    by_cases e:v.node.toNat=m
    ·simp [e] at a;subst a;rfl
    ·simp [e] at a;subst a;rfl
structure Oc (n:Nat) (C':bU) (vs:List aW):Prop where
 base:kf n C'
 me:gC C' vs ha
 zero:∀ (k:Nat) (l:cS),C'.aD[k]?=some l->l.pair.bF=0/\l.pair.words=[]
 iH:iH C'=cost vs
 busy:vs≠[]->¬ hr C'
section
variable {F:aN} {i n:Nat} {C:bU}
theorem JQ (e:cp F) (d:F.aV[i]?=some C) (f:hr C) (k:Nat) (l:cS) (b:C.aD[k]?=some l):l.pair.ba=[]/\l.bR=[]/\l.pair.bF=0/\l.pair.words=[]:=by have al:=f k l b;have c:=((e.cf.ok.a1 i C d).lane k l b).bR;rw [al] at c;have a:=e.cf.dm C (b7 d) l (b7 b);exact ⟨al,nZ.1 c,a.idle al,a.zero (a.idle al)⟩
theorem AS (c:cp F) (b:F.aV[i]?=some C) (e:hr C):C.waiting=0:=by
 rw [(c.cf.ok.a1 i C b).waiting];unfold g2;have:∀ ls:List cS,(∀ l ∈ ls,l.pair.ba=[])->(ls.map λl=>l.pair.ba.length).sum=0:=λls=>by
  induction ls with
  |nil=>intro _;rfl
  |cons l ls g=>intro a;rw [f9,jR,g λx f=>a x (fu _ f),a l e2];rfl
 exact this C.aD λl a=>by obtain ⟨k,d⟩:=eh.1 a;exact e k l d
theorem Cr (b:cp F) (a:F.aV[i]?=some C) (d:¬ hr C):0<F.waiting (i:Int):=by
 unfold aN.waiting;rw [jK,a];show 0<C.waiting;rw [(b.cf.ok.a1 i C a).waiting];rcases yn (g2 C.aD) with e | e
 ·exact absurd (λk l c=>AU e l (b7 c)) d
 ·exact e
theorem Cs (x:cp F) (w:F.aV[i]?=some C) (f:kf n C) (r:hr C) {vs:List aW} (p:∀ v ∈ vs,v.node.toNat<n):Oc n (({ C with batch:=none }:bU).kD vs) vs:=by
 have c:=JQ x w r;have b:∀ v ∈ vs,v.node.toNat<({ C with batch:=none }:bU).aD.length:=λv al=>by show _<C.aD.length;rw [f.aD];exact p v al
 have d:gC (({ C with batch:=none }:bU).kD vs) vs ha:=gC.post f.live (λk l a=>⟨(c k l a).1,(c k l a).2.1⟩) b;obtain ⟨h,g⟩:=Bu vs ({ C with batch:=none }:bU) 0;have au:∀ (k:Nat) (l:cS),(({ C with batch:=none }:bU).kD vs).aD[k]?=some l->l.pair.bF=0/\l.pair.words=[]:=λk l a=>by obtain ⟨cY,q,t,u⟩:=Cq vs (C:=({ C with batch:=none }:bU)) (k:=0) (l:=l) a;rw [t,u];exact ⟨(c k cY q).2.2.1,(c k cY q).2.2.2⟩
 refine ⟨⟨g.trans f.inc,d.live,h.trans f.aD,λk l a v eX _ _=>(au k l a).2⟩,d,au,?_,λj o=>?_⟩
 ·have:=Fd vs (C:=({ C with batch:=none }:bU)) (k:=0) (λm l a=>(c m l a).2.2.1) b;have s:iH ({ C with batch:=none }:bU)=0:=uZ r;rw [s,g6] at this;exact this
 ·obtain ⟨v,eX,e⟩:=rm j;obtain ⟨k,l,a,hm⟩:=d.left 0 (by rw [e];simp) rfl;have:=(d.lane k l a).len;rw [o k l a] at this;rw [nZ.1 this] at hm;cases hm
end
theorem pH (h:F.aV[i]?=some C):(g3 F i C').aV[i]?=some C':=jy (cb h)
theorem oS {k:Nat} (h:k≠i):(g3 F i C').aV[k]?=F.aV[k]?:=hW (λe=>h e.symm)
abbrev e4:=b_ hh.conv
structure og (E:Env) (A:bt) (g:f_) (t:e4):Prop where
 dm:t.a1=((0:Nat):Int)
 bM:t.bM=.inl (E.a6 0)
 bad:t.bad=false
 run:g.aB<=4->t.e0=false/\jU E g.aB t.a4/\(g.aB=3->1<E.n)/\t.a4.length<=g.aB
 fin:g.aB=6->t.e0=true/\t.out=.inl (0,3)
 ref:g.aB=7->t.e0=true/\∃ f,t.out=.inl (5,f)/\(f=1->f' E A)/\(f=3->hX E A)/\∃ m,m<E.n/\A.dj m=true
 new:g.aB=8->t.e0=false/\t.a4=[]
 aB:g.aB<=8/\g.aB≠5
theorem og.az {E:Env} {A A':bt} {g:f_} {t:e4} (h:og E A g t) (i:bV.aB=g.aB) (j:5<=g.aB->oe E A A'):og E A' bV t:=by refine ⟨h.dm,h.bM,h.bad,by rw [i];exact h.run,by rw [i];exact h.fin,λe=>?_,by rw [i];exact h.new,by rw [i];exact h.aB⟩;rw [i] at e;obtain ⟨a,f,b,c,d,m,k,l⟩:=h.ref e;have j:=j (by omega);exact ⟨a,f,b,λe=>j.qW (c e),λe=>j.mono.am (d e),m,k,j.mono.dj m l⟩
section
variable {E:Env} {rs:cP} {F:aN} {A:bt} {g:f_} {gr:Nat->c5}
theorem gD.Gf (h:gD E rs F A g gr) (a:0 ∉ rs) (o:F.aV[0]?=some C) (q:cp (g3 F 0 C')) (p:kf E.n C') (k:bV.aB<=4->gC C' (d' E bV.aB) bV.bw/\(bV.aB=0->o6 E C' F.nodes)) (l:5<=bV.aB->C'.batch=none/\hr C') (s:e3 E A bV) (t:m9 E A bV) (r:bV.aB≠8):gD E rs (g3 F 0 C') A bV gr:=
 ⟨q,h.lines,h.hL,by simpa [g3] using h.r_,h.rep,h.law,h.uX,⟨C',pH o,p,k,l⟩,s,t,λe=>absurd e r,λc d=>by rw [oS (λe=>a (by rw [<-e];exact d))];exact h.q3 c d,h.my,h.uD,h.op,λc f b i j=>h.rest c f b i (by rw [<-oS b];exact j)⟩
def qw (E:Env) (rs:cP) (F:aN) (A:bt) (g:f_) (gr:Nat->c5) (t:e4):Prop:=
 ∃ bV,gD E rs (cZ F t).1 A bV gr/\og E A bV (cZ F t).2/\dU (cZ F t).1 0+oJ bV.aB<=dU F 0+oJ g.aB/\(∀ k,k≠0->(cZ F t).1.aV[k]?=F.aV[k]?)/\(bV.aB=6\/bV.aB=7\/bV.aB<=4/\∃ C,(cZ F t).1.aV[0]?=some C/\¬ hr C)/\(g.aB=6\/g.aB=7->cZ F t=(F,t)/\bV=g)
theorem N0 (ay:b8 E) (p:Nat):(d' E p).length<=1024:=by
 have b:=ay.e.n;have a:=ay.lH;unfold d';split
 ·simp;omega
 ·simp;omega
 ·simp;omega
 ·exact (DO b.2 a.2).2
 ·exact (DN (E:=E) a.2).2
theorem r0 (ay:b8 E) (u:0 ∉ rs) (h:gD E rs F A g gr) {t:e4} (o:og E A g t) (c:F.aV[0]?=some C) (D:kf E.n C) (s:hr C) (N:t.e0=false) (M:g.aB≠6/\g.aB≠7) (z:p<=4) (b:p=3->1<E.n) (f:jU E p (fb t C)) (J:(fb t C).length<=p) (x:e3 E A ⟨p,ha⟩) (I:cost (d' E p)+oJ p<=oJ g.aB):qw E rs F A g gr t:=by
 have K:=ay.e.n;have w:hh.conv.next t.bM (fb t C)=(d' E p,.inl (0,0),false):=by rw [o.bM];show ((d9 (E.a6 0) (fb t C)).1,Sum.inl (d9 (E.a6 0) (fb t C)).2.1,(d9 (E.a6 0) (fb t C)).2.2)=_;rw [f.ask ay z b];rfl
 have a:=rB ay p z b;have r:∀ v ∈ d' E p,ic E.n E.L v:=λv al=>by obtain ⟨q,s⟩:=eh.1 al;exact (zl ay s).1
 have B:=BP (n:=E.n) (L:=E.L) c D.live (AS h.gn c s) o.dm N (by omega) w a (N0 ay p) h.rep.len K.2 h.lines r;have j:=Cs h.gn c D s (vs:=d' E p) λv al=>by have:=(r v al).node;omega
 have G:=h.gn.cZ t;unfold qw;rw [B] at G ⊢;refine ⟨⟨p,ha⟩,h.Gf u c G j.base (λ_=>⟨j.me,λ_ k l y f O i _ he=>?_⟩) (λe=>absurd e (by show ¬ 5<=p;omega)) x (λq d e=>by cases e) (by show p≠8;omega),⟨o.dm,o.bM,o.bad,λ_=>⟨rfl,f,b,J⟩,λe=>by have:p=6:=e;omega,λe=>by have:p=7:=e;omega,λe=>by have:p=8:=e;omega,by show p<=8/\p≠5;omega⟩,?_,λk f=>oS f,.inr (.inr ⟨z,_,pH c,j.busy a⟩),λe=>by omega⟩
 ·rw [(j.zero k l f).1] at he;omega
 ·have H:dU (g3 F 0 (({ C with batch:=none }:bU).kD (d' E p))) 0=cost (d' E p):=by unfold dU;rw [pH c];exact j.iH
  show dU (g3 F 0 _) 0+oJ p<=_;rw [H];omega
theorem EN (ay:b8 E) (u:0 ∉ rs) (h:gD E rs F A g gr) {t:e4} (l:og E A g t) (s:F.aV[0]?=some C) (r:kf E.n C) (z:hr C) (K:t.e0=false) (w:(fb t C).length<=200) (J:g.aB≠6/\g.aB≠7) (y:p=6\/p=7) {o:Int×Int} (j:d9 (E.a6 0) (fb t C)=([],o,true)) (c:p=6->o=(0,3)/\n6 E A) (i:p=7->∃ f,o=(5,f)/\(f=1->f' E A)/\(f=3->hX E A)/\∃ m,m<E.n/\A.dj m=true):qw E rs F A g gr t:=by
 have L:=ay.e.n;have j:hh.conv.next t.bM (fb t C)=([],.inl o,true):=by rw [l.bM];show ((d9 (E.a6 0) (fb t C)).1,Sum.inl (d9 (E.a6 0) (fb t C)).2.1,(d9 (E.a6 0) (fb t C)).2.2)=_;rw [j];rfl
 have B:=Ch s r.live (AS h.gn s z) l.dm K w j;have D:=h.gn.cZ t;unfold qw;rw [B] at D ⊢;have x:e3 E A ⟨p,ha⟩:=by
  unfold e3;rcases y with e | e
  ·subst e;exact (c rfl).2
  ·subst e;trivial
 refine ⟨⟨p,ha⟩,h.Gf u s D ⟨r.inc,r.live,r.aD,r.nj⟩ (λe=>absurd e (by show ¬ p<=4;clear c i;omega)) (λ_=>⟨rfl,z⟩) x (λq d e=>by cases e) (by show p≠8;clear c i;omega),⟨l.dm,l.bM,l.bad,λe=>by have:p<=4:=e;clear c i;omega,λe=>⟨rfl,by show Sum.inl o=_;rw [(c e).1]⟩,λe=>?_,λe=>by have:p=8:=e;clear c i;omega,by show p<=8/\p≠5;clear c i;omega⟩,?_,λk I=>oS I,y.imp id .inl,λe=>by clear c i;omega⟩
 ·obtain ⟨f,a,b⟩:=i e;exact ⟨rfl,f,congrArg Sum.inl a,b⟩
 ·have G:dU (g3 F 0 ({ C with batch:=none }:bU)) 0=0:=by unfold dU;rw [pH s];exact uZ z
  have H:oJ p=0:=by rcases y with e | e<;>subst e<;>rfl
  show dU (g3 F 0 _) 0+oJ p<=_;rw [G,H];omega
theorem OW (ay:b8 E) (r:0 ∉ rs) (h:gD E rs F A g gr) {t:e4} (s:og E A g t):qw E rs F A g gr t:=by
 have Wc:=ay.e.n;obtain ⟨C,G,K,V_,V'⟩:=h.cA;obtain ⟨We,Wd⟩:=s.aB;by_cases P:g.aB=6\/g.aB=7
 ·have V9:t.e0=true:=by
   rcases P with e | e
   ·exact (s.fin e).1
   ·exact (s.ref e).1
  have N:cZ F t=(F,t):=by unfold cZ;rw [if_pos (.inl V9)]
  unfold qw;rw [N];exact ⟨g,h,s,cQ _,λ_ _=>rfl,P.imp id .inl,λ_=>⟨rfl,rfl⟩⟩
 by_cases V:g.aB=8
 ·obtain ⟨lM,fR⟩:=s.new V;obtain ⟨Wa,Wb⟩:=V' (by omega);have i:fb t C=[]:=by unfold fb;rw [Wa];exact fR
  obtain ⟨a,b,d⟩:=h.xB V;refine r0 ay r h s G K Wb lM (by omega) (p:=0) (by omega) (by omega) (by rw [i];exact Qt) (by rw [i];exact cQ _) ⟨a,b,d,λm _ d e=>by cases e⟩ ?_;rw [V,<-CI ay];have:=KM ay.e ay.bM;show cost (nT (E.a6 0))+106<=700;omega
 have U:g.aB<=4:=by omega
 obtain ⟨r1,D,V3,Wf⟩:=s.run U;obtain ⟨X,_⟩:=V_ U;by_cases u:hr C
 ·obtain ⟨ds,d1,d2,d3,d4⟩:=X.all u;have i:fb t C=t.a4++[ds]:=by unfold fb;rw [d1]
  have M:=h.uS;have c:=h.qY;have y:∀ {q:Nat} {v:aW},(d' E g.aB)[q]?=some v->∃ d,g.bw q=some d/\ds[q]?=some d:=λ{q v} al=>by obtain ⟨d,ar⟩:=d4 q (cb al);exact ⟨d,ar,d3 q d ar⟩
  have S:o7 (d' E g.aB) ds:=⟨d2,λq v d al ar=>by obtain ⟨T,j,w⟩:=y al;rw [ar] at w;cases w;obtain ⟨bj,o,O⟩:=M q d j;rw [al] at o;cases o;exact O.imp id λx=>⟨x.1,x.2.1⟩⟩
  have hlen:(fb t C).length<=g.aB+1:=by rw [i,dI,th];omega
  rcases S.cases with f | ⟨V6,d5,Y,V7⟩
  ·have au:∀ {q:Nat} {v:aW},(d' E g.aB)[q]?=some v->∃ d,g.bw q=some d/\ds[q]?=some d/\d.code=0:=λ{q v} al=>by obtain ⟨d,j,w⟩:=y al;exact ⟨d,j,w,(f.each q v d al w).1⟩
   obtain e | e | e | e | e:g.aB=0\/g.aB=1\/g.aB=2\/g.aB=3\/g.aB=4:=by omega
   ·unfold e3 at c;rw [e] at c D f au hlen;obtain ⟨J,b0,H,V4⟩:=c;refine r0 ay r h s G K u r1 (by omega) (p:=1) (by omega) (by omega) (by rw [i];exact D.next ay (by omega) (by omega) f (by omega)) hlen ⟨λm hm=>?_,J,λq p z=>⟨λ_=>H 0 (by omega) p (b7 z),λd e=>by cases e⟩⟩ ?_
    ·obtain ⟨d,j,_,o⟩:=au (q:=m) (v:=cx m 56 (gS E)) (by simp [d',kk hm]);exact V4 m hm d j o
    ·rw [e,<-yi ay];have:=KO ay.e ay.bM;show cost (dC (E.a6 0))+70<=106;omega
   ·unfold e3 at c;rw [e] at c D f au hlen;obtain ⟨J,b0,H⟩:=c;have R:∀ {q:Nat} {p:aK},(bI E)[q]?=some p->∃ d,g.bw q=some d/\ds[q]?=some d/\d.code=0:=λ{q p} z=>au (q:=q) (v:=fW 0 (p.bo * 8) p.Head (eK p.Head 0)) (by simp only [d'];rw [dR,z];rfl)
    have V8:wh E ds:=λq p d z ar=>by obtain ⟨T,j,w,o⟩:=R z;rw [ar] at w;cases w;exact ((H q p z).2 d j o).1
    refine r0 ay r h s G K u r1 (by omega) (p:=2) (by omega) (by omega) (by rw [i];exact D.next ay (by omega) (by omega) f (λ_=>V8)) hlen ⟨J,λ_=>?_,λm _ d e=>by cases e⟩ ?_
    ·by_cases ar:jc E A
     ·exact .inr ar
     ·refine .inl λp z=>?_
      obtain ⟨q,u⟩:=eh.1 z;obtain ⟨T,j,w,o⟩:=R u;rcases ((H q p u).2 T j o).2 with g | g
      ·exact g
      ·exact absurd g ar
    ·rw [e,<-CJ ay];have:=KN ay.e ay.bM;show cost (nU (E.a6 0))+65<=70;omega
   ·unfold e3 at c;rw [e] at c D f au hlen;obtain ⟨J,b0,H⟩:=c;have Q:hX E A:=λm hm=>by obtain ⟨d,j,_,o⟩:=au (q:=m) (v:=cx m 48 [h' E]) (by simp [d',kk hm]);exact H m hm d j o
    have L:=D.next ay (by omega) (by omega) f (by omega);rw [<-i] at L;by_cases W:E.n=1
    ·refine r0 ay r h s G K u r1 (by omega) (p:=4) (by omega) (by omega) (L.skip ay W) (by omega) ⟨Q,λm _ _=>by omega,λq v d _ e=>by cases e⟩ ?_;rw [e,<-y6 ay];have:=Db ay.e ay.bM;show cost (h1 (E.a6 0))+0<=65;omega
    ·refine r0 ay r h s G K u r1 (by omega) (p:=3) (by omega) (λ_=>by omega) L hlen ⟨Q,λq v d _ e=>by cases e⟩ ?_;rw [e,<-CK ay];have:=KP ay.e ay.bM;show cost (qf (E.a6 0))+13<=65;omega
   ·unfold e3 at c;rw [e] at c D f au hlen V3;obtain ⟨J,b0⟩:=c;refine r0 ay r h s G K u r1 (by omega) (p:=4) (by omega) (by omega) (by rw [i];exact D.next ay (by omega) (λ_=>V3 rfl) f (by omega)) hlen ⟨J,λm W V5=>?_,λq v d _ e=>by cases e⟩ ?_
    ·obtain ⟨q,u⟩:=EM (l:=bI E) W V5;obtain ⟨d,j,_,o⟩:=au (q:=q) u;exact (b0 q _ d u j o).2 m rfl
    ·rw [e,<-y6 ay];have:=Db ay.e ay.bM;show cost (h1 (E.a6 0))+0<=13;omega
   ·unfold e3 at c;rw [e] at c D f au hlen;obtain ⟨J,b0,H⟩:=c;have L:=D.next ay (by omega) (by omega) f (by omega);rw [<-i] at L;refine EN ay r h s G K u r1 (by omega) (by omega) (p:=6) (.inl rfl) (L.done ay) (λ_=>⟨rfl,J,?_,λp z=>?_⟩) (by omega)
    ·obtain ⟨d,j,_,o⟩:=au (q:=0) (v:=cx 0 32 [c_ E]) rfl;exact (H 0 _ d rfl j o).2 0 rfl
    ·obtain ⟨k,L⟩:=eh.1 z;have B:(f0 E (bI E))[k+1]?=some (fG 0 p):=by unfold f0;rw [nY,dR,L];rfl
     obtain ⟨d,j,_,o⟩:=au (q:=k+1) B;exact (H _ _ d B j o).1 0 p z rfl
  ·have Z:∃ m,m<E.n/\A.dj m=true:=by
    obtain ⟨q,B⟩:=eh.1 Y;have V2:q<(d' E g.aB).length:=by rw [<-d2];exact cb B
    obtain ⟨T,j,w⟩:=y (bD V2);rw [B] at w;cases w;obtain ⟨v,o,O⟩:=M q d5 j;rcases O with O | ⟨_,_,O⟩
    ·omega
    ·have:=(zl ay o).1.node;exact ⟨_,by omega,O⟩
   refine EN ay r h s G K u r1 (by omega) (by omega) (p:=7) (.inr rfl) (by rw [i];exact D.ref ay U V3 S V6) (by omega) λ_=>⟨_,rfl,λI=>?_,λI=>?_,Z⟩
   ·unfold e3 at c;obtain e | e | e | e | e:g.aB=0\/g.aB=1\/g.aB=2\/g.aB=3\/g.aB=4:=by omega
    ·rw [e] at c;exact c.1
    ·rw [e] at c;exact c.2.1
    all_goals
     rw [e] at I;cases I
   ·unfold e3 at c;obtain e | e | e | e | e:g.aB=0\/g.aB=1\/g.aB=2\/g.aB=3\/g.aB=4:=by omega
    ·rw [e] at I;cases I
    ·rw [e] at I;cases I
    ·rw [e] at I;cases I
    ·rw [e] at c;exact c.1
    ·rw [e] at c;exact c.1
 ·have N:cZ F t=(F,t):=BW (by rw [s.dm];exact Cr h.gn G u);unfold qw;rw [N];exact ⟨g,h,s,cQ _,λ_ _=>rfl,.inr (.inr ⟨U,C,G,u⟩),λe=>by omega⟩
structure l9 (E:Env) (c:Nat) (g:c5) (t:e4):Prop where
 dm:t.a1=(c:Int)
 bM:t.bM=.inr (cw E c)
 bad:t.bad=false
 run:g.aB<=9->t.e0=false/\Kp E c t.a4 (eC E c g)/\cO E c g≠[]/\t.a4.length<=mP g.aB
 fin:g.aB=10->t.e0=true/\t.out=.inr ⟨0,g.c7.1,g.c7.2,jG E.L g.cH g.aT,0⟩/\t.a4.length<=9
 busy:g.aB=11->t.e0=true/\∃ w,t.out=.inr ⟨3,0,0,0,w⟩
 new:g.aB=12->t.e0=false/\t.a4=[]
theorem l9.az {a:c5} {t:e4} (h:l9 E c s t) (b:a.bare=s.bare):l9 E c a t:=by
 have d:=y_ b;have e:eC E c a=eC E c s:=by
  have:eC E c a.bare=eC E c s.bare:=by rw [b]
  exact this
 have f:cO E c a=cO E c s:=by
  have:cO E c a.bare=cO E c s.bare:=by rw [b]
  exact this
 have g:a.c7=s.c7:=by
  have:a.bare.c7=s.bare.c7:=by rw [b]
  exact this
 have i:a.cH=s.cH:=by
  have:a.bare.cH=s.bare.cH:=by rw [b]
  exact this
 have j:a.aT=s.aT:=by
  have:a.bare.aT=s.bare.aT:=by rw [b]
  exact this
 exact ⟨h.dm,h.bM,h.bad,by rw [d,e,f];exact h.run,by rw [d,g,i,j];exact h.fin,by rw [d];exact h.busy,by rw [d];exact h.new⟩
theorem gD.Gg (h:gD E rs F A g gr) (o:∀ c ∈ rs,1<=c/\c<6) (f:c ∈ rs) (B:F.aV[c]?=some C) (H:cp (g3 F c C')) (D:kf E.n C') (z:s.aB<=9->gC C' (cO E c s) s.bw/\(s.aB=3->qs C' F.nodes)) (d:10<=s.aB->C'.batch=none/\hr C') (l:cC E rs A F.nodes (hQ gr c s) c) (b:lC E s) (a:l5 E c s) (x:s.aB<=11) (hw:gF (gr c)->gF s) (i:h6 (gr c)->h6 s):gD E rs (g3 F c C') A g (hQ gr c s):=by
 have G:=o c f;refine ⟨H,h.lines,h.hL,by simpa [g3] using h.r_,h.rep,h.law,lP h.uX rfl i,?_,h.qY,h.uS,h.xB,λk j=>?_,λk j=>?_,h.uD,λI=>(by have:=I c f;rw [eT] at this;omega),λk r w p y=>h.rest k r w p (by rw [<-oS (λe=>p (by rw [e];exact f))];exact y)⟩
 ·obtain ⟨q,t,u⟩:=h.cA;exact ⟨q,by rw [oS (by omega)];exact t,u⟩
 ·by_cases e:k=c
  ·subst e;rw [eT];exact ⟨C',pH B,D,z,d⟩
  ·rw [kw e,oS e];exact h.q3 k j
 ·by_cases e:k=c
  ·subst e;rw [eT];exact ⟨l,b,a,by omega⟩
  ·obtain ⟨J,K,L,M⟩:=h.my k j;rw [kw e];exact ⟨J.stay (kw e) (vz hw),K,L,M⟩
def t_ (E:Env) (rs:cP) (F:aN) (A:bt) (g:f_) (gr:Nat->c5) (c:Nat) (t:e4):Prop:=
 ∃ s,gD E rs (cZ F t).1 A g (hQ gr c s)/\l9 E c s (cZ F t).2/\dU (cZ F t).1 c+gQ s.aB<=dU F c+gQ (gr c).aB/\(∀ k,k≠c->(cZ F t).1.aV[k]?=F.aV[k]?)/\(s.aB=10\/s.aB=11\/s.aB<=9/\∃ C,(cZ F t).1.aV[c]?=some C/\¬ hr C)/\((gr c).aB=10\/(gr c).aB=11->cZ F t=(F,t)/\s=gr c)
theorem DP (gr:Nat->c5) (c:Nat):hQ gr c (gr c)=gr:=by funext k;unfold hQ;split<;>simp_all
theorem OX (ay:b8 E) {bB:List aZ} (h:cC E rs A bB gr c) (r:(gr c).aB<=9):∀ v ∈ cO E c (gr c),ic E.n E.L v:=by
 have b:=ay.e.n;have s:=ay.e.L;have o:=ay.mr;have a:1<=E.L/\E.L<=256:=by omega
 unfold cC at h;intro v al;unfold cO at al;split at al
 ·obtain ⟨m,hm,rfl⟩:=cT.1 al;exact nJ b.2 (fJ.1 hm) a (by omega) (by omega) (by omega) (.inr (by omega))
 ·rename_i e;rw [e] at h;obtain ⟨m,hm,rfl⟩:=cT.1 al;exact wd b.2 (h.2.1 m hm) a (by omega) (by omega)
 ·simp only [gZ,n1] at al;subst al;exact wd b.2 (by omega) a (by omega) (by omega)
 ·obtain ⟨q,i⟩:=eh.1 al;rcases zJ i with ⟨m,hm,⟨_,rfl⟩ | ⟨_,rfl⟩⟩ | ⟨_,rfl⟩
  ·exact nJ b.2 hm a (by omega) (by omega) (by omega) (.inr (by omega))
  ·exact nJ b.2 hm a (by omega) (by omega) (by omega) (.inl (by omega))
  ·exact nJ b.2 (by omega) a (by omega) (by omega) (by omega) (.inl (by omega))
 ·rename_i e;rw [e] at h;have j:=ay.lH;obtain ⟨q,i⟩:=eh.1 al;obtain ⟨k,m,hm,d⟩:=ES i;have f:=h.2.2.2.2.2.1 m (b7 hm);rcases d with ⟨_,rfl⟩ | ⟨_,rfl⟩ | ⟨_,rfl,_⟩
  ·exact nV b.2 f (by omega) (by omega) (by simp) (by simp) (by simp;omega)
  ·exact nV b.2 f (by omega) (by omega) (by omega) (by omega) (by rw [j.1];omega)
  ·exact nV b.2 f (by omega) (by omega) (by simp) (by simp) (by simp;omega)
 ·obtain ⟨p,g,rfl⟩:=cT.1 al;have l:=ay.pl g;exact nJ b.2 (by omega) a (by omega) (by omega) (by omega) (.inl (by omega))
 ·rename_i e;rw [e] at h;obtain ⟨q,i⟩:=eh.1 al;obtain ⟨m,hm,_,⟨p,g,rfl⟩ | ⟨rfl,_⟩⟩:=wi i
  ·exact rD ay hm (h.2.2.1.1 p g)
  ·exact rE ay hm
 ·rename_i e;rw [e] at h;obtain ⟨q,i⟩:=eh.1 al;obtain ⟨_,⟨_,rfl⟩ | ⟨_,p,g,rfl⟩⟩:=wj i
  ·exact rE ay (by omega)
  ·exact rD ay (by omega) (h.2.2.2.1.1 p g)
 ·rename_i e;rw [e] at h;obtain ⟨p,g,rfl⟩:=cT.1 al;have:=h.2.2.2.2.1 p g;exact wd b.2 (by omega) a (by omega) (by omega)
 ·simp only [gG,n1] at al;subst al;exact wd b.2 (by omega) a (by omega) (by omega)
 ·cases al
theorem EO (ay:b8 E) (J:∀ c ∈ rs,1<=c/\c<6) (h:gD E rs F A g gr) (S:c ∈ rs) {t:e4} (r:l9 E c (gr c) t) (p:F.aV[c]?=some C) (B:kf E.n C) (O:hr C) (T:t.e0=false) (Y:(gr c).aB≠10/\(gr c).aB≠11) (i:(fb t C).length<=mP s.aB) (f:jb E rs A F.nodes gr c (fb t C) s):t_ E rs F A g gr c t:=by
 have X:=ay.e.n;have hw:=AS h.gn p O;have z:∀ {vs:List aW} {o:dA} {b:Bool},fD (cw E c) (fb t C)=(vs,o,b)->hh.conv.next t.bM (fb t C)=(vs,.inr o,b):=λ{vs o b} Q=>by rw [r.bM];show ((fD (cw E c) (fb t C)).1,Sum.inr (fD (cw E c) (fb t C)).2.1,(fD (cw E c) (fb t C)).2.2)=_;rw [Q];rfl
 have j:l5 E c s:=λq d e=>by rw [f.bw] at e;cases e
 have N:=h.gn.cZ t;have x:∀ k,k<=11->mP k<=200:=λk H=>by unfold mP;split<;>omega
 unfold t_;rcases f.go with ⟨u,M,V,P,V3,W⟩ | ⟨u,M⟩ | ⟨u,w,M⟩
 ·have D:=OX (gr:=hQ gr c s) ay f.ok (by rw [eT];exact u);rw [eT] at D;have G:=BP (n:=E.n) (L:=E.L) p B.live hw r.dm T (lq i (x _ (by omega))) (z M) P W h.rep.len X.2 h.lines D;have I:=Cs h.gn p B O (vs:=cO E c s) λv al=>by have:=(D v al).node;omega
  rw [G] at N ⊢;refine ⟨s,h.Gg J S p N I.base (λ_=>⟨by rw [f.bw];exact I.me,λ_ k l y H V4 a n U _=>?_⟩) (λe=>by omega) f.ok f.xP j (by omega) f.u2 f.holds,⟨r.dm,r.bM,r.bad,λ_=>⟨rfl,V,P,i⟩,λe=>by omega,λe=>by omega,λe=>by omega⟩,?_,λk H=>oS H,.inr (.inr ⟨u,_,pH p,I.busy P⟩),λe=>by omega⟩
  ·obtain ⟨Z,V2⟩:=I.zero k l H;rw [Z,V2];simp
  ·have K:dU (g3 F c (({ C with batch:=none }:bU).kD (cO E c s))) c=cost (cO E c s):=by unfold dU;rw [pH p];exact I.iH
   show dU (g3 F c _) c+gQ s.aB<=_;rw [K];omega
 all_goals
  have G:=Ch p B.live hw r.dm T (lq i (x _ (by omega))) (z M);rw [G] at N ⊢;have K:dU (g3 F c ({ C with batch:=none }:bU)) c=0:=by unfold dU;rw [pH p];exact uZ O
  have R:gQ s.aB=0:=by rw [u];rfl
  refine ⟨s,h.Gg J S p N ⟨B.inc,B.live,B.aD,B.nj⟩ (λe=>by omega) (λ_=>⟨rfl,O⟩) f.ok f.xP j (by omega) f.u2 f.holds,⟨r.dm,r.bM,r.bad,λe=>by omega,λe=>?_,λe=>?_,λe=>by omega⟩,?_,λk H=>oS H,?_,λe=>by omega⟩
 ·refine ⟨rfl,rfl,?_⟩;rw [u] at i;exact i
 ·omega
 ·show dU (g3 F c _) c+gQ s.aB<=_;rw [K,R];omega
 ·exact .inl u
 ·omega
 ·exact ⟨rfl,w,rfl⟩
 ·show dU (g3 F c _) c+gQ s.aB<=_;rw [K,R];omega
 ·exact .inr (.inl u)
theorem OY (ay:b8 E) (j:∀ c ∈ rs,1<=c/\c<6) (h:gD E rs F A g gr) (o:c ∈ rs) {t:e4} (b:l9 E c (gr c) t):t_ E rs F A g gr c t:=by
 have U:=ay.e.n;have f:=j c o;obtain ⟨C,r,D,M,N⟩:=h.q3 c o;obtain ⟨O,P,H,V⟩:=h.my c o;by_cases l:(gr c).aB=10\/(gr c).aB=11
 ·have K:t.e0=true:=by
   rcases l with e | e
   ·exact (b.fin e).1
   ·exact (b.busy e).1
  have k:cZ F t=(F,t):=by unfold cZ;rw [if_pos (.inl K)]
  unfold t_;rw [k];exact ⟨gr c,by rw [DP];exact h,b,cQ _,λ_ _=>rfl,l.imp id .inl,λ_=>⟨rfl,rfl⟩⟩
 by_cases i:(gr c).aB=12
 ·obtain ⟨lM,fR⟩:=b.new i;obtain ⟨Q,R⟩:=N (by omega);have a:fb t C=[]:=by unfold fb;rw [Q];exact fR
  refine EO ay j h o b r D R lM (by omega) (s:=ns 0) (by rw [a];exact vc _) ?_;rw [a];exact N' ay f i
 have p:(gr c).aB<=9:=by omega
 obtain ⟨r1,S,T,W⟩:=b.run p;obtain ⟨w,_⟩:=M p;by_cases u:hr C
 ·obtain ⟨ds,d1,d2,d3,d4⟩:=w.all u;have a:fb t C=t.a4++[ds]:=by unfold fb;rw [d1]
  have x:kn E c (gr c) ds:=by refine ⟨⟨d2,λq v d al ar=>?_⟩,d3,d4⟩;obtain ⟨I,y⟩:=d4 q (cb al);have z:=d3 q I y;rw [ar] at z;cases z;obtain ⟨bj,B,J⟩:=H q d y;rw [al] at B;cases B;exact J
  obtain ⟨s,G⟩:=Tu ay f h.rep h.law h.uD p T P H S O x;have L:mP (gr c).aB<mP s.aB:=G.up.resolve_left i;refine EO ay j h o b r D u r1 (by omega) (s:=s) ?_ (by rw [a];exact G);rw [a,dI,th];omega
 ·have k:cZ F t=(F,t):=BW (by rw [b.dm];exact Cr h.gn r u);unfold t_;rw [k];exact ⟨gr c,by rw [DP];exact h,b,cQ _,λ_ _=>rfl,.inr (.inr ⟨p,C,r,u⟩),λe=>by omega⟩
end
end
section
open e7
theorem tF {f g:Nat->Nat}:∀ {l:cP},(∀ k ∈ l,f k<=g k)->(l.map f).sum<=(l.map g).sum
 | [],_=>by simp
 |a::l,h=>by
  have:=tF λk b=>h k (fu _ b)
  have:=h a e2;simp only [f9,jR];omega
theorem Es {f g:Nat->Nat}:∀ {l:cP},(∀ k ∈ l,f k<=g k)->∀ {i:Nat},i ∈ l->f i<g i->(l.map f).sum<(l.map g).sum
 | [],_,_,b,_=>by cases b
 |a::l,h,i,b,d=>by
  have j:=tF λk c=>h k (fu _ c)
  have n:=h a e2;simp only [f9,jR];rcases e6.1 b with e | e
  ·subst e;omega
  ·have:=Es (λk c=>h k (fu _ c)) e d;omega
end
end Go.Proofs.YtmkljjbioomepaaGreat
