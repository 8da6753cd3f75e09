import Derived.Test.YtmkljjbioomepaaGreatc41
import Derived.Test.YtmkljjbioomepaaGreatc37
set_option linter.all false
namespace Go.Proofs.YtmkljjbioomepaaGreat
open Go.Proofs.Tryz Go.br
variable {C C':bP} {F:aM} {c i p:Nat} {bU:gC} {s:c8}
section
open e1
theorem BM:∀ (vs:List aP) {C:bP} {k m:Nat} {l:cP},(C.gN k vs).aD[m]?=some l->∃ cU,C.aD[m]?=some cU/\l.pair.words=cU.pair.words/\l.pair.bD=cU.pair.bD
 | [],C,k,m,l,h=>⟨l,h,rfl,rfl⟩
 |v::vs,C,k,m,l,h=>by
  obtain ⟨dd,a,c,d⟩:=BM vs (C:=C.gk k v) (k:=k+1) h;unfold bP.gk at a;simp only [sY] at a;cases b:C.aD[m]? with
  |none=>rw [b] at a;simp at a
  |some cU=>
   rw [b] at a;refine ⟨cU,rfl,c.trans ?_,d.trans ?_⟩;all_goals
    by_cases e:v.node.toNat=m
    ·simp [e] at a;subst a;rfl
    ·simp [e] at a;subst a;rfl
structure Oe (n:Nat) (C':bP) (vs:List aP):Prop where
 base:j4 n C'
 mb:gB C' vs ha
 zero:∀ (k:Nat) (l:cP),C'.aD[k]?=some l->l.pair.bD=0/\l.pair.words=[]
 iA:iA C'=cost vs
 busy:vs≠[]->¬ hr C'
section
variable {F:aM} {i n:Nat} {C:bP}
theorem Jk (e:cp F) (d:F.aX[i]?=some C) (f:hr C) (k:Nat) (l:cP) (b:C.aD[k]?=some l):l.pair.ba=[]/\l.bT=[]/\l.pair.bD=0/\l.pair.words=[]:=by have an:=f k l b;have c:=((e.cj.ok.a3 i C d).lane k l b).bT;rw [an] at c;have a:=e.cj.dj C (cg d) l (cg b);exact ⟨an,nP.1 c,a.idle an,a.zero (a.idle an)⟩
theorem Ar (c:cp F) (b:F.aX[i]?=some C) (e:hr C):C.waiting=0:=by
 rw [(c.cj.ok.a3 i C b).waiting];unfold gZ;have:∀ ls:List cP,(∀ l ∈ ls,l.pair.ba=[])->(ls.map λl=>l.pair.ba.length).sum=0:=λls=>by
  induction ls with
  |nil=>intro _;rfl
  |cons l ls g=>intro a;rw [gA,j_,g λx f=>a x (fD _ f),a l e_];rfl
 exact this C.aD λl a=>by obtain ⟨k,d⟩:=eF.1 a;exact e k l d
theorem Bo (b:cp F) (a:F.aX[i]?=some C) (d:¬ hr C):0<F.waiting (i:Int):=by
 unfold aM.waiting;rw [jX,a];show 0<C.waiting;rw [(b.cj.ok.a3 i C a).waiting];rcases x4 (gZ C.aD) with e | e
 ·exact absurd (λk l c=>AB e l (cg c)) d
 ·exact e
theorem Bp (x:cp F) (w:F.aX[i]?=some C) (f:j4 n C) (r:hr C) {vs:List aP} (p:∀ v ∈ vs,v.node.toNat<n):Oe n (({ C with batch:=none }:bP).kz vs) vs:=by
 have c:=Jk x w r;have b:∀ v ∈ vs,v.node.toNat<({ C with batch:=none }:bP).aD.length:=λv an=>by show _<C.aD.length;rw [f.aD];exact p v an
 have d:gB (({ C with batch:=none }:bP).kz vs) vs ha:=gB.post f.live (λk l a=>⟨(c k l a).1,(c k l a).2.1⟩) b;obtain ⟨h,g⟩:=AZ vs ({ C with batch:=none }:bP) 0;have au:∀ (k:Nat) (l:cP),(({ C with batch:=none }:bP).kz vs).aD[k]?=some l->l.pair.bD=0/\l.pair.words=[]:=λk l a=>by obtain ⟨cU,q,t,u⟩:=BM vs (C:=({ C with batch:=none }:bP)) (k:=0) (l:=l) a;rw [t,u];exact ⟨(c k cU q).2.2.1,(c k cU q).2.2.2⟩
 refine ⟨⟨g.trans f.inc,d.live,h.trans f.aD,λk l a v eU _ _=>(au k l a).2⟩,d,au,?_,λj o=>?_⟩
 ·have:=CB vs (C:=({ C with batch:=none }:bP)) (k:=0) (λm l a=>(c m l a).2.2.1) b;have s:iA ({ C with batch:=none }:bP)=0:=uF r;rw [s,g3] at this;exact this
 ·obtain ⟨v,eU,e⟩:=sX j;obtain ⟨k,l,a,hm⟩:=d.left 0 (by rw [e];simp) rfl;have:=(d.lane k l a).len;rw [o k l a] at this;rw [nP.1 this] at hm;cases hm
end
theorem pB (h:F.aX[i]?=some C):(g0 F i C').aX[i]?=some C':=jK (ch h)
theorem oK {k:Nat} (h:k≠i):(g0 F i C').aX[k]?=F.aX[k]?:=h6 (λe=>h e.symm)
abbrev fQ:=b9 g4.conv
structure m2 (E:Env) (A:bA) (g:gC) (t:fQ):Prop where
 dj:t.a3=((0:Nat):Int)
 bN:t.bN=.inl (E.a1 0)
 bad:t.bad=false
 run:g.aB<=4->t.eK=false/\jM E g.aB t.a7/\(g.aB=3->1<E.n)/\t.a7.length<=g.aB
 fin:g.aB=6->t.eK=true/\t.out=.inl (0,3)
 ref:g.aB=7->t.eK=true/\∃ f,t.out=.inl (5,f)/\(f=1->fP E A)/\(f=3->im E A)/\∃ m,m<E.n/\A.dh m=true
 new:g.aB=8->t.eK=false/\t.a7=[]
 aB:g.aB<=8/\g.aB≠5
theorem m2.az {E:Env} {A A':bA} {g:gC} {t:fQ} (h:m2 E A g t) (i:bU.aB=g.aB) (j:5<=g.aB->n6 E A A'):m2 E A' bU t:=by refine ⟨h.dj,h.bN,h.bad,by rw [i];exact h.run,by rw [i];exact h.fin,λe=>?_,by rw [i];exact h.new,by rw [i];exact h.aB⟩;rw [i] at e;obtain ⟨a,f,b,c,d,m,k,l⟩:=h.ref e;have j:=j (by omega);exact ⟨a,f,b,λe=>j.qO (c e),λe=>j.mono.am (d e),m,k,j.mono.dh m l⟩
section
variable {E:Env} {rs:cQ} {F:aM} {A:bA} {g:gC} {gr:Nat->c8}
theorem hx.FQ (h:hx E rs F A g gr) (a:0 ∉ rs) (o:F.aX[0]?=some C) (q:cp (g0 F 0 C')) (p:j4 E.n C') (k:bU.aB<=4->gB C' (dV E bU.aB) bU.bs/\(bU.aB=0->oU E C' F.nodes)) (l:5<=bU.aB->C'.batch=none/\hr C') (s:eZ E A bU) (t:m0 E A bU) (r:bU.aB≠8):hx E rs (g0 F 0 C') A bU gr:=
 ⟨q,h.lines,h.ib,by simpa [g0] using h.rT,h.rep,h.law,h.uG,⟨C',pB o,p,k,l⟩,s,t,λe=>absurd e r,λc d=>by rw [oK (λe=>a (by rw [<-e];exact d))];exact h.qV c d,h.oq,h.uf,h.op,λc f b i j=>h.rest c f b i (by rw [<-oK b];exact j)⟩
def qp (E:Env) (rs:cQ) (F:aM) (A:bA) (g:gC) (gr:Nat->c8) (t:fQ):Prop:=
 ∃ bU,hx E rs (cV F t).1 A bU gr/\m2 E A bU (cV F t).2/\dS (cV F t).1 0+oB bU.aB<=dS F 0+oB g.aB/\(∀ k,k≠0->(cV F t).1.aX[k]?=F.aX[k]?)/\(bU.aB=6\/bU.aB=7\/bU.aB<=4/\∃ C,(cV F t).1.aX[0]?=some C/\¬ hr C)/\(g.aB=6\/g.aB=7->cV F t=(F,t)/\bU=g)
theorem MC (ay:b5 E) (p:Nat):(dV E p).length<=1024:=by
 have b:=ay.e.n;have a:=ay.lC;unfold dV;split
 ·simp;omega
 ·simp;omega
 ·simp;omega
 ·exact (Dw b.2 a.2).2
 ·exact (Dv (E:=E) a.2).2
theorem rL (ay:b5 E) (u:0 ∉ rs) (h:hx E rs F A g gr) {t:fQ} (o:m2 E A g t) (c:F.aX[0]?=some C) (D:j4 E.n C) (s:hr C) (N:t.eK=false) (M:g.aB≠6/\g.aB≠7) (z:p<=4) (b:p=3->1<E.n) (f:jM E p (e6 t C)) (J:(e6 t C).length<=p) (x:eZ E A ⟨p,ha⟩) (I:cost (dV E p)+oB p<=oB g.aB):qp E rs F A g gr t:=by
 have K:=ay.e.n;have w:g4.conv.next t.bN (e6 t C)=(dV E p,.inl (0,0),false):=by rw [o.bN];show ((d9 (E.a1 0) (e6 t C)).1,Sum.inl (d9 (E.a1 0) (e6 t C)).2.1,(d9 (E.a1 0) (e6 t C)).2.2)=_;rw [f.ask ay z b];rfl
 have a:=ry ay p z b;have r:∀ v ∈ dV E p,h9 E.n E.L v:=λv an=>by obtain ⟨q,s⟩:=eF.1 an;exact (y4 ay s).1
 have B:=BI (n:=E.n) (L:=E.L) c D.live (Ar h.g8 c s) o.dj N (by omega) w a (MC ay p) h.rep.len K.2 h.lines r;have j:=Bp h.g8 c D s (vs:=dV E p) λv an=>by have:=(r v an).node;omega
 have G:=h.g8.cV t;unfold qp;rw [B] at G ⊢;refine ⟨⟨p,ha⟩,h.FQ u c G j.base (λ_=>⟨j.mb,λ_ k l y f O i _ he=>?_⟩) (λe=>absurd e (by show ¬ 5<=p;omega)) x (λq d e=>by cases e) (by show p≠8;omega),⟨o.dj,o.bN,o.bad,λ_=>⟨rfl,f,b,J⟩,λe=>by have:p=6:=e;omega,λe=>by have:p=7:=e;omega,λe=>by have:p=8:=e;omega,by show p<=8/\p≠5;omega⟩,?_,λk f=>oK f,.inr (.inr ⟨z,_,pB c,j.busy a⟩),λe=>by omega⟩
 ·rw [(j.zero k l f).1] at he;omega
 ·have H:dS (g0 F 0 (({ C with batch:=none }:bP).kz (dV E p))) 0=cost (dV E p):=by unfold dS;rw [pB c];exact j.iA
  show dS (g0 F 0 _) 0+oB p<=_;rw [H];omega
theorem Es (ay:b5 E) (u:0 ∉ rs) (h:hx E rs F A g gr) {t:fQ} (l:m2 E A g t) (s:F.aX[0]?=some C) (r:j4 E.n C) (z:hr C) (K:t.eK=false) (w:(e6 t C).length<=200) (J:g.aB≠6/\g.aB≠7) (y:p=6\/p=7) {o:Int×Int} (j:d9 (E.a1 0) (e6 t C)=([],o,true)) (c:p=6->o=(0,3)/\l1 E A) (i:p=7->∃ f,o=(5,f)/\(f=1->fP E A)/\(f=3->im E A)/\∃ m,m<E.n/\A.dh m=true):qp E rs F A g gr t:=by
 have L:=ay.e.n;have j:g4.conv.next t.bN (e6 t C)=([],.inl o,true):=by rw [l.bN];show ((d9 (E.a1 0) (e6 t C)).1,Sum.inl (d9 (E.a1 0) (e6 t C)).2.1,(d9 (E.a1 0) (e6 t C)).2.2)=_;rw [j];rfl
 have B:=BJ s r.live (Ar h.g8 s z) l.dj K w j;have D:=h.g8.cV t;unfold qp;rw [B] at D ⊢;have x:eZ E A ⟨p,ha⟩:=by
  unfold eZ;rcases y with e | e
  ·subst e;exact (c rfl).2
  ·subst e;trivial
 refine ⟨⟨p,ha⟩,h.FQ u s D ⟨r.inc,r.live,r.aD,r.m7⟩ (λe=>absurd e (by show ¬ p<=4;clear c i;omega)) (λ_=>⟨rfl,z⟩) x (λq d e=>by cases e) (by show p≠8;clear c i;omega),⟨l.dj,l.bN,l.bad,λe=>by have:p<=4:=e;clear c i;omega,λe=>⟨rfl,by show Sum.inl o=_;rw [(c e).1]⟩,λe=>?_,λe=>by have:p=8:=e;clear c i;omega,by show p<=8/\p≠5;clear c i;omega⟩,?_,λk I=>oK I,y.imp id .inl,λe=>by clear c i;omega⟩
 ·obtain ⟨f,a,b⟩:=i e;exact ⟨rfl,f,congrArg Sum.inl a,b⟩
 ·have G:dS (g0 F 0 ({ C with batch:=none }:bP)) 0=0:=by unfold dS;rw [pB s];exact uF z
  have H:oB p=0:=by rcases y with e | e<;>subst e<;>rfl
  show dS (g0 F 0 _) 0+oB p<=_;rw [G,H];omega
theorem OP (ay:b5 E) (r:0 ∉ rs) (h:hx E rs F A g gr) {t:fQ} (s:m2 E A g t):qp E rs F A g gr t:=by
 have VF:=ay.e.n;obtain ⟨C,G,K,VA,VB⟩:=h.cz;obtain ⟨VH,VG⟩:=s.aB;by_cases Q:g.aB=6\/g.aB=7
 ·have Vz:t.eK=true:=by
   rcases Q with e | e
   ·exact (s.fin e).1
   ·exact (s.ref e).1
  have N:cV F t=(F,t):=by unfold cV;rw [if_pos (.inl Vz)]
  unfold qp;rw [N];exact ⟨g,h,s,cO _,λ_ _=>rfl,Q.imp id .inl,λ_=>⟨rfl,rfl⟩⟩
 by_cases W:g.aB=8
 ·obtain ⟨lJ,VC⟩:=s.new W;obtain ⟨VD,VE⟩:=VB (by omega);have i:e6 t C=[]:=by unfold e6;rw [VD];exact VC
  obtain ⟨a,b,d⟩:=h.xd W;refine rL ay r h s G K VE lJ (by omega) (p:=0) (by omega) (by omega) (by rw [i];exact P2) (by rw [i];exact cO _) ⟨a,b,d,λm _ d e=>by cases e⟩ ?_;rw [W,<-Cw ay];have:=Ku ay.e ay.bN;show cost (nH (E.a1 0))+106<=700;omega
 have V:g.aB<=4:=by omega
 obtain ⟨r1,D,Vt,VI⟩:=s.run V;obtain ⟨Y,_⟩:=VA V;by_cases u:hr C
 ·obtain ⟨ds,d1,d2,d3,d4⟩:=Y.all u;have i:e6 t C=t.a7++[ds]:=by unfold e6;rw [d1]
  have M:=h.uz;have c:=h.qP;have y:∀ {q:Nat} {v:aP},(dV E g.aB)[q]?=some v->∃ d,g.bs q=some d/\ds[q]?=some d:=λ{q v} an=>by obtain ⟨d,ar⟩:=d4 q (ch an);exact ⟨d,ar,d3 q d ar⟩
  have T:o2 (dV E g.aB) ds:=⟨d2,λq v d an ar=>by obtain ⟨U,j,w⟩:=y an;rw [ar] at w;cases w;obtain ⟨bj,o,O⟩:=M q d j;rw [an] at o;cases o;exact O.imp id λx=>⟨x.1,x.2.1⟩⟩
  have hlen:(e6 t C).length<=g.aB+1:=by rw [i,dH,s3];omega
  rcases T.cases with f | ⟨Vw,d5,Z,Vx⟩
  ·have au:∀ {q:Nat} {v:aP},(dV E g.aB)[q]?=some v->∃ d,g.bs q=some d/\ds[q]?=some d/\d.code=0:=λ{q v} an=>by obtain ⟨d,j,w⟩:=y an;exact ⟨d,j,w,(f.each q v d an w).1⟩
   obtain e | e | e | e | e:g.aB=0\/g.aB=1\/g.aB=2\/g.aB=3\/g.aB=4:=by omega
   ·unfold eZ at c;rw [e] at c D f au hlen;obtain ⟨J,P,H,Vu⟩:=c;refine rL ay r h s G K u r1 (by omega) (p:=1) (by omega) (by omega) (by rw [i];exact D.next ay (by omega) (by omega) f (by omega)) hlen ⟨λm hm=>?_,J,λq p z=>⟨λ_=>H 0 (by omega) p (cg z),λd e=>by cases e⟩⟩ ?_
    ·obtain ⟨d,j,_,o⟩:=au (q:=m) (v:=cw m 56 (gP E)) (by simp [dV,ka hm]);exact Vu m hm d j o
    ·rw [e,<-xY ay];have:=Kw ay.e ay.bN;show cost (dF (E.a1 0))+70<=106;omega
   ·unfold eZ at c;rw [e] at c D f au hlen;obtain ⟨J,P,H⟩:=c;have S:∀ {q:Nat} {p:aJ},(bJ E)[q]?=some p->∃ d,g.bs q=some d/\ds[q]?=some d/\d.code=0:=λ{q p} z=>au (q:=q) (v:=fR 0 (p.bn * 8) p.Head (eJ p.Head 0)) (by simp only [dV];rw [d',z];rfl)
    have Vy:vQ E ds:=λq p d z ar=>by obtain ⟨U,j,w,o⟩:=S z;rw [ar] at w;cases w;exact ((H q p z).2 d j o).1
    refine rL ay r h s G K u r1 (by omega) (p:=2) (by omega) (by omega) (by rw [i];exact D.next ay (by omega) (by omega) f (λ_=>Vy)) hlen ⟨J,λ_=>?_,λm _ d e=>by cases e⟩ ?_
    ·by_cases ar:iZ E A
     ·exact .inr ar
     ·refine .inl λp z=>?_
      obtain ⟨q,u⟩:=eF.1 z;obtain ⟨U,j,w,o⟩:=S u;rcases ((H q p u).2 U j o).2 with g | g
      ·exact g
      ·exact absurd g ar
    ·rw [e,<-Cx ay];have:=Kv ay.e ay.bN;show cost (nI (E.a1 0))+65<=70;omega
   ·unfold eZ at c;rw [e] at c D f au hlen;obtain ⟨J,P,H⟩:=c;have R:im E A:=λm hm=>by obtain ⟨d,j,_,o⟩:=au (q:=m) (v:=cw m 48 [h4 E]) (by simp [dV,ka hm]);exact H m hm d j o
    have L:=D.next ay (by omega) (by omega) f (by omega);rw [<-i] at L;by_cases X:E.n=1
    ·refine rL ay r h s G K u r1 (by omega) (p:=4) (by omega) (by omega) (L.skip ay X) (by omega) ⟨R,λm _ _=>by omega,λq v d _ e=>by cases e⟩ ?_;rw [e,<-yr ay];have:=CA ay.e ay.bN;show cost (hU (E.a1 0))+0<=65;omega
    ·refine rL ay r h s G K u r1 (by omega) (p:=3) (by omega) (λ_=>by omega) L hlen ⟨R,λq v d _ e=>by cases e⟩ ?_;rw [e,<-Cy ay];have:=If ay.e ay.bN;show cost (p8 (E.a1 0))+13<=65;omega
   ·unfold eZ at c;rw [e] at c D f au hlen Vt;obtain ⟨J,P⟩:=c;refine rL ay r h s G K u r1 (by omega) (p:=4) (by omega) (by omega) (by rw [i];exact D.next ay (by omega) (λ_=>Vt rfl) f (by omega)) hlen ⟨J,λm X Vv=>?_,λq v d _ e=>by cases e⟩ ?_
    ·obtain ⟨q,u⟩:=Er (l:=bJ E) X Vv;obtain ⟨d,j,_,o⟩:=au (q:=q) u;exact (P q _ d u j o).2 m rfl
    ·rw [e,<-yr ay];have:=CA ay.e ay.bN;show cost (hU (E.a1 0))+0<=13;omega
   ·unfold eZ at c;rw [e] at c D f au hlen;obtain ⟨J,P,H⟩:=c;have L:=D.next ay (by omega) (by omega) f (by omega);rw [<-i] at L;refine Es ay r h s G K u r1 (by omega) (by omega) (p:=6) (.inl rfl) (L.done ay) (λ_=>⟨rfl,J,?_,λp z=>?_⟩) (by omega)
    ·obtain ⟨d,j,_,o⟩:=au (q:=0) (v:=cw 0 32 [c7 E]) rfl;exact (H 0 _ d rfl j o).2 0 rfl
    ·obtain ⟨k,L⟩:=eF.1 z;have B:(fV E (bJ E))[k+1]?=some (fz 0 p):=by unfold fV;rw [nO,d',L];rfl
     obtain ⟨d,j,_,o⟩:=au (q:=k+1) B;exact (H _ _ d B j o).1 0 p z rfl
  ·have Vr:∃ m,m<E.n/\A.dh m=true:=by
    obtain ⟨q,B⟩:=eF.1 Z;have Vs:q<(dV E g.aB).length:=by rw [<-d2];exact ch B
    obtain ⟨U,j,w⟩:=y (bF Vs);rw [B] at w;cases w;obtain ⟨v,o,O⟩:=M q d5 j;rcases O with O | ⟨_,_,O⟩
    ·omega
    ·have:=(y4 ay o).1.node;exact ⟨_,by omega,O⟩
   refine Es ay r h s G K u r1 (by omega) (by omega) (p:=7) (.inr rfl) (by rw [i];exact D.ref ay V Vt T Vw) (by omega) λ_=>⟨_,rfl,λI=>?_,λI=>?_,Vr⟩
   ·unfold eZ at c;obtain e | e | e | e | e:g.aB=0\/g.aB=1\/g.aB=2\/g.aB=3\/g.aB=4:=by omega
    ·rw [e] at c;exact c.1
    ·rw [e] at c;exact c.2.1
    all_goals
     rw [e] at I;cases I
   ·unfold eZ at c;obtain e | e | e | e | e:g.aB=0\/g.aB=1\/g.aB=2\/g.aB=3\/g.aB=4:=by omega
    ·rw [e] at I;cases I
    ·rw [e] at I;cases I
    ·rw [e] at I;cases I
    ·rw [e] at c;exact c.1
    ·rw [e] at c;exact c.1
 ·have N:cV F t=(F,t):=BZ (by rw [s.dj];exact Bo h.g8 G u);unfold qp;rw [N];exact ⟨g,h,s,cO _,λ_ _=>rfl,.inr (.inr ⟨V,C,G,u⟩),λe=>by omega⟩
structure o9 (E:Env) (c:Nat) (g:c8) (t:fQ):Prop where
 dj:t.a3=(c:Int)
 bN:t.bN=.inr (cv E c)
 bad:t.bad=false
 run:g.aB<=9->t.eK=false/\Kp E c t.a7 (ez E c g)/\cM E c g≠[]/\t.a7.length<=mK g.aB
 fin:g.aB=10->t.eK=true/\t.out=.inr ⟨0,g.c3.1,g.c3.2,jA E.L g.cG g.aT,0⟩/\t.a7.length<=9
 busy:g.aB=11->t.eK=true/\∃ w,t.out=.inr ⟨3,0,0,0,w⟩
 new:g.aB=12->t.eK=false/\t.a7=[]
theorem o9.az {a:c8} {t:fQ} (h:o9 E c s t) (b:a.bare=s.bare):o9 E c a t:=by
 have d:=yN b;have e:ez E c a=ez E c s:=by
  have:ez E c a.bare=ez E c s.bare:=by rw [b]
  exact this
 have f:cM E c a=cM E c s:=by
  have:cM E c a.bare=cM E c s.bare:=by rw [b]
  exact this
 have g:a.c3=s.c3:=by
  have:a.bare.c3=s.bare.c3:=by rw [b]
  exact this
 have i:a.cG=s.cG:=by
  have:a.bare.cG=s.bare.cG:=by rw [b]
  exact this
 have j:a.aT=s.aT:=by
  have:a.bare.aT=s.bare.aT:=by rw [b]
  exact this
 exact ⟨h.dj,h.bN,h.bad,by rw [d,e,f];exact h.run,by rw [d,g,i,j];exact h.fin,by rw [d];exact h.busy,by rw [d];exact h.new⟩
theorem hx.FR (h:hx E rs F A g gr) (o:∀ c ∈ rs,1<=c/\c<6) (f:c ∈ rs) (B:F.aX[c]?=some C) (H:cp (g0 F c C')) (D:j4 E.n C') (z:s.aB<=9->gB C' (cM E c s) s.bs/\(s.aB=3->ql C' F.nodes)) (d:10<=s.aB->C'.batch=none/\hr C') (l:cB E rs A F.nodes (hN gr c s) c) (b:lx E s) (a:l4 E c s) (x:s.aB<=11) (hw:gE (gr c)->gE s) (i:hY (gr c)->hY s):hx E rs (g0 F c C') A g (hN gr c s):=by
 have G:=o c f;refine ⟨H,h.lines,h.ib,by simpa [g0] using h.rT,h.rep,h.law,lL h.uG rfl i,?_,h.qP,h.uz,h.xd,λk j=>?_,λk j=>?_,h.uf,λI=>(by have:=I c f;rw [eR] at this;omega),λk r w p y=>h.rest k r w p (by rw [<-oK (λe=>p (by rw [e];exact f))];exact y)⟩
 ·obtain ⟨q,t,u⟩:=h.cz;exact ⟨q,by rw [oK (by omega)];exact t,u⟩
 ·by_cases e:k=c
  ·subst e;rw [eR];exact ⟨C',pB B,D,z,d⟩
  ·rw [jT e,oK e];exact h.qV k j
 ·by_cases e:k=c
  ·subst e;rw [eR];exact ⟨l,b,a,by omega⟩
  ·obtain ⟨J,K,L,M⟩:=h.oq k j;rw [jT e];exact ⟨J.stay (jT e) (vl hw),K,L,M⟩
def tI (E:Env) (rs:cQ) (F:aM) (A:bA) (g:gC) (gr:Nat->c8) (c:Nat) (t:fQ):Prop:=
 ∃ s,hx E rs (cV F t).1 A g (hN gr c s)/\o9 E c s (cV F t).2/\dS (cV F t).1 c+gx s.aB<=dS F c+gx (gr c).aB/\(∀ k,k≠c->(cV F t).1.aX[k]?=F.aX[k]?)/\(s.aB=10\/s.aB=11\/s.aB<=9/\∃ C,(cV F t).1.aX[c]?=some C/\¬ hr C)/\((gr c).aB=10\/(gr c).aB=11->cV F t=(F,t)/\s=gr c)
theorem Dx (gr:Nat->c8) (c:Nat):hN gr c (gr c)=gr:=by funext k;unfold hN;split<;>simp_all
theorem OQ (ay:b5 E) {bz:List a0} (h:cB E rs A bz gr c) (r:(gr c).aB<=9):∀ v ∈ cM E c (gr c),h9 E.n E.L v:=by
 have b:=ay.e.n;have s:=ay.e.L;have o:=ay.mn;have a:1<=E.L/\E.L<=256:=by omega
 unfold cB at h;intro v an;unfold cM at an;split at an
 ·obtain ⟨m,hm,rfl⟩:=cW.1 an;exact nC b.2 (fE.1 hm) a (by omega) (by omega) (by omega) (.inr (by omega))
 ·rename_i e;rw [e] at h;obtain ⟨m,hm,rfl⟩:=cW.1 an;exact oF b.2 (h.2.1 m hm) a (by omega) (by omega)
 ·simp only [gW,nR] at an;subst an;exact oF b.2 (by omega) a (by omega) (by omega)
 ·obtain ⟨q,i⟩:=eF.1 an;rcases ze i with ⟨m,hm,⟨_,rfl⟩ | ⟨_,rfl⟩⟩ | ⟨_,rfl⟩
  ·exact nC b.2 hm a (by omega) (by omega) (by omega) (.inr (by omega))
  ·exact nC b.2 hm a (by omega) (by omega) (by omega) (.inl (by omega))
  ·exact nC b.2 (by omega) a (by omega) (by omega) (by omega) (.inl (by omega))
 ·rename_i e;rw [e] at h;have j:=ay.lC;obtain ⟨q,i⟩:=eF.1 an;obtain ⟨k,m,hm,d⟩:=Ez i;have f:=h.2.2.2.2.2.1 m (cg hm);rcases d with ⟨_,rfl⟩ | ⟨_,rfl⟩ | ⟨_,rfl,_⟩
  ·exact nJ b.2 f (by omega) (by omega) (by simp) (by simp) (by simp;omega)
  ·exact nJ b.2 f (by omega) (by omega) (by omega) (by omega) (by rw [j.1];omega)
  ·exact nJ b.2 f (by omega) (by omega) (by simp) (by simp) (by simp;omega)
 ·obtain ⟨p,g,rfl⟩:=cW.1 an;have l:=ay.pl g;exact nC b.2 (by omega) a (by omega) (by omega) (by omega) (.inl (by omega))
 ·rename_i e;rw [e] at h;obtain ⟨q,i⟩:=eF.1 an;obtain ⟨m,hm,_,⟨p,g,rfl⟩ | ⟨rfl,_⟩⟩:=vR i
  ·exact rA ay hm (h.2.2.1.1 p g)
  ·exact rm ay hm
 ·rename_i e;rw [e] at h;obtain ⟨q,i⟩:=eF.1 an;obtain ⟨_,⟨_,rfl⟩ | ⟨_,p,g,rfl⟩⟩:=vS i
  ·exact rm ay (by omega)
  ·exact rA ay (by omega) (h.2.2.2.1.1 p g)
 ·rename_i e;rw [e] at h;obtain ⟨p,g,rfl⟩:=cW.1 an;have:=h.2.2.2.2.1 p g;exact oF b.2 (by omega) a (by omega) (by omega)
 ·simp only [gF,nR] at an;subst an;exact oF b.2 (by omega) a (by omega) (by omega)
 ·cases an
theorem Et (ay:b5 E) (J:∀ c ∈ rs,1<=c/\c<6) (h:hx E rs F A g gr) (S:c ∈ rs) {t:fQ} (r:o9 E c (gr c) t) (p:F.aX[c]?=some C) (B:j4 E.n C) (O:hr C) (T:t.eK=false) (Y:(gr c).aB≠10/\(gr c).aB≠11) (i:(e6 t C).length<=mK s.aB) (f:iY E rs A F.nodes gr c (e6 t C) s):tI E rs F A g gr c t:=by
 have X:=ay.e.n;have hw:=Ar h.g8 p O;have z:∀ {vs:List aP} {o:dz} {b:Bool},fu (cv E c) (e6 t C)=(vs,o,b)->g4.conv.next t.bN (e6 t C)=(vs,.inr o,b):=λ{vs o b} Q=>by rw [r.bN];show ((fu (cv E c) (e6 t C)).1,Sum.inr (fu (cv E c) (e6 t C)).2.1,(fu (cv E c) (e6 t C)).2.2)=_;rw [Q];rfl
 have j:l4 E c s:=λq d e=>by rw [f.bs] at e;cases e
 have N:=h.g8.cV t;have x:∀ k,k<=11->mK k<=200:=λk H=>by unfold mK;split<;>omega
 unfold tI;rcases f.go with ⟨u,M,V,P,Vs,W⟩ | ⟨u,M⟩ | ⟨u,w,M⟩
 ·have D:=OQ (gr:=hN gr c s) ay f.ok (by rw [eR];exact u);rw [eR] at D;have G:=BI (n:=E.n) (L:=E.L) p B.live hw r.dj T (ll i (x _ (by omega))) (z M) P W h.rep.len X.2 h.lines D;have I:=Bp h.g8 p B O (vs:=cM E c s) λv an=>by have:=(D v an).node;omega
  rw [G] at N ⊢;refine ⟨s,h.FR J S p N I.base (λ_=>⟨by rw [f.bs];exact I.mb,λ_ k l y H Vt a n U _=>?_⟩) (λe=>by omega) f.ok f.xr j (by omega) f.uK f.holds,⟨r.dj,r.bN,r.bad,λ_=>⟨rfl,V,P,i⟩,λe=>by omega,λe=>by omega,λe=>by omega⟩,?_,λk H=>oK H,.inr (.inr ⟨u,_,pB p,I.busy P⟩),λe=>by omega⟩
  ·obtain ⟨Z,Vr⟩:=I.zero k l H;rw [Z,Vr];simp
  ·have K:dS (g0 F c (({ C with batch:=none }:bP).kz (cM E c s))) c=cost (cM E c s):=by unfold dS;rw [pB p];exact I.iA
   show dS (g0 F c _) c+gx s.aB<=_;rw [K];omega
 all_goals
  have G:=BJ p B.live hw r.dj T (ll i (x _ (by omega))) (z M);rw [G] at N ⊢;have K:dS (g0 F c ({ C with batch:=none }:bP)) c=0:=by unfold dS;rw [pB p];exact uF O
  have R:gx s.aB=0:=by rw [u];rfl
  refine ⟨s,h.FR J S p N ⟨B.inc,B.live,B.aD,B.m7⟩ (λe=>by omega) (λ_=>⟨rfl,O⟩) f.ok f.xr j (by omega) f.uK f.holds,⟨r.dj,r.bN,r.bad,λe=>by omega,λe=>?_,λe=>?_,λe=>by omega⟩,?_,λk H=>oK H,?_,λe=>by omega⟩
 ·refine ⟨rfl,rfl,?_⟩;rw [u] at i;exact i
 ·omega
 ·show dS (g0 F c _) c+gx s.aB<=_;rw [K,R];omega
 ·exact .inl u
 ·omega
 ·exact ⟨rfl,w,rfl⟩
 ·show dS (g0 F c _) c+gx s.aB<=_;rw [K,R];omega
 ·exact .inr (.inl u)
theorem OR (ay:b5 E) (j:∀ c ∈ rs,1<=c/\c<6) (h:hx E rs F A g gr) (o:c ∈ rs) {t:fQ} (b:o9 E c (gr c) t):tI E rs F A g gr c t:=by
 have V:=ay.e.n;have f:=j c o;obtain ⟨C,r,D,M,N⟩:=h.qV c o;obtain ⟨P,Q,H,W⟩:=h.oq c o;by_cases l:(gr c).aB=10\/(gr c).aB=11
 ·have K:t.eK=true:=by
   rcases l with e | e
   ·exact (b.fin e).1
   ·exact (b.busy e).1
  have k:cV F t=(F,t):=by unfold cV;rw [if_pos (.inl K)]
  unfold tI;rw [k];exact ⟨gr c,by rw [Dx];exact h,b,cO _,λ_ _=>rfl,l.imp id .inl,λ_=>⟨rfl,rfl⟩⟩
 by_cases i:(gr c).aB=12
 ·obtain ⟨lJ,O⟩:=b.new i;obtain ⟨R,S⟩:=N (by omega);have a:e6 t C=[]:=by unfold e6;rw [R];exact O
  refine Et ay j h o b r D S lJ (by omega) (s:=lG 0) (by rw [a];exact uU _) ?_;rw [a];exact Ob ay f i
 have p:(gr c).aB<=9:=by omega
 obtain ⟨r1,T,U,X⟩:=b.run p;obtain ⟨w,_⟩:=M p;by_cases u:hr C
 ·obtain ⟨ds,d1,d2,d3,d4⟩:=w.all u;have a:e6 t C=t.a7++[ds]:=by unfold e6;rw [d1]
  have x:kf E c (gr c) ds:=by refine ⟨⟨d2,λq v d an ar=>?_⟩,d3,d4⟩;obtain ⟨I,y⟩:=d4 q (ch an);have z:=d3 q I y;rw [ar] at z;cases z;obtain ⟨bj,B,J⟩:=H q d y;rw [an] at B;cases B;exact J
  obtain ⟨s,G⟩:=S9 ay f h.rep h.law h.uf p U Q H T P x;have L:mK (gr c).aB<mK s.aB:=G.up.resolve_left i;refine Et ay j h o b r D u r1 (by omega) (s:=s) ?_ (by rw [a];exact G);rw [a,dH,s3];omega
 ·have k:cV F t=(F,t):=BZ (by rw [b.dj];exact Bo h.g8 r u);unfold tI;rw [k];exact ⟨gr c,by rw [Dx];exact h,b,cO _,λ_ _=>rfl,.inr (.inr ⟨p,C,r,u⟩),λe=>by omega⟩
end
end
section
open e1
theorem tg {f g:Nat->Nat}:∀ {l:cQ},(∀ k ∈ l,f k<=g k)->(l.map f).sum<=(l.map g).sum
 | [],_=>by simp
 |a::l,h=>by
  have:=tg λk b=>h k (fD _ b)
  have:=h a e_;simp only [gA,j_];omega
theorem DB {f g:Nat->Nat}:∀ {l:cQ},(∀ k ∈ l,f k<=g k)->∀ {i:Nat},i ∈ l->f i<g i->(l.map f).sum<(l.map g).sum
 | [],_,_,b,_=>by cases b
 |a::l,h,i,b,d=>by
  have j:=tg λk c=>h k (fD _ c)
  have n:=h a e_;simp only [gA,j_];rcases e9.1 b with e | e
  ·subst e;omega
  ·have:=DB (λk c=>h k (fD _ c)) e d;omega
end
end Go.Proofs.YtmkljjbioomepaaGreat
