import Derived.Test.YtmkljjbioomepaaGreatd38
import Derived.Test.YtmkljjbioomepaaGreatd35
set_option linter.all false
namespace Go.Proofs.YtmkljjbioomepaaGreat
open Go.Proofs.Tryz Go.bs
variable {C C':bh} {F:aE} {c i p:Nat} {bW:f7} {s:c5}
section
open e7
theorem CX:∀ (vs:List aQ) {C:bh} {k m:Nat} {l:cA},(C.fc k vs).az[m]?=some l->∃ cN,C.az[m]?=some cN/\l.pair.words=cN.pair.words/\l.pair.bz=cN.pair.bz
 | [],C,k,m,l,h=>⟨l,h,rfl,rfl⟩
 |v::vs,C,k,m,l,h=>by
  obtain ⟨c9,a,c,d⟩:=CX vs (C:=C.e5 k v) (k:=k+1) h;unfold bh.e5 at a;simp only [rA] at a;cases b:C.az[m]? with
  |none=>rw [b] at a;simp at a
  |some cN=>
   rw [b] at a;refine ⟨cN,rfl,c.trans ?_,d.trans ?_⟩;all_goals
    by_cases e:v.node.toNat=m
    ·simp [e] at a;subst a;rfl
    ·simp [e] at a;subst a;rfl
structure Pz (n:Nat) (C':bh) (vs:List aQ):Prop where
 base:kr n C'
 mu:gO C' vs hn
 zero:∀ (k:Nat) (l:cA),C'.az[k]?=some l->l.pair.bz=0/\l.pair.words=[]
 iQ:iQ C'=cost vs
 busy:vs≠[]->¬ hE C'
section
variable {F:aE} {i n:Nat} {C:bh}
theorem JW (e:cd F) (d:F.aR[i]?=some C) (f:hE C) (k:Nat) (l:cA) (b:C.az[k]?=some l):l.pair.a3=[]/\l.bC=[]/\l.pair.bz=0/\l.pair.words=[]:=by have al:=f k l b;have c:=((e.b8.ok.aW i C d).lane k l b).bC;rw [al] at c;have a:=e.b8.cE C (b5 d) l (b5 b);exact ⟨al,lI.1 c,a.idle al,a.zero (a.idle al)⟩
theorem Bg (c:cd F) (b:F.aR[i]?=some C) (e:hE C):C.waiting=0:=by
 rw [(c.b8.ok.aW i C b).waiting];unfold gz;have:∀ ls:List cA,(∀ l ∈ ls,l.pair.a3=[])->(ls.map λl=>l.pair.a3.length).sum=0:=λls=>by
  induction ls with
  |nil=>intro _;rfl
  |cons l ls g=>intro a;rw [gj,jI,g λx f=>a x (fw _ f),a l eO];rfl
 exact this C.az λl a=>by obtain ⟨k,d⟩:=ei.1 a;exact e k l d
theorem CY (b:cd F) (a:F.aR[i]?=some C) (d:¬ hE C):0<F.waiting (i:Int):=by
 unfold aE.waiting;rw [h9,a];show 0<C.waiting;rw [(b.b8.ok.aW i C a).waiting];rcases vp (gz C.az) with e | e
 ·exact absurd (λk l c=>u7 e l (b5 c)) d
 ·exact e
theorem CZ (x:cd F) (w:F.aR[i]?=some C) (f:kr n C) (r:hE C) {vs:List aQ} (p:∀ v ∈ vs,v.node.toNat<n):Pz n (({ C with batch:=none }:bh).j0 vs) vs:=by
 have c:=JW x w r;have b:∀ v ∈ vs,v.node.toNat<({ C with batch:=none }:bh).az.length:=λv al=>by show _<C.az.length;rw [f.az];exact p v al
 have d:gO (({ C with batch:=none }:bh).j0 vs) vs hn:=gO.post f.live (λk l a=>⟨(c k l a).1,(c k l a).2.1⟩) b;obtain ⟨h,g⟩:=BX vs ({ C with batch:=none }:bh) 0;have au:∀ (k:Nat) (l:cA),(({ C with batch:=none }:bh).j0 vs).az[k]?=some l->l.pair.bz=0/\l.pair.words=[]:=λk l a=>by obtain ⟨cN,q,t,u⟩:=CX vs (C:=({ C with batch:=none }:bh)) (k:=0) (l:=l) a;rw [t,u];exact ⟨(c k cN q).2.2.1,(c k cN q).2.2.2⟩
 refine ⟨⟨g.trans f.inc,d.live,h.trans f.az,λk l a v e0 _ _=>(au k l a).2⟩,d,au,?_,λj o=>?_⟩
 ·have:=DJ vs (C:=({ C with batch:=none }:bh)) (k:=0) (λm l a=>(c m l a).2.2.1) b;have s:iQ ({ C with batch:=none }:bh)=0:=u_ r;rw [s,gM] at this;exact this
 ·obtain ⟨v,e0,e⟩:=rv j;obtain ⟨k,l,a,hm⟩:=d.left 0 (by rw [e];simp) rfl;have:=(d.lane k l a).len;rw [o k l a] at this;rw [lI.1 this] at hm;cases hm
end
theorem pM (h:F.aR[i]?=some C):(hd F i C').aR[i]?=some C':=g5 (b3 h)
theorem oX {k:Nat} (h:k≠i):(hd F i C').aR[k]?=F.aR[k]?:=gN (λe=>h e.symm)
abbrev e3:=bJ gP.conv
structure om (E:Env) (A:bu) (g:f7) (t:e3):Prop where
 cE:t.aW=((0:Nat):Int)
 bQ:t.bQ=.inl (E.a9 0)
 bad:t.bad=false
 run:g.aC<=4->t.e4=false/\j7 E g.aC t.a7/\(g.aC=3->1<E.n)/\t.a7.length<=g.aC
 fin:g.aC=6->t.e4=true/\t.out=.inl (0,3)
 ref:g.aC=7->t.e4=true/\∃ f,t.out=.inl (5,f)/\(f=1->gk E A)/\(f=3->h5 E A)/\∃ m,m<E.n/\A.dj m=true
 new:g.aC=8->t.e4=false/\t.a7=[]
 aC:g.aC<=8/\g.aC≠5
theorem om.aA {E:Env} {A A':bu} {g:f7} {t:e3} (h:om E A g t) (i:bW.aC=g.aC) (j:5<=g.aC->oj E A A'):om E A' bW t:=by refine ⟨h.cE,h.bQ,h.bad,by rw [i];exact h.run,by rw [i];exact h.fin,λe=>?_,by rw [i];exact h.new,by rw [i];exact h.aC⟩;rw [i] at e;obtain ⟨a,f,b,c,d,m,k,l⟩:=h.ref e;have j:=j (by omega);exact ⟨a,f,b,λe=>j.qX (c e),λe=>j.mono.am (d e),m,k,j.mono.dj m l⟩
section
variable {E:Env} {rs:cT} {F:aE} {A:bu} {g:f7} {gr:Nat->c5}
theorem gQ.GK (h:gQ E rs F A g gr) (a:0 ∉ rs) (o:F.aR[0]?=some C) (q:cd (hd F 0 C')) (p:kr E.n C') (k:bW.aC<=4->gO C' (d8 E bW.aC) bW.bt/\(bW.aC=0->pa E C' F.nodes)) (l:5<=bW.aC->C'.batch=none/\hE C') (s:e1 E A bW) (t:ns E A bW) (r:bW.aC≠8):gQ E rs (hd F 0 C') A bW gr:=
 ⟨q,h.lines,h.gX,by simpa [hd] using h.qF,h.rep,h.law,h.u6,⟨C',pM o,p,k,l⟩,s,t,λe=>absurd e r,λc d=>by rw [oX (λe=>a (by rw [<-e];exact d))];exact h.q6 c d,h.mJ,h.uM,h.op,λc f b i j=>h.rest c f b i (by rw [<-oX b];exact j)⟩
def qz (E:Env) (rs:cT) (F:aE) (A:bu) (g:f7) (gr:Nat->c5) (t:e3):Prop:=
 ∃ bW,gQ E rs (bN F t).1 A bW gr/\om E A bW (bN F t).2/\dW (bN F t).1 0+oO bW.aC<=dW F 0+oO g.aC/\(∀ k,k≠0->(bN F t).1.aR[k]?=F.aR[k]?)/\(bW.aC=6\/bW.aC=7\/bW.aC<=4/\∃ C,(bN F t).1.aR[0]?=some C/\¬ hE C)/\(g.aC=6\/g.aC=7->bN F t=(F,t)/\bW=g)
theorem NU (ay:cg E) (p:Nat):(d8 E p).length<=1024:=by
 have b:=ay.e.n;have a:=ay.lS;unfold d8;split
 ·simp;omega
 ·simp;omega
 ·simp;omega
 ·exact (Ea b.2 a.2).2
 ·exact (D' (E:=E) a.2).2
theorem r5 (ay:cg E) (u:0 ∉ rs) (h:gQ E rs F A g gr) {t:e3} (o:om E A g t) (c:F.aR[0]?=some C) (D:kr E.n C) (s:hE C) (N:t.e4=false) (M:g.aC≠6/\g.aC≠7) (z:p<=4) (b:p=3->1<E.n) (f:j7 E p (fb t C)) (J:(fb t C).length<=p) (x:e1 E A ⟨p,hn⟩) (I:cost (d8 E p)+oO p<=oO g.aC):qz E rs F A g gr t:=by
 have K:=ay.e.n;have w:gP.conv.next t.bQ (fb t C)=(d8 E p,.inl (0,0),false):=by rw [o.bQ];show ((ed (E.a9 0) (fb t C)).1,Sum.inl (ed (E.a9 0) (fb t C)).2.1,(ed (E.a9 0) (fb t C)).2.2)=_;rw [f.ask ay z b];rfl
 have a:=rJ ay p z b;have r:∀ v ∈ d8 E p,iw E.n E.L v:=λv al=>by obtain ⟨q,s⟩:=ei.1 al;exact (zI ay s).1
 have B:=CU (n:=E.n) (L:=E.L) c D.live (Bg h.fl c s) o.cE N (by omega) w a (NU ay p) h.rep.len K.2 h.lines r;have j:=CZ h.fl c D s (vs:=d8 E p) λv al=>by have:=(r v al).node;omega
 have G:=h.fl.bN t;unfold qz;rw [B] at G ⊢;refine ⟨⟨p,hn⟩,h.GK u c G j.base (λ_=>⟨j.mu,λ_ k l y f O i _ he=>?_⟩) (λe=>absurd e (by show ¬ 5<=p;omega)) x (λq d e=>by cases e) (by show p≠8;omega),⟨o.cE,o.bQ,o.bad,λ_=>⟨rfl,f,b,J⟩,λe=>by have:p=6:=e;omega,λe=>by have:p=7:=e;omega,λe=>by have:p=8:=e;omega,by show p<=8/\p≠5;omega⟩,?_,λk f=>oX f,.inr (.inr ⟨z,_,pM c,j.busy a⟩),λe=>by omega⟩
 ·rw [(j.zero k l f).1] at he;omega
 ·have H:dW (hd F 0 (({ C with batch:=none }:bh).j0 (d8 E p))) 0=cost (d8 E p):=by unfold dW;rw [pM c];exact j.iQ
  show dW (hd F 0 _) 0+oO p<=_;rw [H];omega
theorem Fs (ay:cg E) (u:0 ∉ rs) (h:gQ E rs F A g gr) {t:e3} (l:om E A g t) (s:F.aR[0]?=some C) (r:kr E.n C) (z:hE C) (K:t.e4=false) (w:(fb t C).length<=200) (J:g.aC≠6/\g.aC≠7) (y:p=6\/p=7) {o:Int×Int} (j:ed (E.a9 0) (fb t C)=([],o,true)) (c:p=6->o=(0,3)/\oa E A) (i:p=7->∃ f,o=(5,f)/\(f=1->gk E A)/\(f=3->h5 E A)/\∃ m,m<E.n/\A.dj m=true):qz E rs F A g gr t:=by
 have L:=ay.e.n;have j:gP.conv.next t.bQ (fb t C)=([],.inl o,true):=by rw [l.bQ];show ((ed (E.a9 0) (fb t C)).1,Sum.inl (ed (E.a9 0) (fb t C)).2.1,(ed (E.a9 0) (fb t C)).2.2)=_;rw [j];rfl
 have B:=CV s r.live (Bg h.fl s z) l.cE K w j;have D:=h.fl.bN t;unfold qz;rw [B] at D ⊢;have x:e1 E A ⟨p,hn⟩:=by
  unfold e1;rcases y with e | e
  ·subst e;exact (c rfl).2
  ·subst e;trivial
 refine ⟨⟨p,hn⟩,h.GK u s D ⟨r.inc,r.live,r.az,r.nz⟩ (λe=>absurd e (by show ¬ p<=4;clear c i;omega)) (λ_=>⟨rfl,z⟩) x (λq d e=>by cases e) (by show p≠8;clear c i;omega),⟨l.cE,l.bQ,l.bad,λe=>by have:p<=4:=e;clear c i;omega,λe=>⟨rfl,by show Sum.inl o=_;rw [(c e).1]⟩,λe=>?_,λe=>by have:p=8:=e;clear c i;omega,by show p<=8/\p≠5;clear c i;omega⟩,?_,λk I=>oX I,y.imp id .inl,λe=>by clear c i;omega⟩
 ·obtain ⟨f,a,b⟩:=i e;exact ⟨rfl,f,congrArg Sum.inl a,b⟩
 ·have G:dW (hd F 0 ({ C with batch:=none }:bh)) 0=0:=by unfold dW;rw [pM s];exact u_ z
  have H:oO p=0:=by rcases y with e | e<;>subst e<;>rfl
  show dW (hd F 0 _) 0+oO p<=_;rw [G,H];omega
theorem Qv (ay:cg E) (r:0 ∉ rs) (h:gQ E rs F A g gr) {t:e3} (s:om E A g t):qz E rs F A g gr t:=by
 have XH:=ay.e.n;obtain ⟨C,G,K,XD,XE⟩:=h.cB;obtain ⟨XJ,XI⟩:=s.aC;by_cases P:g.aC=6\/g.aC=7
 ·have XC:t.e4=true:=by
   rcases P with e | e
   ·exact (s.fin e).1
   ·exact (s.ref e).1
  have N:bN F t=(F,t):=by unfold bN;rw [if_pos (.inl XC)]
  unfold qz;rw [N];exact ⟨g,h,s,cY _,λ_ _=>rfl,P.imp id .inl,λ_=>⟨rfl,rfl⟩⟩
 by_cases V:g.aC=8
 ·obtain ⟨kI,fA⟩:=s.new V;obtain ⟨XF,XG⟩:=XE (by omega);have i:fb t C=[]:=by unfold fb;rw [XF];exact fA
  obtain ⟨a,b,d⟩:=h.xU V;refine r5 ay r h s G K XG kI (by omega) (p:=0) (by omega) (by omega) (by rw [i];exact R4) (by rw [i];exact cY _) ⟨a,b,d,λm _ d e=>by cases e⟩ ?_;rw [V,<-DG ay];have:=K2 ay.e ay.bQ;show cost (nf (E.a9 0))+106<=700;omega
 have U:g.aC<=4:=by omega
 obtain ⟨r1,D,Xw,XK⟩:=s.run U;obtain ⟨X,_⟩:=XD U;by_cases u:hE C
 ·obtain ⟨ds,d1,d2,d3,d4⟩:=X.all u;have i:fb t C=t.a7++[ds]:=by unfold fb;rw [d1]
  have M:=h.u1;have c:=h.q0;have y:∀ {q:Nat} {v:aQ},(d8 E g.aC)[q]?=some v->∃ d,g.bt q=some d/\ds[q]?=some d:=λ{q v} al=>by obtain ⟨d,aq⟩:=d4 q (b3 al);exact ⟨d,aq,d3 q d aq⟩
  have S:pd (d8 E g.aC) ds:=⟨d2,λq v d al aq=>by obtain ⟨T,j,w⟩:=y al;rw [aq] at w;cases w;obtain ⟨bj,o,O⟩:=M q d j;rw [al] at o;cases o;exact O.imp id λx=>⟨x.1,x.2.1⟩⟩
  have hlen:(fb t C).length<=g.aC+1:=by rw [i,dy,tn];omega
  rcases S.cases with f | ⟨Xz,d5,Y,XA⟩
  ·have au:∀ {q:Nat} {v:aQ},(d8 E g.aC)[q]?=some v->∃ d,g.bt q=some d/\ds[q]?=some d/\d.code=0:=λ{q v} al=>by obtain ⟨d,j,w⟩:=y al;exact ⟨d,j,w,(f.each q v d al w).1⟩
   obtain e | e | e | e | e:g.aC=0\/g.aC=1\/g.aC=2\/g.aC=3\/g.aC=4:=by omega
   ·unfold e1 at c;rw [e] at c D f au hlen;obtain ⟨J,b2,H,Xx⟩:=c;refine r5 ay r h s G K u r1 (by omega) (p:=1) (by omega) (by omega) (by rw [i];exact D.next ay (by omega) (by omega) f (by omega)) hlen ⟨λm hm=>?_,J,λq p z=>⟨λ_=>H 0 (by omega) p (b5 z),λd e=>by cases e⟩⟩ ?_
    ·obtain ⟨d,j,_,o⟩:=au (q:=m) (v:=cD m 56 (g3 E)) (by simp [d8,j6 hm]);exact Xx m hm d j o
    ·rw [e,<-yC ay];have:=K4 ay.e ay.bQ;show cost (dG (E.a9 0))+70<=106;omega
   ·unfold e1 at c;rw [e] at c D f au hlen;obtain ⟨J,b2,H⟩:=c;have R:∀ {q:Nat} {p:aK},(bM E)[q]?=some p->∃ d,g.bt q=some d/\ds[q]?=some d/\d.code=0:=λ{q p} z=>au (q:=q) (v:=f8 0 (p.bm * 8) p.Head (eK p.Head 0)) (by simp only [d8];rw [dS,z];rfl)
    have XB:wC E ds:=λq p d z aq=>by obtain ⟨T,j,w,o⟩:=R z;rw [aq] at w;cases w;exact ((H q p z).2 d j o).1
    refine r5 ay r h s G K u r1 (by omega) (p:=2) (by omega) (by omega) (by rw [i];exact D.next ay (by omega) (by omega) f (λ_=>XB)) hlen ⟨J,λ_=>?_,λm _ d e=>by cases e⟩ ?_
    ·by_cases aq:jq E A
     ·exact .inr aq
     ·refine .inl λp z=>?_
      obtain ⟨q,u⟩:=ei.1 z;obtain ⟨T,j,w,o⟩:=R u;rcases ((H q p u).2 T j o).2 with g | g
      ·exact g
      ·exact absurd g aq
    ·rw [e,<-Fn ay];have:=K3 ay.e ay.bQ;show cost (ng (E.a9 0))+65<=70;omega
   ·unfold e1 at c;rw [e] at c D f au hlen;obtain ⟨J,b2,H⟩:=c;have Q:h5 E A:=λm hm=>by obtain ⟨d,j,_,o⟩:=au (q:=m) (v:=cD m 48 [il E]) (by simp [d8,j6 hm]);exact H m hm d j o
    have L:=D.next ay (by omega) (by omega) f (by omega);rw [<-i] at L;by_cases W:E.n=1
    ·refine r5 ay r h s G K u r1 (by omega) (p:=4) (by omega) (by omega) (L.skip ay W) (by omega) ⟨Q,λm _ _=>by omega,λq v d _ e=>by cases e⟩ ?_;rw [e,<-zc ay];have:=Fr ay.e ay.bQ;show cost (h8 (E.a9 0))+0<=65;omega
    ·refine r5 ay r h s G K u r1 (by omega) (p:=3) (by omega) (λ_=>by omega) L hlen ⟨Q,λq v d _ e=>by cases e⟩ ?_;rw [e,<-DH ay];have:=K5 ay.e ay.bQ;show cost (qi (E.a9 0))+13<=65;omega
   ·unfold e1 at c;rw [e] at c D f au hlen Xw;obtain ⟨J,b2⟩:=c;refine r5 ay r h s G K u r1 (by omega) (p:=4) (by omega) (by omega) (by rw [i];exact D.next ay (by omega) (λ_=>Xw rfl) f (by omega)) hlen ⟨J,λm W Xy=>?_,λq v d _ e=>by cases e⟩ ?_
    ·obtain ⟨q,u⟩:=Fq (l:=bM E) W Xy;obtain ⟨d,j,_,o⟩:=au (q:=q) u;exact (b2 q _ d u j o).2 m rfl
    ·rw [e,<-zc ay];have:=Fr ay.e ay.bQ;show cost (h8 (E.a9 0))+0<=13;omega
   ·unfold e1 at c;rw [e] at c D f au hlen;obtain ⟨J,b2,H⟩:=c;have L:=D.next ay (by omega) (by omega) f (by omega);rw [<-i] at L;refine Fs ay r h s G K u r1 (by omega) (by omega) (p:=6) (.inl rfl) (L.done ay) (λ_=>⟨rfl,J,?_,λp z=>?_⟩) (by omega)
    ·obtain ⟨d,j,_,o⟩:=au (q:=0) (v:=cD 0 32 [dd E]) rfl;exact (H 0 _ d rfl j o).2 0 rfl
    ·obtain ⟨k,L⟩:=ei.1 z;have B:(gd E (bM E))[k+1]?=some (fO 0 p):=by unfold gd;rw [n4,dS,L];rfl
     obtain ⟨d,j,_,o⟩:=au (q:=k+1) B;exact (H _ _ d B j o).1 0 p z rfl
  ·have Z:∃ m,m<E.n/\A.dj m=true:=by
    obtain ⟨q,B⟩:=ei.1 Y;have Xv:q<(d8 E g.aC).length:=by rw [<-d2];exact b3 B
    obtain ⟨T,j,w⟩:=y (bE Xv);rw [B] at w;cases w;obtain ⟨v,o,O⟩:=M q d5 j;rcases O with O | ⟨_,_,O⟩
    ·omega
    ·have:=(zI ay o).1.node;exact ⟨_,by omega,O⟩
   refine Fs ay r h s G K u r1 (by omega) (by omega) (p:=7) (.inr rfl) (by rw [i];exact D.ref ay U Xw S Xz) (by omega) λ_=>⟨_,rfl,λI=>?_,λI=>?_,Z⟩
   ·unfold e1 at c;obtain e | e | e | e | e:g.aC=0\/g.aC=1\/g.aC=2\/g.aC=3\/g.aC=4:=by omega
    ·rw [e] at c;exact c.1
    ·rw [e] at c;exact c.2.1
    all_goals
     rw [e] at I;cases I
   ·unfold e1 at c;obtain e | e | e | e | e:g.aC=0\/g.aC=1\/g.aC=2\/g.aC=3\/g.aC=4:=by omega
    ·rw [e] at I;cases I
    ·rw [e] at I;cases I
    ·rw [e] at I;cases I
    ·rw [e] at c;exact c.1
    ·rw [e] at c;exact c.1
 ·have N:bN F t=(F,t):=yn (by rw [s.cE];exact CY h.fl G u);unfold qz;rw [N];exact ⟨g,h,s,cY _,λ_ _=>rfl,.inr (.inr ⟨U,C,G,u⟩),λe=>by omega⟩
structure mm (E:Env) (c:Nat) (g:c5) (t:e3):Prop where
 cE:t.aW=(c:Int)
 bQ:t.bQ=.inr (cC E c)
 bad:t.bad=false
 run:g.aC<=9->t.e4=false/\Kp E c t.a7 (eA E c g)/\cW E c g≠[]/\t.a7.length<=mY g.aC
 fin:g.aC=10->t.e4=true/\t.out=.inr ⟨0,g.c_.1,g.c_.2,jT E.L g.cO g.aV,0⟩/\t.a7.length<=9
 busy:g.aC=11->t.e4=true/\∃ w,t.out=.inr ⟨3,0,0,0,w⟩
 new:g.aC=12->t.e4=false/\t.a7=[]
theorem mm.aA {a:c5} {t:e3} (h:mm E c s t) (b:a.bare=s.bare):mm E c a t:=by
 have d:=zg b;have e:eA E c a=eA E c s:=by
  have:eA E c a.bare=eA E c s.bare:=by rw [b]
  exact this
 have f:cW E c a=cW E c s:=by
  have:cW E c a.bare=cW E c s.bare:=by rw [b]
  exact this
 have g:a.c_=s.c_:=by
  have:a.bare.c_=s.bare.c_:=by rw [b]
  exact this
 have i:a.cO=s.cO:=by
  have:a.bare.cO=s.bare.cO:=by rw [b]
  exact this
 have j:a.aV=s.aV:=by
  have:a.bare.aV=s.bare.aV:=by rw [b]
  exact this
 exact ⟨h.cE,h.bQ,h.bad,by rw [d,e,f];exact h.run,by rw [d,g,i,j];exact h.fin,by rw [d];exact h.busy,by rw [d];exact h.new⟩
theorem gQ.GL (h:gQ E rs F A g gr) (o:∀ c ∈ rs,1<=c/\c<6) (f:c ∈ rs) (B:F.aR[c]?=some C) (H:cd (hd F c C')) (D:kr E.n C') (z:s.aC<=9->gO C' (cW E c s) s.bt/\(s.aC=3->qv C' F.nodes)) (d:10<=s.aC->C'.batch=none/\hE C') (l:cI E rs A F.nodes (hZ gr c s) c) (b:lN E s) (a:mh E c s) (x:s.aC<=11) (hw:gR (gr c)->gR s) (i:ie (gr c)->ie s):gQ E rs (hd F c C') A g (hZ gr c s):=by
 have G:=o c f;refine ⟨H,h.lines,h.gX,by simpa [hd] using h.qF,h.rep,h.law,l1 h.u6 rfl i,?_,h.q0,h.u1,h.xU,λk j=>?_,λk j=>?_,h.uM,λI=>(by have:=I c f;rw [eS] at this;omega),λk r w p y=>h.rest k r w p (by rw [<-oX (λe=>p (by rw [e];exact f))];exact y)⟩
 ·obtain ⟨q,t,u⟩:=h.cB;exact ⟨q,by rw [oX (by omega)];exact t,u⟩
 ·by_cases e:k=c
  ·subst e;rw [eS];exact ⟨C',pM B,D,z,d⟩
  ·rw [kc e,oX e];exact h.q6 k j
 ·by_cases e:k=c
  ·subst e;rw [eS];exact ⟨l,b,a,by omega⟩
  ·obtain ⟨J,K,L,M⟩:=h.mJ k j;rw [kc e];exact ⟨J.stay (kc e) (vP hw),K,L,M⟩
def uh (E:Env) (rs:cT) (F:aE) (A:bu) (g:f7) (gr:Nat->c5) (c:Nat) (t:e3):Prop:=
 ∃ s,gQ E rs (bN F t).1 A g (hZ gr c s)/\mm E c s (bN F t).2/\dW (bN F t).1 c+g1 s.aC<=dW F c+g1 (gr c).aC/\(∀ k,k≠c->(bN F t).1.aR[k]?=F.aR[k]?)/\(s.aC=10\/s.aC=11\/s.aC<=9/\∃ C,(bN F t).1.aR[c]?=some C/\¬ hE C)/\((gr c).aC=10\/(gr c).aC=11->bN F t=(F,t)/\s=gr c)
theorem Eb (gr:Nat->c5) (c:Nat):hZ gr c (gr c)=gr:=by funext k;unfold hZ;split<;>simp_all
theorem Qw (ay:cg E) {bp:List aN} (h:cI E rs A bp gr c) (r:(gr c).aC<=9):∀ v ∈ cW E c (gr c),iw E.n E.L v:=by
 have b:=ay.e.n;have s:=ay.e.L;have o:=ay.mE;have a:1<=E.L/\E.L<=256:=by omega
 unfold cI at h;intro v al;unfold cW at al;split at al
 ·obtain ⟨m,hm,rfl⟩:=cZ.1 al;exact nW b.2 (fs.1 hm) a (by omega) (by omega) (by omega) (.inr (by omega))
 ·rename_i e;rw [e] at h;obtain ⟨m,hm,rfl⟩:=cZ.1 al;exact oU b.2 (h.2.1 m hm) a (by omega) (by omega)
 ·simp only [g',n3] at al;subst al;exact oU b.2 (by omega) a (by omega) (by omega)
 ·obtain ⟨q,i⟩:=ei.1 al;rcases zV i with ⟨m,hm,⟨_,rfl⟩ | ⟨_,rfl⟩⟩ | ⟨_,rfl⟩
  ·exact nW b.2 hm a (by omega) (by omega) (by omega) (.inr (by omega))
  ·exact nW b.2 hm a (by omega) (by omega) (by omega) (.inl (by omega))
  ·exact nW b.2 (by omega) a (by omega) (by omega) (by omega) (.inl (by omega))
 ·rename_i e;rw [e] at h;have j:=ay.lS;obtain ⟨q,i⟩:=ei.1 al;obtain ⟨k,m,hm,d⟩:=Fy i;have f:=h.2.2.2.2.2.1 m (b5 hm);rcases d with ⟨_,rfl⟩ | ⟨_,rfl⟩ | ⟨_,rfl,_⟩
  ·exact nh b.2 f (by omega) (by omega) (by simp) (by simp) (by simp;omega)
  ·exact nh b.2 f (by omega) (by omega) (by omega) (by omega) (by rw [j.1];omega)
  ·exact nh b.2 f (by omega) (by omega) (by simp) (by simp) (by simp;omega)
 ·obtain ⟨p,g,rfl⟩:=cZ.1 al;have l:=ay.pl g;exact nW b.2 (by omega) a (by omega) (by omega) (by omega) (.inl (by omega))
 ·rename_i e;rw [e] at h;obtain ⟨q,i⟩:=ei.1 al;obtain ⟨m,hm,_,⟨p,g,rfl⟩ | ⟨rfl,_⟩⟩:=wD i
  ·exact rL ay hm (h.2.2.1.1 p g)
  ·exact rM ay hm
 ·rename_i e;rw [e] at h;obtain ⟨q,i⟩:=ei.1 al;obtain ⟨_,⟨_,rfl⟩ | ⟨_,p,g,rfl⟩⟩:=wE i
  ·exact rM ay (by omega)
  ·exact rL ay (by omega) (h.2.2.2.1.1 p g)
 ·rename_i e;rw [e] at h;obtain ⟨p,g,rfl⟩:=cZ.1 al;have:=h.2.2.2.2.1 p g;exact oU b.2 (by omega) a (by omega) (by omega)
 ·simp only [gS,n3] at al;subst al;exact oU b.2 (by omega) a (by omega) (by omega)
 ·cases al
theorem Ft (ay:cg E) (J:∀ c ∈ rs,1<=c/\c<6) (h:gQ E rs F A g gr) (S:c ∈ rs) {t:e3} (r:mm E c (gr c) t) (p:F.aR[c]?=some C) (B:kr E.n C) (O:hE C) (T:t.e4=false) (Y:(gr c).aC≠10/\(gr c).aC≠11) (i:(fb t C).length<=mY s.aC) (f:jo E rs A F.nodes gr c (fb t C) s):uh E rs F A g gr c t:=by
 have X:=ay.e.n;have hw:=Bg h.fl p O;have z:∀ {vs:List aQ} {o:dA} {b:Bool},fM (cC E c) (fb t C)=(vs,o,b)->gP.conv.next t.bQ (fb t C)=(vs,.inr o,b):=λ{vs o b} Q=>by rw [r.bQ];show ((fM (cC E c) (fb t C)).1,Sum.inr (fM (cC E c) (fb t C)).2.1,(fM (cC E c) (fb t C)).2.2)=_;rw [Q];rfl
 have j:mh E c s:=λq d e=>by rw [f.bt] at e;cases e
 have N:=h.fl.bN t;have x:∀ k,k<=11->mY k<=200:=λk H=>by unfold mY;split<;>omega
 unfold uh;rcases f.go with ⟨u,M,V,P,Xw,W⟩ | ⟨u,M⟩ | ⟨u,w,M⟩
 ·have D:=Qw (gr:=hZ gr c s) ay f.ok (by rw [eS];exact u);rw [eS] at D;have G:=CU (n:=E.n) (L:=E.L) p B.live hw r.cE T (lE i (x _ (by omega))) (z M) P W h.rep.len X.2 h.lines D;have I:=CZ h.fl p B O (vs:=cW E c s) λv al=>by have:=(D v al).node;omega
  rw [G] at N ⊢;refine ⟨s,h.GL J S p N I.base (λ_=>⟨by rw [f.bt];exact I.mu,λ_ k l y H Xx a n U _=>?_⟩) (λe=>by omega) f.ok f.x7 j (by omega) f.vb f.holds,⟨r.cE,r.bQ,r.bad,λ_=>⟨rfl,V,P,i⟩,λe=>by omega,λe=>by omega,λe=>by omega⟩,?_,λk H=>oX H,.inr (.inr ⟨u,_,pM p,I.busy P⟩),λe=>by omega⟩
  ·obtain ⟨Z,Xv⟩:=I.zero k l H;rw [Z,Xv];simp
  ·have K:dW (hd F c (({ C with batch:=none }:bh).j0 (cW E c s))) c=cost (cW E c s):=by unfold dW;rw [pM p];exact I.iQ
   show dW (hd F c _) c+g1 s.aC<=_;rw [K];omega
 all_goals
  have G:=CV p B.live hw r.cE T (lE i (x _ (by omega))) (z M);rw [G] at N ⊢;have K:dW (hd F c ({ C with batch:=none }:bh)) c=0:=by unfold dW;rw [pM p];exact u_ O
  have R:g1 s.aC=0:=by rw [u];rfl
  refine ⟨s,h.GL J S p N ⟨B.inc,B.live,B.az,B.nz⟩ (λe=>by omega) (λ_=>⟨rfl,O⟩) f.ok f.x7 j (by omega) f.vb f.holds,⟨r.cE,r.bQ,r.bad,λe=>by omega,λe=>?_,λe=>?_,λe=>by omega⟩,?_,λk H=>oX H,?_,λe=>by omega⟩
 ·refine ⟨rfl,rfl,?_⟩;rw [u] at i;exact i
 ·omega
 ·show dW (hd F c _) c+g1 s.aC<=_;rw [K,R];omega
 ·exact .inl u
 ·omega
 ·exact ⟨rfl,w,rfl⟩
 ·show dW (hd F c _) c+g1 s.aC<=_;rw [K,R];omega
 ·exact .inr (.inl u)
theorem Qx (ay:cg E) (j:∀ c ∈ rs,1<=c/\c<6) (h:gQ E rs F A g gr) (o:c ∈ rs) {t:e3} (b:mm E c (gr c) t):uh E rs F A g gr c t:=by
 have U:=ay.e.n;have f:=j c o;obtain ⟨C,r,D,M,N⟩:=h.q6 c o;obtain ⟨O,P,H,V⟩:=h.mJ c o;by_cases l:(gr c).aC=10\/(gr c).aC=11
 ·have K:t.e4=true:=by
   rcases l with e | e
   ·exact (b.fin e).1
   ·exact (b.busy e).1
  have k:bN F t=(F,t):=by unfold bN;rw [if_pos (.inl K)]
  unfold uh;rw [k];exact ⟨gr c,by rw [Eb];exact h,b,cY _,λ_ _=>rfl,l.imp id .inl,λ_=>⟨rfl,rfl⟩⟩
 by_cases i:(gr c).aC=12
 ·obtain ⟨kI,fA⟩:=b.new i;obtain ⟨Q,R⟩:=N (by omega);have a:fb t C=[]:=by unfold fb;rw [Q];exact fA
  refine Ft ay j h o b r D R kI (by omega) (s:=nF 0) (by rw [a];exact vt _) ?_;rw [a];exact Pw ay f i
 have p:(gr c).aC<=9:=by omega
 obtain ⟨r1,S,T,W⟩:=b.run p;obtain ⟨w,_⟩:=M p;by_cases u:hE C
 ·obtain ⟨ds,d1,d2,d3,d4⟩:=w.all u;have a:fb t C=t.a7++[ds]:=by unfold fb;rw [d1]
  have x:kz E c (gr c) ds:=by refine ⟨⟨d2,λq v d al aq=>?_⟩,d3,d4⟩;obtain ⟨I,y⟩:=d4 q (b3 al);have z:=d3 q I y;rw [aq] at z;cases z;obtain ⟨bj,B,J⟩:=H q d y;rw [al] at B;cases B;exact J
  obtain ⟨s,G⟩:=U4 ay f h.rep h.law h.uM p T P H S O x;have L:mY (gr c).aC<mY s.aC:=G.up.resolve_left i;refine Ft ay j h o b r D u r1 (by omega) (s:=s) ?_ (by rw [a];exact G);rw [a,dy,tn];omega
 ·have k:bN F t=(F,t):=yn (by rw [b.cE];exact CY h.fl r u);unfold uh;rw [k];exact ⟨gr c,by rw [Eb];exact h,b,cY _,λ_ _=>rfl,.inr (.inr ⟨p,C,r,u⟩),λe=>by omega⟩
end
end
section
open e7
theorem tJ {f g:Nat->Nat}:∀ {l:cT},(∀ k ∈ l,f k<=g k)->(l.map f).sum<=(l.map g).sum
 | [],_=>by simp
 |a::l,h=>by
  have:=tJ λk b=>h k (fw _ b)
  have:=h a eO;simp only [gj,jI];omega
theorem EW {f g:Nat->Nat}:∀ {l:cT},(∀ k ∈ l,f k<=g k)->∀ {i:Nat},i ∈ l->f i<g i->(l.map f).sum<(l.map g).sum
 | [],_,_,b,_=>by cases b
 |a::l,h,i,b,d=>by
  have j:=tJ λk c=>h k (fw _ c)
  have n:=h a eO;simp only [gj,jI];rcases eU.1 b with e | e
  ·subst e;omega
  ·have:=EW (λk c=>h k (fw _ c)) e d;omega
end
end Go.Proofs.YtmkljjbioomepaaGreat
