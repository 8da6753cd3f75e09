import Derived.Test.YtmkljjbioomepaaGreatg27
import Derived.Test.YtmkljjbioomepaaGreatg25
import Derived.Test.YtmkljjbioomepaaGreatg26
import Derived.Test.YtmkljjbioomepaaGreatProg
import Derived.Test.YtmkljjbioomepaaGreatg02
import Derived.Test.YtmkljjbioomepaaGreatRows
import Derived.WalkKit
import Derived.ProofKit
import Derived.OpenShut
import Derived.Deep.Slices
set_option linter.all false
set_option maxHeartbeats 4000000
set_option maxRecDepth 100000
namespace Go.Proofs.YtmkljjbioomepaaGreat
open Go.Proofs.Tryz Go.bJ
variable {A:a4}{P:df}{args:ep}{b held:Bool}{lM c aM k n y:Nat}{e t:bY}{cx:List MemPlace}{q:Int}{r:Reach}{v:bf}{w:an}
section
def kM (l:List aD):a7:=(l.map λn=>nr (ph n)).flatten
def j3 (l:List a9):a7:=(l.map oP).flatten
def oa (F:ay):a7:=fA (F.lines:Int)++fA (F.nodes.length:Int)++fA (F.aF.length:Int)++kM F.nodes++j3 F.aF
theorem LV (l:List aD)(n:aD):kM (l++[n])=kM l++nr (ph n):=by simp[kM]
theorem LW (l:List a9)(n:a9):j3 (l++[n])=j3 l++oP n:=by simp[j3]
theorem CT:∀ {l:List aD},(∀ n ∈ l,n.words.length<=2048)->(kM l).length<=20000*l.length
 | [],_=>db _
 |n::l,h=>by
  have b:=h n fR;have c:=CT (l:=l) λx a=>h x (fG _ a)
  have e:kM (n::l)=nr (ph n)++kM l:=rfl;rw[e,fF,H1,EN,h3];omega
theorem CU:∀ {l:List a9},(∀ c ∈ l,c.az.length<=5/\∀ x ∈ c.az,x.pair.words=[])->(j3 l).length<=400*l.length
 | [],_=>db _
 |c::l,h=>by
  obtain⟨f,a⟩:=h c fR;have g:=CU (l:=l) λx d=>h x (fG _ d)
  have e:j3 (c::l)=oP c++j3 l:=rfl;have b:(oP c).length=18+(lp c.az).length:=by simp[oP,h6,fA,ki];omega
  rw[e,fF,b,Cm a,h3];omega
structure Hr (X:bs):Prop where
 cC:∀ c ∈ X.aF,Hq c
 fY:X.bZ=[]
 ei:X.nodes.length<=5/\X.aF.length<=6
theorem Eo {aw:bR}{X:bs}(h:cj A aw w aM X)(d:Hr X):a5 31 [ptr aM] w (sZ w (oa X.pure)):=by
 have bD:=d.ei;have ao:∀ n ∈ X.nodes.map g4.n,n.words.length<=2048:=λn F=>by obtain⟨x,s,rfl⟩:=cW.1 F;obtain⟨i,bx⟩:=ez.1 s;exact(h.node i x bx).node.len
 have ae:∀ c ∈ X.aF.map b3.pure,c.az.length<=5/\∀ x ∈ c.az,x.pair.words=[]:=λc br=>by obtain⟨x,s,rfl⟩:=cW.1 br;have s:=d.cC x s;refine⟨by simpa[b3.pure]using s.ei,λl bA=>?_⟩;obtain⟨y,C,rfl⟩:=cW.1 (show l ∈ x.az.map c4.pure from bA);exact(s.lane y C).2.1
 have low:∀ k,k<w.heap.size->k<w.heap.size:=λ_ h=>h
 refine ba Tryz.func31 ?_;rw[ptr,Xt];rintro w1 R;have I:ai w w1:=by rw[R];exact cR _
 clear R;have f:∀ {z},ai w z->av z aM X.cells lK:=λaq=>(h.new aq).cw
 refine⟨λz=>ai w z,I,_,λz aq=>(f aq).cell (i:=0) rfl,_,_,_,λz aq=>(f aq).cell (i:=1) rfl,_,_,_,λz aq=>(f aq).cell (i:=2) rfl,?_⟩;refine aB (sY (M:=λk=>k<w.heap.size) (eT.nil λk ah=>fE ah I.size) (by omega) _) ?_;rintro v cu ⟨bW,fm,gj,rfl,aR,bN⟩;have P:=rx I bN low;have l2:=aR.len;refine⟨_,_,_,rfl,P,aB (sY aR (by rw[l2];simp[fA,ki]) _) ?_⟩;rintro v b8 ⟨cd,ct,cr,rfl,aX,bO⟩;have g:=rx P bO low;have bT:=aX.len;refine⟨_,_,_,rfl,g,aB (sY aX (by rw[bT];simp[fA,ki]) _) ?_⟩;rintro v cy ⟨bj,b5,bl,rfl,Y,bP⟩;have J:=rx g bP low;refine⟨_,_,_,rfl,J,_,_,_,(f J).cell (i:=1) rfl,?_⟩;rw[qO]at Y;generalize a0:fA (X.lines:Int)++fA (X.nodes.length:Int)++fA (X.aF.length:Int)=H at Y;have ab:H.length=24:=by rw[<-a0];simp[fA,ki]
 refine cZ mix (λm env z=>∃ (k:Nat) (aW:ak) (N pc:Nat) (aC:ax),m=X.nodes.length-k/\k<=X.nodes.length/\env=x' ⟨aM,0,none⟩ aW N pc X.na X.nodes.length X.nc X.nodes.length k aC/\eT (λk=>k<w.heap.size) z aW N pc (H++kM ((X.nodes.take k).map g4.n))/\ai w z) X.nodes.length
  ⟨0,bj,b5,bl,_,rfl,by omega,rfl,by simpa[kM]using Y,J⟩ ?_
 rintro m env z ⟨k,aW,N,pc,aC,rfl,ah,rfl,aq,B⟩;have a':=aq.len;rw[fF,ab]at a';have aO:(kM ((X.nodes.take k).map g4.n)).length<=100000:=by
  have:=CT (l:=(X.nodes.take k).map g4.n) λn F=>ao n (by rw[List.map_take]at F;exact qN F)
  rw[gR,lE]at this;omega
 rw[U4];refine bb (λa=>?_) (λag=>?_)
 ·have a:k<X.nodes.length:=by omega
  obtain⟨x,s⟩:∃ x,X.nodes[k]?=some x:=⟨_,b2 a⟩;have D:=h.new B;have bK:=D.nodes.rd;rcases bK with he | ⟨b,o,a8,E⟩
  ·have:=ey List.length he;simp at this;rw[this]at a;exact cp a (by simp)
  rw[a8];refine dW (by omega) (by omega) ⟨some ⟨x.b,0,none⟩,?_,?_⟩
  ·have:=E k (ptr x.b) (by rw[fQ,s];rfl);simpa[ptr]using this
  refine aB (R0 (D.node k x s).node) ?_;rintro v ca ⟨bk,ne,ce,rfl,bh,le,K,af⟩;refine⟨_,_,_,rfl,?_⟩;have bm:eT (λk=>k<w.heap.size\/aP bk k) ca aW N pc (H++kM ((X.nodes.take k).map g4.n)):=by
   refine⟨(aq.new K).own,λq d e=>?_,λq d=>d.elim (λe=>(aq.new K).low q e) λe=>bh.lt e⟩;have:=aq.own.lt d;rcases e with e | e
   ·exact aq.off q d e
   ·have:=af q e;omega
  have bC:=(D.node k x s).node.len;refine aB (G6 bm (by omega) le bh.rd (by rw[le,EN];omega) λq d=>.inr d) ?_;rintro v cb ⟨U,aQ,V,rfl,O,aH⟩;rw[<-a8,bI (x:=(k:Int)+1) (by omega) (by omega)];have e:H++kM ((X.nodes.take k).map g4.n)++nr (ph x.n)=H++kM ((X.nodes.take (k+1)).map g4.n):=by
   have W:X.nodes.take (k+1)=X.nodes.take k++[x]:=by rw[zB,s];rfl
   rw[W,kY,iI,ur,LV,ke]
  rw[e]at O;exact⟨_,_,_,rfl,X.nodes.length-(k+1),by omega,k+1,U,aQ,V,_,rfl,by omega,rfl,O.sub λq d=>.inl d,rx (B.new K) aH λq d=>.inl d⟩
 ·rw[V_];have:k=X.nodes.length:=by omega
  subst this;rw[ja]at aq a' aO;refine⟨_,_,_,(f B).cell (i:=2) rfl,?_⟩;generalize aZ:H++kM (X.nodes.map g4.n)=G at aq;have bq:G.length<=100024:=by rw[<-aZ,fF];omega
  refine cZ mix (λm env y=>∃ (k:Nat) (aW:ak) (N pc:Nat) (aC:ax),m=X.aF.length-k/\k<=X.aF.length/\env=ya ⟨aM,0,none⟩ aW N pc (some ⟨X.aY,0,none⟩) X.aF.length X.aF.length X.aF.length k aC/\eT (λk=>k<w.heap.size) y aW N pc (G++j3 ((X.aF.take k).map b3.pure))/\ai w y) X.aF.length
   ⟨0,_,_,_,_,rfl,by omega,rfl,by simpa[j3]using aq,B⟩ ?_
  rintro m env y ⟨k,gX,b7,hh,aC,rfl,ah,rfl,C,r⟩;have bV:=C.len;rw[fF]at bV;have b0:(j3 ((X.aF.take k).map b3.pure)).length<=2400:=by
   have:=CU (l:=(X.aF.take k).map b3.pure) λn F=>ae n (by rw[List.map_take]at F;exact qN F)
   rw[gR,lE]at this;omega
  rw[U5];refine bb (λa=>?_) (λag=>?_)
  ·have a:k<X.aF.length:=by omega
   obtain⟨t,u⟩:∃ t,X.aF[k]?=some t:=⟨_,b2 a⟩;have Z:=h.new r;refine dW (by omega) (by omega) ?_;rw[hD];have Q:cn y ⟨X.aY,0+k*7,none⟩ 0 (r5 t).cells:=k_ λj v bz=>by rw[mJ];exact Z.iq u bz
   refine iP.aV (r5 t) ⟨Q,?_⟩;rintro cm b8 ad S;obtain⟨L,g⟩:=bo ad S;refine⟨gq (vs:=(r5 t).cells) L (by simp[CS,b3.cells]) (iP.single _),?_⟩;intro b_ T;obtain⟨aG,p⟩:=nw (vs:=(r5 t).cells) L (by simp[CS,b3.cells]) g (by omega) T;clear S T L g;refine iP.aV (r5 t) ⟨bX aG rfl,?_⟩;refine aB (Sq h u (d.cC t (b9 u)) (r.new p) (C.new p) (by omega)) ?_;rintro v cb ⟨U,aQ,V,rfl,O,aH⟩;rw[bI (x:=(k:Int)+1) (by omega) (by omega)];have e:G++j3 ((X.aF.take k).map b3.pure)++oP t.pure=G++j3 ((X.aF.take (k+1)).map b3.pure):=by
    have W:X.aF.take (k+1)=X.aF.take k++[t]:=by rw[zB,u];rfl
    rw[W,kY,iI,ur,LW,ke]
   rw[e]at O;exact⟨_,_,_,rfl,X.aF.length-(k+1),by omega,k+1,U,aQ,V,_,rfl,by omega,rfl,O,rx (r.new p) aH low⟩
  ·rw[V'];have:k=X.aF.length:=by omega
   subst this;rw[ja]at C;have bH:X.bZ.length=0:=by rw[d.fY];rfl
   refine⟨_,_,_,(f r).cell (i:=3) rfl,?_⟩;refine cZ mix (λm env x=>∃ aC:ax,env=yb gX b7 hh X.gy X.bZ.length X.j1 X.bZ.length 0 aC/\x=y) 0 ⟨_,rfl,rfl⟩ ?_;rintro m env x ⟨bM,rfl,rfl⟩;rw[U6];refine bb (λa=>by omega) (λ_=>?_)
   rw[Wa];have e:G++j3 (X.aF.map b3.pure)=oa X.pure:=by rw[<-aZ,<-a0];simp[oa,bs.pure]
   rw[e]at C;exact⟨_,_,_,rfl,C.own,C.len,r,λq d=>sd (C.off q d)⟩
end
section
open dF dI
def AS (n:Nat)(ns:List aD)(Ls:eE):Prop:=Ls.length=n/\∀ m,m<n->(Ls.getD m []).length=120/\∀ i,i<120->i≠1->(Ls.getD m []).getD i 0=(ns.getD m bq).get (48+i)
theorem PS {lines cE:Int}:∀ {Ls f:eE},Ls.length=f.length->(∀ m,m<Ls.length->(Ls.getD m []).length=120/\(f.getD m []).length=120/\(Ls.getD m []).getD 0 0=(f.getD m []).getD 0 0/\∀ i,8<=i->i<120->(Ls.getD m []).getD i 0=(f.getD m []).getD i 0)->fT lines cE Ls=fT lines cE f:=by
 have key:∀ {Ls f:eE} (g:Int),Ls.length=f.length->(∀ m,m<Ls.length->(Ls.getD m []).length=120/\(f.getD m []).length=120/\(Ls.getD m []).getD 0 0=(f.getD m []).getD 0 0/\∀ i,8<=i->i<120->(Ls.getD m []).getD i 0=(f.getD m []).getD i 0)->Ls.foldl (g2 lines) g=f.foldl (g2 lines) g:=by
  intro Ls;induction Ls with
  |nil=>intro f g j _;rw[oL.1 j.symm]
  |cons L Ls o=>
   intro f g j h;cases f with
   |nil=>simp at j
   |cons l f=>
    obtain⟨a,b,c,d⟩:=h 0 (by simp);simp only[List.getD_cons_zero]at a b c d;have e:L.drop 8=l.drop 8:=by
     apply i_;intro i;rw[uo,uo];by_cases n:8+i<120
     ·have:=d (8+i) (by omega) n;rw[hO,hO,b2 (by omega),b2 (by omega)]at this;rw[b2 (by omega),b2 (by omega)];exact ey some this
     ·rw[uq (by omega),uq (by omega)]
    have k:g2 lines g L=g2 lines g l:=by unfold g2 c2 fL;rw[a,b,c,e]
    rw[sf,sf,k];exact o _ (by simpa using j) λm hm=>by simpa using h (m+1) (by simpa using hm)
 intro Ls f j h;unfold fT;rw[key _ j h]
structure mP (n y:Nat)(b:Bool)(q:Int)(F:ay):Prop where
 ev:cr F
 fY:F.bZ=[]
 lines:F.lines=101
 HP:4<=F.aF.length
 cC:∀ k C,1<=k->F.aF[k]?=some C->∃ a b,C=fl n k a b
 cD:∀ C,F.aF[0]?=some C->C.az=[]/\C.batch=none
 mem:∃ A,hQ (fZ n y) A F.nodes/\e8 (fZ n y) A/\iL (fZ n y) A/\A.dM=0/\(b=true->jP (fZ n y) A/\q=2)/\(b=false->pY (fZ n y) A/\∀ Ls,AS n F.nodes Ls->q=fT 101 0 Ls)
theorem mP.quiet {F:ay}(h:mP n y b q F):∀ C ∈ F.aF,∀ l ∈ C.az,l.pair.a1=[]/\l.pair.words=[]/\l.bG=[]:=λC f l c=>by
 obtain⟨k,d⟩:=ez.1 f;by_cases e:k=0
 ·subst e;rw[(h.cD C d).1]at c;cases c
 ·obtain⟨a,b,rfl⟩:=h.cC k C (by omega) d;have c:l ∈ hU n k 1:=c;unfold hU at c;obtain⟨z,_,rfl⟩:=cW.1 c;exact⟨rfl,rfl,rfl⟩
theorem mP.calm {X:bs}(h:mP n y b q X.pure):Hr X:=by
 have d:=h.ev.cg.ok;refine⟨λc r=>?_,?_,?_,?_⟩
 ·obtain⟨k,s⟩:=ez.1 r;have g:X.pure.aF[k]?=some c.pure:=by show(X.aF.map b3.pure)[k]?=_;rw[fQ,s];rfl
  have f:c.pure.batch=none:=by
   by_cases e:k=0
   ·subst e;exact(h.cD _ g).2
   ·obtain⟨a,b,j⟩:=h.cC k _ (by omega) g;rw[j];rfl
  refine⟨?_,λl t=>?_,?_⟩
  ·cases p:c.fS with
   |none=>rfl
   |some x=>
    have:c.pure.batch=some c.batch:=by show c.fS.map _=_;rw[p];rfl
    rw[this]at f;cases f
  ·have:=h.quiet c.pure (b9 g) l.pure (Cw t);exact this
  ·have i:=(d.aL k _ g).az;have o:c.pure.az.length=c.az.length:=gR ..;have u:=d.nodes;rw[o]at i;split at i<;>omega
 ·have:=h.fY;exact List.map_eq_nil_iff.1 this
 ·have:=d.nodes.2;simpa[bs.pure]using this
 ·have:=d.aF.2;simpa[bs.pure]using this
section
attribute [local irreducible] dP
theorem LX (Z:1<=n/\n<=3)(ad:y<14){F:ay}(h:mP n y b q F)(W:1<=c/\c<4) :
  ∃ bE G' v s,dP F [kc n c] [] [] 20000=(bE,[⟨(c:Int),.inr (bC (fZ n y) c),G',true,false,.inr ⟨0,v,s,q,0⟩⟩])/\(v=2↔b=true)/\mP n y b q bE/\oa bE=oa F:=by
 have au:=A1 Z ad;have V:=au.e.n;obtain⟨A,u,E,T,U,B,D⟩:=h.mem;have P:F.nodes.length=n:=u.len;have M:jP (fZ n y) A\/pY (fZ n y) A:=by
  cases b
  ·exact .inr (D rfl).1
  ·exact .inl (B rfl).1
 have w:b=true↔jP (fZ n y) A:=by
  cases b
  ·refine⟨(λe=>nomatch e),λX=>?_⟩
   have:=(D rfl).1.2.1 0 (by omega);rw[X.1 0 (by omega)]at this;cases this
  ·exact⟨λ_=>(B rfl).1,λ_=>rfl⟩
 obtain⟨k,G',Ls,bU,g,G,al,I⟩:=OQ (c:=c) au (by omega) u E T U M;obtain⟨C,r⟩:∃ C,F.aF[c]?=some C:=⟨_,b2 (by have:=h.HP;omega)⟩;obtain⟨a,b',rfl⟩:=h.cC c C W.1 r;have Q:kv c (F,kc n c):=⟨h.ev,EL h.ev h.fY (λC r l Y=>(h.quiet C r l Y).1) c,rfl⟩;have i:AS n F.nodes Ls:=I;have ab:fT ((fZ n y).L:Int) ((F.nodes.getD 0 bq).get 32) Ls=q:=by
  have O:=u.mem 0 _ (jF (by omega:0<F.nodes.length));have o:=O.dO;have N:n2 (fZ n y) A Ls:=by
   refine⟨i.1,λm L hm=>?_⟩;have j:=cS hm;rw[i.1]at j;have e:Ls.getD m []=L:=by rw[hO,hm];rfl
   obtain⟨R,H⟩:=i.2 m j;rw[e]at R H;have z:=u.mem m _ (jF (by omega:m<F.nodes.length));have S:=au.k2;refine⟨R,by rw[H 0 (by omega) (by omega)];exact z.cX,λJ k G=>?_⟩;rw[H (8+k) (by omega) (by omega),<-z.fH J k G];congr 1;omega
  cases b
  ·obtain ⟨f1,f2⟩:=D rfl;have K:A.dO 0=false:=by
    cases e:A.dO 0 with
    |false=>rfl
    |true=>have:=E.np 0 (by omega) e 0 (by omega);rw[f1.2.1 0 (by omega)]at this;cases this
   rw[K,aQ (by simp)]at o;rw[o];exact(f2 Ls i).symm
  ·obtain⟨f1,rfl⟩:=B rfl;have S:h4 (fZ n y) A:=(E.l2 0 (by omega) (f1.1 0 (by omega))).1;exact Hu au N S (by rw[o];split<;>simp)
 rw[ab]at g;obtain⟨bW,p,x⟩:=Nl Q r P h.lines (t:=kc n c) rfl g [] (most:=20000) (by omega);have f:=h.ev.dP [kc n c] [] [] 20000;rw[x]at f;have j:=cS r;refine⟨_,G',bU.1,bU.2,x,al.trans w.symm,⟨f,h.fY,h.lines,by show 4<=(F.aF.set c _).length;rw[pN];exact h.HP,λk C' G d=>?_,λC' d=>?_,A,u,E,T,U,B,D⟩,?_⟩
 ·have d:(F.aF.set c (fl n c bW p))[k]?=some C':=d;by_cases e:c=k
  ·subst e;rw[kX j]at d;cases d;exact⟨_,_,rfl⟩
  ·rw[jN e]at d;exact h.cC k C' G d
 ·have d:(F.aF.set c (fl n c bW p))[0]?=some C':=d;rw[jN (by omega)]at d;exact h.cD C' d
 ·have e:j3 (F.aF.set c (fl n c bW p))=j3 F.aF:=by unfold j3;rw[mM];have:oP (fl n c bW p)=oP (fl n c a b'):=rfl;rw[this,jE];rw[fQ,r];rfl
  show fA (F.lines:Int)++fA (F.nodes.length:Int)++fA ((F.aF.set c (fl n c bW p)).length:Int)++kM F.nodes++j3 (F.aF.set c (fl n c bW p))=oa F;rw[e,pN];rfl
end
end
section
open dF dI
section
attribute [local irreducible] dP
theorem Ep {i:Nat}{C:a9}(h:C.IL=hd n i):C=fl n i C.jo C.kL:=by obtain⟨a,bW,b,c,d,e,f⟩:=C;have h:(⟨a,bW,b,c,d,0,0⟩:a9)=hd n i:=h;unfold hd at h;cases h;rfl
theorem PT (b0:1<=n/\n<=3)(b8:y<14){sure:Bool}{F G:ay}{A:bn}{g:fp}{gr:Nat->c1}(h:pP n y sure F G A g gr) :
  ∃ bE t b v s q,dP F [kc n 1] [] [] 20000=(bE,[t])/\t.out=.inr ⟨0,v,s,q,0⟩/\t.a2.length<=200/\(v=2↔b=true)/\mP n y b q bE:=by
 have au:=A1 b0 b8;have bV:=au.e.n;have bj:∀ c ∈ [1],1<=c/\c<4:=λc J=>by simp at J <;> omega
 obtain⟨a0,hw⟩:=RO h (rs:=[1]) bj;have av:=h.ev;have a0:iM (fZ n y) [1] [1] F [kc n 1] G A g _:=a0;have hw:hC [1] G g (λ_=>lO 12)<=2380:=hw;obtain⟨bE,t,G',A',cm,f,u,d,w,E,aX,a',ad,M⟩:=PM au (c:=1) (by omega) a0 h.rE (most:=20000) (by omega);obtain⟨b3,H⟩:=Ng aX;have X:cr bE:=by have:=av.dP [kc n 1] [] [] 20000;rw[u]at this;exact this
 have V:ek bE:=by have:=h.clean.dP [kc n 1] [] 20000;rw[u]at this;exact this
 have R:p6 (fZ n y) 1 (f 1) t:=by
  rcases d.gz 0 1 t rfl rfl with⟨e,_⟩ | ⟨_,R⟩
  ·cases e
  ·exact R
 obtain⟨ok,_,_,bN⟩:=d.gd.mB 1 (by simp);have af:(f 1).aE=10:=by
  by_cases bT:(f 1).aE<=9
  ·rw[(R.run bT).1]at E;cases E
  ·by_cases aP:(f 1).aE=12
   ·rw[(R.new aP).1]at E;cases E
   ·by_cases aO:(f 1).aE=11
    ·unfold cQ at ok;rw[aO]at ok;obtain⟨c',S,ba,_⟩:=ok;simp at S;exact cp S ba
    ·omega
 have b_:=ok;unfold cQ at ok;rw[af]at ok;obtain⟨a5,Y⟩:=ok;obtain⟨_,o,bx⟩:=R.fin af;have bm:A'.dM=0:=by
  rcases d.gd.r4 with e | ⟨c,J,_,bX⟩
  ·exact e
  ·simp at J;subst J;rcases bX with⟨e,_⟩ | ⟨e,cj⟩ | ⟨e,_⟩<;>omega
 have B:hQ (fZ n y) A' bE.nodes:=by rw[w.nodes];exact d.gd.rep
 have aZ:∀ k C,1<=k->bE.aF[k]?=some C->∃ a b,C=fl n k a b:=λk C aG p=>by
  have Q:G'.aF[k]?=some C:=by rw[<-w.gb k (by omega)];exact p
  have aR:kb n C/\C.batch=none:=by
   by_cases e:k=1
   ·subst e;obtain⟨cd,bA,ca,_,cb⟩:=d.gd.px 1 (by simp);rw[Q]at bA;cases bA;exact⟨ca,(cb (by omega)).1⟩
   ·obtain⟨r1,bo,_⟩:=d.gd.rest k C (by omega) (by simp;omega) Q;exact⟨r1,bo⟩
  exact⟨_,_,Ep (F8 X V p B.len aR.1.inc aR.1.live aR.2 (H C (b9 p)))⟩
 have aV:4<=bE.aF.length:=by have bP:=d.gd.o_;have:=w.gb 3 (by omega);rw[b2 (show 3<G'.aF.length by omega)]at this;have:=cS this;omega
 have T:∀ C,bE.aF[0]?=some C->C.az=[]/\C.batch=none:=λC p=>⟨w.dead C p,h.TC C (by rw[<-M];exact p)⟩
 have base:∀ {b:Bool} {q:Int},(b=true->jP (fZ n y) A'/\q=2)->(b=false->pY (fZ n y) A'/\∀ Ls,AS n bE.nodes Ls->q=fT 101 0 Ls)->mP n y b q bE:=λbM bO=>⟨X,b3,by rw[w.lines,d.gd.lines];rfl,aV,aZ,T,A',B,d.gd.law,a5,bm,bM,bO⟩
 rcases Y with⟨f1,f2,f3⟩ | ⟨f1,f2⟩
 ·rw[f2,f3]at o;exact⟨bE,t,true,2,_,2,u,o,by omega,⟨λ_=>rfl,λ_=>rfl⟩,base (λ_=>⟨f1,rfl⟩) λe=>nomatch e⟩
 ·
  have P:=f1.2.1;have K:ff (fZ n y) A:=P.of a';have Z:=ad P;have D:hQ (fZ n y) A F.nodes:=by rw[h.rE.nodes];exact h.gd.rep
  have bb:∀ m,A.c0 m=false:=h.gd.op λc J=>nomatch J
  have O:F.nodes.length=n:=D.len;have aH:∀ x ∈ F.nodes,ef (fZ n y).L false x:=λx hm=>by obtain⟨m,hm⟩:=ez.1 hm;have:=(D.mem m x hm).aT;rw[bb m]at this;exact this
  have ae:=D.mem 0 _ (jF (by omega:0<F.nodes.length));have bk:A.dM=0:=by
   rcases h.gd.r4 with e | ⟨c,J,_⟩
   ·exact e
   ·exact nomatch J
  obtain⟨k,ns',bD,Ls,bU,N,aG,b7,ab,a8⟩:=OP (c:=1) au (by omega) O aH ((ae.dM rfl).trans bk);have bP:=h.gd.o_;obtain⟨C,p⟩:∃ C,G.aF[1]?=some C:=⟨_,b2 (by omega)⟩;have z:∀ k C,k≠0->F.aF[k]?=some C->kb n C/\C.batch=none/\hx C:=λk C aG p=>h.gd.rest k C aG (by simp) (by rw[<-h.rE.gb k aG];exact p)
  have r:F.aF[1]?=some C:=by rw[h.rE.gb 1 (by omega)];exact p
  have ag:∀ C ∈ F.aF,∀ l ∈ C.az,l.pair.a1=[]:=λC p l Z=>by
   obtain⟨j,bz⟩:=ez.1 p;by_cases e:j=0
   ·subst e;rw[h.rE.dead C bz]at Z;cases Z
   ·obtain⟨i,aB⟩:=ez.1 Z;exact(z j C e bz).2.2 i l aB
  obtain⟨r1,bo,ct⟩:=z 1 C (by omega) r;have bh:=Ep (F8 av h.clean r O r1.inc r1.live bo (ag C (b9 r)));rw[bh]at r;have W:=Nk av (EL av.jh rfl ag 1) r O (by rw[h.rE.lines,h.gd.lines]) (t:=kc n 1) rfl N (most:=20000) (by omega);rw[u]at W;have bl:=(List.cons.inj (show[t]=[(⟨((1:Nat):Int),.inr (bC (fZ n y) 1),bD,true,false,.inr ⟨0,bU.1,bU.2,fT ((fZ n y).L:Int) ((F.nodes.getD 0 bq).get 32) Ls,0⟩⟩:bK dI.conv)] from W)).1;have b5:fT ((fZ n y).L:Int) (f 1).cE (f 1).Ls=fT ((fZ n y).L:Int) ((F.nodes.getD 0 bq).get 32) Ls:=by have:=o;rw[bl]at this;injection this with e;injection e with _ _ _ e _;exact e.symm
  refine⟨bE,t,false,_,_,_,u,o,by omega,⟨λe=>cp e f2,λe=>nomatch e⟩,base (λe=>nomatch e) λ_=>⟨f1,λbH I=>?_⟩⟩;rw[b5];have U:=ae.dO;have M:A.dO 0=false:=by
   cases e:A.dO 0 with
   |false=>rfl
   |true=>have:=h.gd.law.np 0 (by omega) e 0 (by omega);rw[K 0 (by omega)]at this;cases this
  rw[M,aQ (by simp)]at U;rw[U];show fT 101 0 Ls=_;refine PS (by rw[I.1];exact ab) λm hm=>?_
  rw[ab]at hm;have hm:m<n:=hm;obtain⟨bI,bW⟩:=a8 m hm;obtain⟨b1,br⟩:=I.2 m hm;have ao:=jF (ns:=bE.nodes) (j:=m) (by rw[B.len];exact hm);have ah:=jF (ns:=F.nodes) (j:=m) (by omega);refine⟨bI,b1,?_,λi cn aB=>?_⟩
  ·rw[bW 0 (by omega) (by omega),br 0 (by omega) (by omega),(D.mem m _ ah).cX,(B.mem m _ ao).cX,K m hm,P m hm]
  ·rw[bW i aB (by omega),br i aB (by omega)];obtain⟨x,aH,he⟩:=Z m _ ao;rw[ah]at aH;cases aH;exact(he (48+i) (by omega) (by omega)).symm
end
end
section
open IntKind
variable (w:an)(R:cM){i k l:Int}{s t u:ak}{a b c d:Nat}{A:aU}{j:ar}
def xS (e:Int)(k:ak)(a b:Nat)(c:ak)(d:aU)(f:ak)(g h:Nat)(i:Int)(j:ar):ar:=ab e::ag j 0 3 (ad k a b::ag j 3 6 (.pointer c::ag j 9 2 (.pointer (some d)::ad f g h::ab i::ag j 11 88 [])))
def H6  (j:ar):ar:=ag j 0 105 []
theorem VO:bd prog f11 [ab i,ab k,ab l,ad s a b,ad t c d] R w=(cond ((a:Int)>100) (R (ae true) w) (cond ((c:Int)>4) (R (ae true) w) (cG 12 #[ab i,ab 3] w λf D=>WH 13 #[ab (i64.wrap (f+1)),ab k,ab l,ad s a b] D λg h e y=>cond (!e) (R (ae false) y) (dx 14 #[] y λu A=>cond (!u) (R (ae false) A) (qu 16 #[ab (i64.wrap (f+1)),ab 1,ah 0] A λq E=>qu 26 #[.pointer g,q.val] E λr F=>aR F #[ab 0,ab 0,ab 0,ab 0,ab 0,ab 0,ab 0,ah 0,ab 0,ab 0,ab 0,ab 0,a0,a0,a0,ab 0,ab 0,ab 0,ab 0,a0,ab 0,ab 0,ah 0,a0,ae false,ae false,ab 0,ab 0,a0,ab 0,a0,ah 0,ab 0,ab 0,ab 0,ab 0] 45 λv B=>a8 B (af v 0) 0 r.cells λx=>b0 x (af v 26) λj=>cond (j != 0) (R (ae false) x) (dx 17 #[.pointer g,a0] x λm z=>cond (!m) (R (ae false) z) (dm 31 #[.pointer g] z λn o p C=>cz prog (cU f11 [1,1,1,1,1,1,1,1,0,1,0,0]) (xS (i64.wrap (f+1)) t c d g (af v 0) n o p 0 (ab k::ab l::ad s a b::bm 5 (ae false::ae h::ae e::undef::ad s a b::dA a::ae ((a:Int)>100)::ae false::ad t c d::dA c::ae ((c:Int)>4)::ae ((c:Int)>4)::ab i::ab f::ab (i64.wrap (f+1))::.tuple #[.pointer g,ae h,ae e]::ab (i64.wrap (f+1))::ab k::ab l::ad s a b::.tuple #[.pointer g,ae h,ae e]::.pointer g::ae h::ae e::ae e::ae (!e)::ae false::ae u::ae (!u)::ae (!u)::.pointer g::ab (i64.wrap (f+1))::q.val::r.val::jp (af v 26)::ab j::ae ((j:Int) != 0)::ae false::.pointer g::ae m::ae (!m)::ae (!m)::.pointer g::ad n o p::bm 47 []))) (aO 0 (aT f11 [1,1,1,1,1,1,1,1,1] R)) C))))))):=by kernel_rfl
theorem T0 (D:ar->aJ):W prog (sb f11 [1,1,1,1,1,1,1,1,0,1,0,0]) (xS i s a b t A u c d k j) (aZ D (aO 0 (aT f11 [1,1,1,1,1,1,1,1,1] R))) w=(cond (k<(a:Nat)) (bx s a k 1 λC=>b0 w C λx=>cG 12 #[ab x,ab 3] w λB H=>qu 16 #[ab i,ab (i64.wrap (B+1)),ah 0] H λy G=>qu 26 #[.pointer t,y.val] G λz I=>aR I #[ab 0,ab 0,ab 0,ab 0,ab 0,ab 0,ab 0,ah 0,ab 0,ab 0,ab 0,ab 0,a0,a0,a0,ab 0,ab 0,ab 0,ab 0,a0,ab 0,ab 0,ah 0,a0,ae false,ae false,ab 0,ab 0,a0,ab 0,a0,ah 0,ab 0,ab 0,ab 0,ab 0] 45 λh a6=>a8 a6 (af h 0) 0 z.cells λg=>j5 g (af h 24) λl=>cond (!l) (R (ae false) g) (b0 g (af h 26) λm=>cond (m != 0) (R (ae false) g) (b0 g (af h 35) λn=>b0 g (b5 A 35) λo=>cond (n != o) (R (ae false) g) (b0 g (af h 33) λp=>b0 g (b5 A 33) λq=>cond (!(((p:Int) == 2) == ((q:Int) == 2))) (R (ae false) g) (dm 31 #[.pointer t] g λr f e F=>dx 32 #[ad r f e,ad u c d] F λv E=>cond (!v) (R (ae false) E) (D (xS i s a b t A u c d (i64.wrap (k+1)) (ag j 0 11 (jp (af h 0)::ag j 12 40 [ab k,ad s a b,dA a,ae (k<(a:Nat)),ab k,ab (i64.wrap (k+1)),.pointer t,ab i,ad s a b,ab k,jp C,ab x,ab B,ab (i64.wrap (B+1)),y.val,z.val,jp (af h 24),ae l,ae (!l),ae false,jp (af h 26),ab m,ae ((m:Int) != 0),ae ((m:Int) != 0),ae false,jp (af h 35),ab n,bM A 35,ab o,ae ((n:Int) != o),ae ((n:Int) != o),ae false,jp (af h 33),ab p,ae ((p:Int) == 2),bM A 33,ab q,ae ((q:Int) == 2),ae (!(((p:Int) == 2) == ((q:Int) == 2))),ae (!(((p:Int) == 2) == ((q:Int) == 2))),ae false,.pointer t,ad r f e,ad u c d,ae v,ae (!v),ae (!v)]))) E)))))) (W prog (sb f11 [1,1,1,1,1,1,1,1,1]) (H6  (ab i::aH j 0::aH j 1::aH j 2::ad s a b::ag j 3 6 (.pointer t::aH j 9::aH j 10::jp A::ad u c d::ab k::ag j 11 41 (ab k::ad s a b::dA a::ae (k<(a:Nat))::ag j 56 43 [])))) (bT f11 R) w)):=by kernel_rfl
theorem UT:W prog (sb f11 [1,1,1,1,1,1,1,1,1]) (H6  j) (bT f11 R) w=(R (ae true) w):=by kernel_rfl
end
section
open dI
section
attribute [local irreducible] dP
theorem jQ.HF {z:an}{aw:bR}{X:bs}{F bE:ay}(h:jQ w z aM A aw X F)(q:cr F){g:da}(al:gD A z g (j' n)){t:bK conv}(p:dP F [kc n c] [] [] 20000=(bE,[t])) :
  a5 26 [ptr aM,(qx c 0 g).val] z λv u=>∃ r A' χ' j,v=cu.val r/\jQ w u aM A' χ' j bE/\hb A' u r t/\ao A z u/\∀ k,k<z.heap.size->A' k->A k:=by
 have a:=h.pure;refine aB (FW h.cw (by rw[a];exact q) (EE (c:=c) al ⟨by omega,by omega⟩) (λ_=>by show([]:a3).length<=200;simp)) ?_;rintro v u f;have d:mI X.pure (A4 c ⟨(c:Int),1,101,j' n,0,2,0⟩)=(bE,[t]):=by rw[a];exact p
 rw[d]at f;obtain⟨i,B,l,b,⟨y,x,o,rfl,e⟩,s,hm⟩:=h.op f;obtain rfl:t=y:=by simpa using o
 exact⟨_,rfl,x,i,B,l,rfl,b,e,s,hm⟩
theorem Zr (w:an){bx bH cA:Int}{cz cm:ak}{cR cr:Nat}{sch a:a7}(cU:dU bx)(cV:dU bH)(cW:dU cA)(dg:bl w cz (is sch))(c5:∀ x ∈ sch,dU x)(db:bl w cm (is a))(b7:∀ x ∈ a,dU x) :
  a5 11 [.int .i64 bx,.int .i64 bH,.int .i64 cA,.slice cz sch.length cR,.slice cm a.length cr] w λv u=>v=.bool true/\ai w u:=by
 refine ba Tryz.func11 ?_;rw[VO];refine bb (λh=>⟨rfl,ao.refl _ _⟩) (λ_=>bb (λh=>⟨rfl,ao.refl _ _⟩) (λde=>?_))
 refine aB (q0 _ _ _ cU (by omega)) ?_;rintro v bQ ⟨rfl,b_⟩;obtain rfl:w=bQ:=b_.symm;rw[aQ (by omega)];refine⟨_,rfl,?_⟩;obtain⟨n,da,ae⟩:∃ n:Nat,bx % 3+1=n/\1<=n/\n<=3:=⟨(bx % 3+1).toNat,by omega,by omega⟩;rw[bI (x:=bx % 3+1) (by omega) (by omega),da];refine aB (SW ae cV cW dg c5) ?_;obtain⟨y,di,W⟩:∃ y:Nat,(bH % 14).toNat=y/\y<14:=⟨(bH % 14).toNat,rfl,by omega⟩;rw[di];rintro v cl ⟨aM,sure,A,aw,X,F,G,B,g,gr,rfl,Z,M⟩;refine⟨_,_,_,rfl,dG rfl ?_⟩;refine aB (RV _) ?_;rintro v bw ⟨rfl,bm⟩;refine⟨_,rfl,dG rfl ?_⟩;have D:=Z.h_ bm;refine aB (A2 (A:=A) (λk P=>D.cw.low k P) (n:=n) (by omega) 1 0) ?_;rintro v cq ⟨dm,rfl,d,cb⟩;refine cu.aV (qx 1 0 dm) ⟨rfl,?_⟩;have p:=D.h_ d;obtain⟨aH,t1,b,v1,s1,q,bX,af,_,bq,r⟩:=PT ae W M;refine aB (p.HF M.ev (c:=1) cb bX) ?_;rintro v dA ⟨r1,cG,dR,du,rfl,aO,b8,_,_⟩;refine cu.aV r1 ⟨rfl,?_⟩;refine io (vs:=r1.cells) rfl (cu.single _) λb1 dB c2 ah bo=>?_
 have bO:=aO.h_ bo;have ag:r1.Code=0/\r1.kx=v1/\r1.ku=q:=by have:=b8.out;rw[af]at this;exact⟨this.1,this.2.1,this.2.2.2⟩
 refine⟨_,ah.cell (i:=26) rfl,dG (by rw[ag.1];rfl) ?_⟩;have bV:aH.dd=[]:=by
  unfold ay.dd;have e:hp 0 aH.aF=[]:=by
   cases a8:hp 0 aH.aF with
   |nil=>rfl
   |cons x xs=>obtain⟨i,C,cY,hm⟩:=pe.1 (show x ∈ hp 0 aH.aF by rw[a8];simp);obtain⟨m,l,c9,al,rfl⟩:=pd.1 hm;rw[(r.quiet C (b9 cY) l (b9 c9)).1]at al;simp at al
  rw[e,r.fY];rfl
 have aR:Hl λF m=>F=aH:=λF m e=>by subst e;exact⟨r.ev,λx bD=>by rw[bV]at bD;cases bD⟩
 refine aB (RM bO aR (m:=0) rfl (by omega) (sch:=[]) (sa:=none) (sc:=0) (.inl rfl) (λx bD=>nomatch bD) (by simp)) ?_;rintro v u8 ⟨rfl,cp,dq,cQ,bz,dy,E,rfl,b5,bN⟩;refine⟨_,rfl,dG rfl ?_⟩;have L:¬ cG b1:=λH=>by have:=aO.cw.low b1 H;omega
 have cj:=b5.aj ah L;have ab:¬ cp b1:=λH=>L (bN b1 (ah.lt) H)
 have U:=E.pure;refine aB (Eo E.cw (mP.calm (by rw[U];exact r))) ?_;rintro v dC ⟨bA,bM,bK,rfl,S,a',Q,b3⟩;rw[U]at S a';have bP:=E.h_ Q;refine⟨_,_,_,rfl,?_⟩;refine cZ mix (λm env z=>∃ (i:Nat) (A:a4) (aw:bR) (X:bs) (F:ay) (aC:ax),m=a.length-i/\i<=a.length/\env=xS n cm a.length cr (some ⟨aM,0,none⟩) ⟨b1,0,none⟩ bA bM bK i aC/\jQ w z aM A aw X F/\mP n y b q F/\oa F=oa bz/\aX z f8 1 bA bM bK (dz (oa bz))/\(∀ k,aP bA k->¬ A k)/\av z b1 r1.cells 45/\¬ A b1) a.length
  ⟨0,cp,dq,cQ,bz,_,rfl,by omega,rfl,bP,r,rfl,S,λk P H=>by have:=b3 k P;have:=E.cw.low k H;omega,ai.aj Q cj,ab⟩ ?_
 rintro m env z ⟨i,A',χ',dt,bE,aC,rfl,c7,rfl,bC,ct,bh,aq,R,br,a0⟩;rw[T0];refine bb (λad=>?_) (λc4=>?_)
 ·have ad:i<a.length:=by omega
  refine B2 (db.new bC.new) (b2 ad) rfl rfl λdx o a8=>⟨_,a8 _ (ao.refl _ _),?_⟩
  refine aB (q0 _ _ _ (b7 _ (sj ad)) (by omega)) ?_;rintro v dn ⟨rfl,cd⟩;obtain rfl:z=dn:=cd.symm;rw[aQ (by omega)];refine⟨_,rfl,?_⟩;obtain⟨c,a8,bT⟩:∃ c:Nat,a[i] % 3+1=c/\1<=c/\c<4:=⟨(a[i] % 3+1).toNat,by omega,by omega⟩;rw[bI (x:=a[i] % 3+1) (by omega) (by omega),a8];refine aB (A2 (A:=A') (λk P=>bC.cw.low k P) (n:=n) (by omega) c 0) ?_;rintro v dE ⟨cn,rfl,f,ca⟩;refine cu.aV (qx c 0 cn) ⟨rfl,?_⟩;have Z:=bC.h_ f;obtain⟨cI,dr,v2,s2,b0,V,aZ,N⟩:=LX ae W ct bT;refine aB (Z.HF ct.ev (c:=c) ca b0) ?_;rintro v dK ⟨aG,cF,dp,cP,rfl,D,J,bj,bk⟩;refine cu.aV aG ⟨rfl,?_⟩;refine io (vs:=aG.cells) rfl (cu.single _) λdv cB c3 K d=>?_
  have p:=D.h_ d;have I:aG.m1=true/\aG.Code=0/\aG.kx=v2/\aG.ku=q:=⟨J.en,J.out.1,J.out.2.1,J.out.2.2.2⟩;have cy:=f.size;have t:av cB b1 r1.cells 45:=ai.aj d (bj.aj (ai.aj f br) a0);have Y:aX cB f8 1 bA bM bK (dz (oa bz)):=((aq.new f).aA bj R).new d;refine⟨_,K.cell (i:=24) rfl,dG (by rw[I.1];rfl) ⟨_,K.cell (i:=26) rfl,dG (by rw[I.2.1];rfl) ⟨_,K.cell (i:=35) rfl,_,t.cell (i:=35) rfl,dG (by rw[I.2.2.2,ag.2.2];simp) ⟨_,K.cell (i:=33) rfl,_,t.cell (i:=33) rfl,dG ?_ ?_⟩⟩⟩⟩
  ·rw [I.2.2.1,ag.2.1];have cS:(v2 == 2)=b:=by
    cases b
    ·exact beq_eq_false_iff_ne.2 λe=>nomatch V.1 e
    ·exact beq_iff_eq.2 (V.2 rfl)
   have cT:(v1 == 2)=b:=by
    cases b
    ·exact beq_eq_false_iff_ne.2 λe=>nomatch bq.1 e
    ·exact beq_iff_eq.2 (bq.2 rfl)
   rw[cS,cT];simp
  have T:=p.pure;refine aB (Eo p.cw (mP.calm (by rw[T];exact aZ))) ?_;rintro v dL ⟨jD,fn,k5,rfl,s,O,j,_⟩;rw[T,N,bh]at s O;refine⟨_,_,_,rfl,?_⟩;refine aB (R1 s.rd O ((Y.new j).rd) a') ?_;rintro v dN ⟨rfl,rfl⟩;rw[bI (x:=(i:Int)+1) (by omega) (by omega)];refine⟨_,rfl,dG rfl ⟨a.length-(i+1),by omega,i+1,cF,dp,cP,cI,_,rfl,by omega,rfl,p.h_ j,aZ,N.trans bh,Y.new j,λk P H=>?_,ai.aj j t,λH=>?_⟩⟩
  ·have:=aq.lt P;exact R k P (bk k (by omega) H)
  ·have:=br.lt;exact a0 (bk b1 (by omega) H)
 ·rw[UT];exact⟨rfl,bC.new⟩
end
end
section
open Go.ChangeShapes Go.WideShapes Go.ChangeAt Go.RowKit
theorem laid:laidOutB prog=true:=by kernel_rfl
theorem SJ:ownKnob prog.godebug=none:=by kernel_rfl
theorem J6 {H:Type}{enc:bY×bf->H}{W W':an}{sp:Nat->Bool}:∀ {ts:List bY} {vs:ax} {ds:List (DataW H)} {cx:List MemPlace},(∀ t ∈ ts,prog.readableRec t=true/\t<prog.types.size)->DataW.TrodAll enc prog W 0 (λ_=>true) true ts vs ds cx->
  (∀ p ∈ cx,W.sameAt W' p)->(∀ p ∈ cx,sp p.block=true)->DataW.TrodAll enc prog W' 0 sp true ts vs ds cx
 | [],_,_,_,_,h,_,_=>by obtain⟨rfl,rfl,rfl⟩:=trodAll_nil h;exact trodAll_mk0
 |t::ts,_,_,_,e,h,g,f=>by obtain⟨v,l,d,i,a,b,rfl,rfl,rfl,j,k⟩:=trodAll_cons h;refine trodAll_cons_mk (WideElems.Trod_stays laid (e t fR).1 (e t fR).2 j (λp c=>g p (Cv _ c)) λp c=>f p (Cv _ c)) ?_;exact J6 (λt h=>e t (fG _ h)) k (λp c=>g p (List.mem_append_right _ c)) λp c=>f p (List.mem_append_right _ c)
theorem PU {H:Type}{enc:bY×bf->H}{f:Func}{s:ChangeSpec}{apart:Bool}{W W':an}{ds gs:List (DataW H)}{before:List MemPlace}{tb:bY}(fu:DataW.Whole enc prog f.params.toList s.vars apart W args.toList ds gs before)
  (k:Go.bJ.ai W W') (e:∀ t ∈ f.params.toList,prog.readableRec t=true/\t<prog.types.size) (al:s.vars=[]) (a:s.fn H (ds++gs)={results:=[.lit (.bool true)],args:=ds}) (o:f.resultTypes=#[tb]) (d:prog.underlying tb=some .bool) :
  s.post enc prog f apart true false false W args (.bool true) W':=by
 have g:Go.RowKit.Below W.heap.size W W':=k.below (db _) λ_ _ h=>h
 have c:=fu.lt;have b:=fu;obtain⟨p,q,j,r,rfl,l,n⟩:=fu;refine⟨ds,gs,p++q,[],p,[],b,?_,?_,?_,g.frame _,λh=>by cases h⟩
 ·rw[a,o];exact trodAll_cons_mk (shut_bool d _) trodAll_mk0
 ·rw[a];exact J6 e j (λx i=>g.same (c x (Cv _ i))) λx i=>by grind
 ·rw[a,al];rfl
theorem xc {n:Int}(h:(Lit.int .i64 n).wf=true):dU n:=by have:=bounds_i64 h;exact⟨this.1,by omega⟩
end
section
open Go.ChangeShapes Go.WideShapes Go.ChangeAt Go.RowKit
theorem Er {sz:Nat}(b:0<sz):∀ {rows:List ax} {j:Nat} {u:bf},(∀ r ∈ rows,r.length=sz)->rows.flatten[j]?=some u->∃ r,rows[j / sz]?=some r/\r[j % sz]?=some u
 | [],j,u,_,h=>by grind
 |r::rows,j,u,c,h=>by
  have i:=c r fR;rw[lD,sg]at h;by_cases l:j<sz
  ·rw[bh (by omega)]at h
   grind[Nat.div_eq_of_lt,Nat.mod_eq_of_lt]
  ·rw[aQ (by omega),i]at h;obtain⟨k,f,g⟩:=Er b (λr a=>c r (fG _ a)) h;have d:j / sz=(j-sz) / sz+1:=by rw[Nat.div_eq_sub_div b (by omega)]
   have e:j % sz=(j-sz) % sz:=by rw[Nat.mod_eq_sub_mod (by omega)]
   exact⟨k,by rw[d];simpa using f,by rw[e];exact g⟩
theorem OS {a:aU}(h:w.cell? a=some v):a.spot=none:=by
 cases b:a.spot with
 |none=>rfl
 |some s=>
  exfalso;unfold World.cell? at h
  grind
theorem Nn {H:Type}{enc:bY×bf->H}{W:an}{fuel:Nat}{cs:ax}{x:DataW H×List MemPlace}(G:P.underlying t=some (.slice e))(M:P.cellsOf e=k)(w:0<k)
  (E:DataW.trod enc P W 0 (λ_=>true) held fuel t cs=some x):∃ a cap rows,cs=[.slice a (List.length rows) cap]/\rows.length<=cap/\bl W a rows.flatten/\∀ r ∈ rows,r.length=k/\∃ fuel x,DataW.trod enc P W 0 (λ_=>true) held fuel e r=some x:=by
 rcases Deep.open_slice G E with⟨s,_⟩ | ⟨bF,len,cap,m,n,D,A,s,_,J,_,K,_,L⟩
 ·exact⟨none,0,[],s,db _,.inl rfl,λx I=>by cases I⟩
 ·subst s;have hm:len<=m:=by grind
  obtain⟨f,g⟩:=Deep.choose_lt (α:=ax) (p:=λi cs=>W.cells? 0 (bF.add (i*k)) k=some cs/\DataW.trod enc P W 0 (λ_=>true) held n e cs=some (D i,A i)) (n:=m) (λi h=>by
   grind)
  have d:∀ (i:Nat) (r:ax),((List.range len).map f)[i]?=some r->i<len/\r=f i:=by
   grind
  have c:∀ r ∈ (List.range len).map f,r.length=k:=by intro r z;obtain⟨i,h⟩:=ez.1 z;obtain⟨h,rfl⟩:=d i r h;exact(World.cells?_some (g i (by omega)).1).2.1
  refine⟨some bF,cap,(List.range len).map f,by simp,by grind,?_,λr z=>⟨c r z,?_⟩⟩
  ·by_cases o:len=0
   ·subst o;exact .inl rfl
   ·have b:∀ (i q:Nat) (u:bf),i<len->(f i)[q]?=some u->q<k->W.cell? (bF.add (i * k+q))=some u:=by
     intro i q u h N y;have:=(World.cells?_some (g i (by omega)).1).2.2 q y;rw[Deep.add_add]at this
     grind
    have F:=(World.cells?_some (g 0 (by omega)).1).2.1;have O:bF.spot=none:=by have l:=b 0 0 _ (by omega) (b2 (by omega)) w;have:=OS l;simpa[Addr.add]using this
    refine .inr ⟨bF.block,bF.off,by cases bF;simp_all,λj u hu=>?_⟩;obtain⟨r,B,C⟩:=Er w c hu;obtain⟨h,rfl⟩:=d _ _ B;have l:=b (j / k) (j % k) u h C (Nat.mod_lt _ w);rw[Nat.mul_comm,Nat.div_add_mod]at l;rw[<-l];unfold Addr.add;split
    ·rename_i o;subst o;cases bF;simp_all
    grind
  grind
theorem OT {H:Type}{enc:bY×bf->H}{W:an}{d:DataW H}(f:P.underlying t=some (.slice e))(j:P.cellsOf e=k)(o:0<k)(c:Value.okWide P W r lM t v)
  (l:DataW.Trod enc P W 0 (λ_=>true) held t v d cx):∃ a cap rows,v=.slice a (List.length rows) cap/\bl W a rows.flatten/\∀ r ∈ rows,r.length=k/\∃ fuel x,DataW.trod enc P W 0 (λ_=>true) held fuel e r=some x:=by
 obtain⟨a,len,cap,rfl⟩:=okWide_slice f c;obtain⟨fuel,n⟩:=l;obtain⟨g,b,rows,h,_,p,q⟩:=Nn f j o n;have i:[Value.slice a len cap]=[.slice g rows.length b]:=h
 grind
theorem Eb {H:Type}{enc:bY×bf->H}{W:an}{d:DataW H}(p:P.underlying t=some (.slice e))(he:P.underlying e=some (.int .i64))(l:P.cellsOf e=1)(b:Value.okWide P W r lM t v)
  (o:DataW.Trod enc P W 0 (λ_=>true) held t v d cx):∃ a cap xs,v=.slice a (List.length xs) cap/\bl W a (is xs)/\∀ x ∈ xs,dU x:=by
 obtain⟨a,cap,rows,rfl,s,g⟩:=OT p l (by omega) b o;have hint:∀ r ∈ rows,∃ n,r=[.int .i64 n]/\dU n:=by
  intro r f;obtain⟨_,fuel,x,c⟩:=g r f;obtain⟨n,e,_,w⟩:=DataW.trod_int he c
  grind[xc]
 clear g;have key:∀ rows:List ax,(∀ r ∈ rows,∃ n,r=[Value.int .i64 n]/\dU n)->∃ xs:a7,rows.length=xs.length/\rows.flatten=is xs/\∀ x ∈ xs,dU x:=by
  intro rows;induction rows with
  |nil=>intro _;exact⟨[],rfl,rfl,λx c=>by cases c⟩
  |cons r rows q=>
   intro h;obtain⟨n,rfl,u⟩:=h r fR;obtain⟨xs,i,j,k⟩:=q λr f=>h r (fG _ f)
   refine⟨n::xs,by grind,by grind[is],λx c=>?_⟩
   grind
 obtain⟨xs,i,j,k⟩:=key rows hint
 grind
end
section
open Go.ChangeShapes Go.WideShapes Go.ChangeAt Go.RowKit
theorem No {H:Type}{enc:bY×bf->H}{base:Nat}{spare:Nat->Bool}{t0 t1 t2 t3 t4:bY}{ds:List (DataW H)}(h:DataW.TrodAll enc P w base spare held [t0,t1,t2,t3,t4] args.toList ds cx) :
  ∃ v0 v1 v2 f v4 d0 d1 d2 d3 d4 a b c d e,args=#[v0,v1,v2,f,v4]/\ds=[d0,d1,d2,d3,d4]/\cx=a++b++c++d++e/\DataW.Trod enc P w base spare held t0 v0 d0 a/\DataW.Trod enc P w base spare held t1 v1 d1 b/\DataW.Trod enc P w base spare held t2 v2 d2 c/\DataW.Trod enc P w base spare held t3 f d3 d/\DataW.Trod enc P w base spare held t4 v4 d4 e:=by
 obtain⟨v0,eb,d0,t,a,E,g,rfl,rfl,i,o⟩:=trodAll_cons h;obtain⟨v1,A,d1,u,b,F,rfl,rfl,rfl,j,p⟩:=trodAll_cons o;obtain⟨v2,B,d2,x,c,G,rfl,rfl,rfl,k,q⟩:=trodAll_cons p;obtain⟨f,C,d3,y,d,I,rfl,rfl,rfl,l,r⟩:=trodAll_cons q;obtain⟨v4,D,d4,z,e,J,rfl,rfl,rfl,n,s⟩:=trodAll_cons r;obtain⟨rfl,rfl,rfl⟩:=trodAll_nil s;exact⟨v0,v1,v2,f,v4,d0,d1,d2,d3,d4,a,b,c,d,e,by cases args;simp_all,rfl,by simp,i,j,k,l,n⟩
theorem PV (os:Os)(started:os.Started)(H:Type)(enc:bY×bf->H) :
  ReturnsInHanded {} Tryz.checked os 11 .any (Rows.recoveryAgainSpec.pre6 enc prog f11 Rows.recoveryAgainRow.domain false) (Rows.recoveryAgainSpec.post enc prog f11 false true false false):=by
 refine returnsInHanded_of_change (C:=Tryz.checked) SJ started (by kernel_rfl) Tryz.func11
  (ChangeSpec.witness6 (enc:=enc) (C:=Tryz.checked) false ⟨#[],#[.int .i64 0,.int .i64 0,.int .i64 0,.slice none 0 0,.slice none 0 0],[]⟩ 8 (by kernel_rfl) (by kernel_rfl) (by kernel_rfl) (by kernel_rfl)) ?_
 intro W base args ds gs before b fu g _;have a:∀ (j:Nat) t v,f11.params[j]?=some t->args[j]?=some v->Value.okWide prog W .any base t v:=b;have d:=fu;obtain⟨p,q,c,o,rfl,r,u⟩:=fu;have f:DataW.TrodAll enc prog W 0 (λ_=>true) true f11.params.toList args.toList ds p:=c;rw[Tryz.params11]at f a;obtain⟨v0,v1,v2,A,v4,d0,d1,d2,d3,d4,O,P,Q,R,S,rfl,rfl,rfl,h,i,k,l,n⟩:=No f;obtain⟨rfl,rfl⟩:=trodVars_none o;obtain⟨F,rfl,_,_,w0⟩:=open_int Tryz.underlying3 (a 0 _ v0 rfl rfl) h;obtain⟨G,rfl,_,_,w1⟩:=open_int Tryz.underlying3 (a 1 _ v1 rfl rfl) i;obtain⟨bW,rfl,_,_,B⟩:=open_int Tryz.underlying3 (a 2 _ v2 rfl rfl) k;obtain⟨I,K,M,rfl,y,D⟩:=Eb Tryz.underlying22 Tryz.underlying3 (by kernel_rfl) (a 3 _ A rfl rfl) l;obtain⟨J,L,N,rfl,z,E⟩:=Eb Tryz.underlying22 Tryz.underlying3 (by kernel_rfl) (a 4 _ v4 rfl rfl) n;refine(Zr W (xc w0) (xc w1) (xc B) y D z E).mono λe W' ⟨x,he,w,s⟩=>?_
 subst he w;refine⟨_,rfl,PU d s (by rw[Tryz.params11];decide +kernel) rfl rfl (tb:=4) (by kernel_rfl) Tryz.underlying4⟩
theorem Tp:Rows.recoveryAgainRow.wf (OpenSpec.ofChange Rows.recoveryAgainSpec)=true:=by kernel_rfl
theorem Tq:mapsRowed prog=true:=by kernel_rfl
theorem Tr:f11.params.all (prog.readableRec ·)=true:=by kernel_rfl
theorem Ts:namedTie prog Rows.recoveryAgainRow.named Rows.recoveryAgainSpec.vars=true:=by kernel_rfl
theorem Tt:(Rows.recoveryAgainRow.inPlace == prog.inPlace 11)=true:=by kernel_rfl
theorem Tu:(Rows.recoveryAgainRow.unfollowed == prog.unfollowed 11)=true:=by kernel_rfl
theorem Tv:(Rows.recoveryAgainRow.recurses == prog.recurses 11)=true:=by kernel_rfl
theorem Tw:(Rows.recoveryAgainRow.named == prog.varsNamed 11)=true:=by kernel_rfl
theorem PW:joinedFacts prog 11 f11 Rows.recoveryAgainSpec Rows.recoveryAgainRow=true:=by unfold joinedFacts;rw[Tp,laid,Tq,Tr,Ts,Tt,Tu,Tv,Tw];kernel_rfl
theorem R5:Rows.recoveryAgainRow.holds Tryz.pinned (OpenSpec.ofChange Rows.recoveryAgainSpec):=
 OpenClaim.holds_of_wide 11 f11 rfl rfl rfl rfl rfl rfl rfl ⟨rfl,rfl,rfl,rfl,rfl⟩ rfl rfl rfl rfl rfl (by kernel_rfl) Tryz.func11 PW
  (qK (by kernel_rfl)) (by unfold Func.isWrapper;first | (rw[bh (by decide +kernel)];kernel_rfl) | (rw[aQ (by decide +kernel)];exact⟨rfl,rfl⟩))
  (λos started H enc _=>PV os started H enc)
theorem recoveryAgain_holds:Rows.RecoveryAgainSaid:=R5
#print axioms recoveryAgain_holds
end
end Go.Proofs.YtmkljjbioomepaaGreat
