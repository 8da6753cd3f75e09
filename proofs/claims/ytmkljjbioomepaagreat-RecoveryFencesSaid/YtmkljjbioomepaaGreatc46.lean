import Derived.Test.YtmkljjbioomepaaGreatc44
import Derived.Test.YtmkljjbioomepaaGreatc45
import Derived.Test.YtmkljjbioomepaaGreatc04
import Derived.Test.YtmkljjbioomepaaGreatc13
import Derived.Test.YtmkljjbioomepaaGreatc23
set_option linter.all false
set_option maxHeartbeats 4000000
set_option maxRecDepth 100000
namespace Go.Proofs.YtmkljjbioomepaaGreat
open Go.Proofs.Tryz Go.br
variable {A:a5} {F:aM} {X:bQ} {a:al} {b:Bool} {c:Int} {cc aN n y:Nat} {c_:cX} {u w:ak} {x:a0} {aw:Nat->Tag}
section
open g4
theorem Cf {x:Int} (F:ec x):a_ 19 [.int .i64 x] w λv u=>∃ a c,v=.slice a (ej (x % 14).toNat).length c/\bh u a (is (bz (ej (x % 14).toNat)))/\ai w u:=by
 refine bc Tryz.func19 ?_;rw [TU];obtain ⟨y,G,j⟩:∃ y:Nat,x % 14=y/\y<14:=⟨(x % 14).toNat,by omega,by omega⟩;refine c2 mix (λm env u=>∃ (i:Nat) (a:al) (n c:Nat) (z:ax),m=4 - i/\i<=4/\n=(mq y i).length/\env=tZ x a n c i z/\ai w u/\a2 u 3 1 a n c (is (bz (mq y i)))/\∀ k,aK a k->w.heap.size<=k) 4
  ⟨0,none,0,0,_,rfl,by omega,rfl,rfl,ao.refl _ _,a2.nil _ _ _,λk q=>(sC q).elim⟩ ?_
 rintro m env u ⟨i,a,n,c,z,rfl,H,rfl,rfl,l,d,f⟩;rw [Rl];refine a' (λh=>?_) (λD=>?_)
 ·have h:i<4:=by omega
  refine aC (s' _ _ _ F (by omega)) ?_;rintro v bE ⟨rfl,rfl⟩;rw [if_neg (by omega),G];refine ⟨_,rfl,?_⟩;have hlen:=H_ y i;have A:IntKind.i64.wrap ((y:Int)+1)=((y+1:Nat):Int):=by rw [bC (by omega) (by omega)];omega
  have B:IntKind.u64.wrap (i:Int)=(i:Int):=jH (by omega) (by omega);dsimp only;rw [A,B,Jn y j i h,bC (x:=(i:Int)+1) (by omega) (by omega),bC (x:=96+(i:Int)) (by omega) (by omega)];refine ⟨by omega,fS (λp=>?_) (λp=>?_)⟩
  ·refine Mt d (x:=96+(i:Int)) (by omega) ?_;intro b ap cap bu C s r o;have E:=l.size;have g:=GR y i;rw [if_pos p] at g;refine ⟨4 - (i+1),by omega,i+1,ap,_,cap,_,rfl,by omega,by rw [g,dH];rfl,rfl,r' l r f,?_,λk q=>?_⟩
   ·rw [g];have:is (bz (mq y i++[96+i]))=is (bz (mq y i)++[96+(i:Int)]):=by simp [is,bz]
    rw [this];exact s
   ·rcases o k q with t | t
    ·exact f k t
    ·omega
  ·have g:=GR y i;rw [if_neg (by simp [p]),iW] at g;exact ⟨4 - (i+1),by omega,i+1,a,_,c,_,rfl,by omega,by rw [g],rfl,l,by rw [g];exact d,f⟩
 ·have:i=4:=by omega
  subst this;rw [RD];have e:(x % 14).toNat=y:=by omega
  rw [e];exact ⟨a,c,rfl,d.rd,l⟩
def uO:ca:=⟨0,0,⟨0⟩,⟨0,0,0,0,0⟩,⟨0,0,0,⟨0,none,0,0⟩,none,0,0,none,0,0⟩,⟨0,0,0,⟨0,none,0,0⟩,0,0,0⟩,none,0,0,false,false,0,⟨0,none,0,0⟩,0,none,0,0,0,0,0,0,0⟩
def jl (c seq lines:Int) (c_:cX) (de:al) (wl eN:Nat):ca:={ uO with Kind:=3,Client:=c,cZ:=⟨c,seq,lines,c_,none,0,0,de,wl,eN⟩ }
def pG (c prev:Int) (c_:cX):ca:={ uO with Kind:=4,Client:=c,Recover:=⟨c,1,101,c_,0,2,prev⟩ }
def tK (p:aJ):aJ:={ p with Head:=tr .u64 p.Head 255,vo:=IntKind.u64.wrap (p.vo+1) }
def pf (n:a0) (L:cQ):List aJ:=L.map λl=>tK (n.d_ l)
theorem B9 (h:bZ A aw w aN X) (VR:1<=n/\n<=5) {x:g_} (V5:X.nodes[0]?=some x) (ar:x.n.down=false)
  {L:cQ} (VV:∀ l ∈ L,96<=l/\l<256/\l * 8+8<=x.n.words.length) (hlen:L.length<=1000) (V0:bh w a (is (bz L))) (c seq:Int) :
  a_ 24 [ptr aN,.int .i64 n,.int .i64 c,.int .i64 seq,.slice a L.length cc] w λv u=>∃ c_ de eN,v=.tuple #[(jl c seq 101 c_ de L.length eN).val,.bool true]/\ai w u/\f0 A u c_ (j2 n)/\a2 u ep 9 de L.length eN (hV (pf x.n L)).flatten/\∀ k,aK de k->w.heap.size<=k:=by
 refine bc Tryz.func24 ?_;rw [ptr,S8];rintro b1 w1 Vy V;obtain ⟨f,Q⟩:=bl Vy V;have f:av w1 b1 uO.cells 45:=f;clear V;refine aC (yH _ (n:=n) (by omega) (by omega)) ?_;rintro v Vw ⟨c_,Wa,rfl,an,j,_,rfl⟩;have VZ:=f.lt;have V1:=Q.size;have V2:=j.size;have an:f0 (λk=>k<w1.heap.size\/Vw.heap.size<=k) Vw c_ (j2 n):=an.mono λk r d=>d.resolve_right (by omega)
 refine cX.aS c_ ⟨rfl,?_⟩;rintro aA Wb N W;obtain ⟨Vs,J⟩:=bl N W;have F:=ai.aj (j.new J) f;clear W;refine dO (vs:=dv.cells ⟨c,seq,101,c_,none,0,0,none,0,0⟩) Vs rfl (dv.single ⟨c,seq,101,c_,none,0,0,none,0,0⟩) λVU Vt p=>?_
 have G:=p.aj F (by omega);have y:ai Vw VU:=J.trans p λk r e=>by omega
 have K:ai w VU:=(Q.new j).new y;have O:aA=Vw.heap.size:=N;have VH:=an.new y;clear f F Vs p J y;refine c2 mix (λq env z=>∃ (i:Nat) (de:al) (eN:Nat) (VS:ax),q=L.length - i/\i<=L.length/\env=wy ⟨aN,0,none⟩ c a L.length cc ⟨b1,0,none⟩ ⟨aA,0,none⟩ i VS/\ai w z/\f0 (λk=>k<w1.heap.size\/Vw.heap.size<=k) z c_ (j2 n)/\av z b1 uO.cells 45/\av z aA (dv.cells ⟨c,seq,101,c_,none,0,0,de,i,eN⟩) 39/\a2 z ep 9 de i eN (hV (pf x.n (L.take i))).flatten/\∀ k,aK de k->aA<k) L.length
  ⟨0,none,0,_,rfl,by omega,rfl,K,VH,G,Vt,a2.nil _ _ _,λk d=>(sC d).elim⟩ ?_
 clear G Vt;rintro q env z ⟨i,de,eN,VS,rfl,V8,rfl,P,U,f,M,B,g⟩;rw [QM];refine a' (λr=>?_) (λVY=>?_)
 ·have t:i<L.length:=by omega
  obtain ⟨VD,O,VE⟩:=VV L[i] (kb t);have VP:(bz L)[i]?=some (L[i]:Int):=by simp [bz,t]
  have S:pf x.n (L.take (i+1))=pf x.n (L.take i)++[tK (x.n.d_ L[i])]:=by unfold pf;rw [Hc t,iX];rfl
  generalize L[i]=l at VD O VE VP S;refine Ge (V0.new P) VP rfl (by simp [bz]) λb o VX=>⟨_,VX _ (ao.refl _ _),?_⟩
  refine aC (AC (h.new P) V5 (l:=l) (by omega) (by omega) ar) ?_;rintro v V9 ⟨rfl,j⟩;refine aJ.aS (x.n.d_ l) ⟨true,rfl,?_⟩;rintro VM bu Vz T;obtain ⟨Vv,R⟩:=bl Vz T;clear T;refine dO (vs:=(x.n.d_ l).cells) Vv rfl (aJ.single _) λV6 au p=>?_
  have K:ai z V6:=(j.new R).trans p λk r e=>by have:=j.size;omega
  have VO:z.heap.size<=VM:=by have:=j.size;omega
  clear Vv R p;refine cR rfl ⟨_,au.cell (i:=1) rfl,?_⟩;refine rp au (o:=1) (by simp [aJ.cells]) λV_ Vu VB=>?_
  refine ns (by omega) (by omega) ⟨_,Vu.cell (i:=2) rfl,?_⟩;refine ns (by omega) (by omega) ?_;refine rp Vu (o:=2) (by simp [aJ.cells]) λVT VJ VC=>?_
  have VK:av VT VM (tK (x.n.d_ l)).cells ep:=VJ;have s:ai z VT:=K.trans (VB.trans VC λ_ _ h=>h) λk r e=>by omega
  have Y:=ai.aj s f;have H:=ai.aj s M;refine ⟨_,_,_,H.cell (i:=6) rfl,?_⟩;refine aJ.aS (tK (x.n.d_ l)) ⟨bK VK rfl,?_⟩;refine MI (B.new s) (by omega) ?_;intro V7 ap cap u8 VW VG C Vx;have Z:=C.aj Y (λe=>by have:=g b1 e;omega);have Vr:=C.aj H (λe=>by have:=g aA e;omega);have VQ:=M.lt;have V3:=s.size;have V4:=P.size;have E:∀ k,aK ap k->aA<k:=λk d=>by
   rcases Vx k d with VN | VN
   ·exact g k VN
   ·omega
  refine rp (b:=aA) Vr (o:=6) (by simp [dv.cells]) λV' VL D=>?_
  rw [bC (x:=(i:Int)+1) (by omega) (by omega)];have VF:ai w u8:=r' (P.new s) C λk d=>by have:=g k d;omega
  have VI:=((U.new s).az C λk d=>.inr (by have:=g k d;omega)).az D λk e=>.inr (by omega)
  exact ⟨L.length - (i+1),by omega,i+1,ap,cap,_,rfl,by omega,rfl,VF.trans D λk r e=>by omega,VI,D.aj Z (by omega),VL,by rw [S];exact VG.az D λk d e=>by have:=E k d;omega,E⟩
 ·have VA:i=L.length:=by omega
  subst VA;rw [RP];rw [hv] at B;refine dv.aS ⟨c,seq,101,c_,none,0,0,de,L.length,eN⟩ ⟨bK M rfl,?_⟩;refine dO (vs:=(jl c seq 101 c_ de L.length eN).cells) f rfl (ca.single _) λbE au d=>?_
  refine ca.aS (jl c seq 101 c_ de L.length eN) ⟨bK au rfl,rfl,c_,de,eN,rfl,P.trans d λk r e=>by omega,?_,B.az d λk I e=>by have:=g k I;omega,λk I=>by have:=g k I;omega⟩;exact (U.az d λk e=>.inl (by omega)).mono λk _ d=>.inl (by have:=h.low k d;omega)
theorem Ew (l:∀ k,A k->k<w.heap.size) (j:1<=n/\n<=5) (c prev:Int) :
  a_ 16 [.int .i64 n,.int .i64 c,.int .u64 prev] w λv u=>∃ c_,v=(pG c prev c_).val/\ai w u/\f0 A u c_ (j2 n):=by
 refine bc Tryz.func16 ?_;rw [wn];rintro b1 w1 h g;obtain ⟨a,d⟩:=bl h g;have a:av w1 b1 uO.cells 45:=a;clear g;refine aC (yH _ (n:=n) (by omega) (by omega)) ?_;rintro v t ⟨c_,s,rfl,an,f,_,rfl⟩;have r:=d.size;refine cX.aS c_ ⟨rfl,?_⟩;refine dO (vs:=(pG c prev c_).cells) (ai.aj f a) rfl (ca.single _) λx i b=>?_
 refine ca.aS (pG c prev c_) ⟨bK i rfl,rfl,c_,rfl,(d.new f).trans b λk q e=>by omega,?_⟩;have p:=a.lt;exact (an.az b λk e=>(by show k<w1.heap.size;omega)).mono λk _ o=>(by have:=l k o;show k<w1.heap.size;omega)
end
section
open g4
def zm (c:Int) (j:cS):b9 g4.conv:=⟨c,.inl j,[],false,false,.inl (0,0)⟩
def Ex (c:Int) (j:b2):b9 g4.conv:=⟨c,.inr j,[],false,false,.inr ⟨0,0,0,0,0⟩⟩
structure EB (p:aJ):Prop where
 head:b8 p.Head
 data:∀ x ∈ hz p,b8 x
theorem Cg {seq lines:Int} {de:al} {wl eN:Nat} {W:List aJ} (an:f0 A u c_ (j2 n))
  (hw:bh u de (hV W).flatten) (d:wl=W.length) (b:W.length<=1000000) (e:(hV W).flatten=[]\/gd A de) (hu:∀ p ∈ W,EB p) :
  gu A u (jl c seq lines c_ de wl eN) (zm c ⟨c,seq,lines,j2 n,[],W⟩):=
 ⟨rfl,rfl,rfl,rfl,hG.nil _ _ _,rfl,cO _,⟨⟨rfl,rfl,rfl,⟨A,an⟩,.inl rfl,rfl,by simp,⟨hw,d,b,λp a=>(hu p a).head⟩⟩,an,.inl rfl,e,λp a=>(hu p a).data⟩,⟨rfl,rfl⟩,by show ([]:List (List aL)).length<=201;simp⟩
theorem Ch {prev:Int} (an:f0 A u c_ (j2 n)) (a:b8 prev) :
  gu A u (pG c prev c_) (Ex c ⟨c,1,101,j2 n,0,2,prev⟩):=
 ⟨rfl,rfl,rfl,rfl,hG.nil _ _ _,rfl,cO _,⟨⟨rfl,rfl,rfl,⟨A,an⟩,rfl,rfl,rfl,a⟩,an⟩,⟨rfl,rfl,rfl,rfl⟩,by show ([]:List (List aL)).length<=201;simp⟩
structure Mx (w z:ak) (aN:Nat) (A:a5) (aw:Nat->Tag) (X:bQ) (F:aM):Prop where
 cl:bZ A aw z aN X
 pure:X.pure=F
 new:ai w z
 own:∀ k,A k->w.heap.size<=k
section
variable {w z:ak} {aN:Nat} {A:a5} {aw:Nat->Tag} {X:bQ} {F:aM}
theorem e'.owns {w0 w u:ak} {L B:a5} {dq:Nat->Tag} {e:bQ} (t:e' A aw w aN L u B dq X) (f:bZ A aw w aN e) (g:ai w0 w) (d:∀ k,A k->w0.heap.size<=k):∀ k,B k\/L k->w0.heap.size<=k:=λk a=>by
 have h:=g.size;rcases a with a | a
 ·rcases (t.next.iff k).1 a with b | ⟨_,b,_⟩
  ·by_cases c:k<w.heap.size
   ·exact d k (f.fj k (t.next.grow k c b))
   ·omega
  ·exact d k b
 ·have:=(t.loc k a).1;omega
attribute [local irreducible] eX
end
end
section
open g4
theorem o0.Ps (h:o0 n y b X.pure.nodes):CO X n 101:=by
 have get:∀ (i:Nat) (x:g_),X.nodes[i]?=some x->X.pure.nodes[i]?=some x.n:=λi x a=>by simp [bQ.pure,a]
 refine ⟨by rw [<-h.len];simp [bQ.pure],λi x d a c=>h.Pr (get i x a) (get 0 d c),λi x a=>?_,by omega,by omega⟩;rw [(h.up i _ (get i x a)).2];omega
theorem KC (h:bZ A aw w aN X) (VC:1<=n/\n<=3) (Vy:y<14) (ay:o0 n y b X.pure.nodes) (Vx:bh w a (is (bz (ej y)))) :
  a_ 18 [ptr aN,.slice a (ej y).length cc] w λv u=>v=.tuple #[.bool b,.bool (!b),.bool true]/\ai w u:=by
 have get:∀ (i:Nat) (x:g_),X.nodes[i]?=some x->X.pure.nodes[i]?=some x.n:=λi x C=>by simp [bQ.pure,C]
 have hlen:X.nodes.length=n:=by rw [<-ay.len];simp [bQ.pure]
 obtain ⟨Vt,Vu⟩:=rt y Vy;refine bc Tryz.func18 ?_;rw [ptr,S7];refine aC (yM h) ?_;rintro v bE ⟨rfl,P⟩;obtain rfl:w=bE:=P.symm;rw [hlen];refine ⟨_,rfl,?_⟩;refine aC (yH _ (n:=n) (by omega) (by omega)) ?_;rintro v E ⟨c_,VE,rfl,an,g,_,rfl⟩;have L:c_.dN=n:=by rw [an.len];simp [stM]
 have M:bh E c_.dL (f_ (stM n)).flatten:=an.rd;refine cX.aS c_ ⟨rfl,?_⟩;dsimp only;rw [L];refine c2 mix (λq env z=>∃ (i:Nat) (F G:Bool) (e:ax),q=(ej y).length - i/\i<=(ej y).length/\env=wx ⟨aN,0,none⟩ a (ej y).length cc F G c_.dL n c_.dW i e/\F=(if i=0 then true else b)/\G=(if i=0 then true else !b)/\ai E z) (ej y).length
  ⟨0,true,true,_,rfl,by omega,rfl,rfl,rfl,ao.refl _ _⟩ ?_
 rintro q env z ⟨i,F,G,e,rfl,VA,rfl,H,I,au⟩;rw [QK];refine a' (λf=>?_) (λVw=>?_)
 ·have f:i<(ej y).length:=by omega
  refine c2 mix (λq env S=>∃ (j:Nat) (t4 t5:Bool) (e:ax),q=n - j/\j<=n/\env=hR ⟨aN,0,none⟩ a (ej y).length cc t4 t5 c_.dL n c_.dW i j e/\t4=(if i=0/\j=0 then true else b)/\t5=(if i=0/\j=0 then true else !b)/\ai E S) n
   ⟨0,F,G,_,rfl,by omega,rfl,by rw [H];simp,by rw [I];simp,au⟩ ?_
  rintro q env S ⟨j,t4,t5,e,rfl,VB,rfl,T,U,p⟩;rw [QL];refine a' (λs=>?_) (λV=>?_)
  ·have s:j<n:=by omega
   obtain ⟨x,C⟩:∃ x,X.nodes[j]?=some x:=⟨_,bF (by omega)⟩;have Q:=ay.up j _ (get j x C);have r:(ej y)[i] ∈ ej y:=kb f;have Vv:(bz (ej y))[i]?=some ((ej y)[i]:Int):=by simp [bz,f]
   obtain ⟨dd,l2⟩:=xx r;have B:=ay.d_ j _ (get j x C) _ dd (by omega);rw [AR.2 r,Bool.and_true] at B;generalize (ej y)[i]=l at *;have t:ai w S:=g.new p;refine Ge (Vx.new t) Vv rfl (by simp [bz]) λdi o Vs=>⟨_,Vs _ (ao.refl _ _),?_⟩
   refine aC (AC (h.new t) C (l:=l) (by omega) (by omega) Q.1) ?_;rintro v bu ⟨rfl,N⟩;rw [B];refine aJ.aS (uk b l) ⟨true,rfl,?_⟩;refine ea (vs:=(uk b l).cells) rfl (aJ.single _) λVz W Vr c k=>?_
   have O:ai E W:=(p.new N).new k;rw [bC (x:=(j:Int)+1) (by omega) (by omega)];have d:∀ (e:ax),∃ m,m<n - j/\∃ (D:Nat) (t4 t5:Bool) (R:ax),m=n - D/\D<=n/\hR ⟨aN,0,none⟩ a (ej y).length cc b (!b) c_.dL n c_.dW i (j+1:Nat) e=hR ⟨aN,0,none⟩ a (ej y).length cc t4 t5 c_.dL n c_.dW i D R/\t4=(if i=0/\D=0 then true else b)/\t5=(if i=0/\D=0 then true else !b)/\ai E W:=
    λe=>⟨n - (j+1),by omega,j+1,b,!b,e,rfl,by omega,rfl,by rw [if_neg (by omega)],by rw [if_neg (by omega)],O⟩
   cases b with
   |true=>
    have Y:t4=true:=by rw [T];split<;>rfl
    subst Y;refine eB rfl (eB rfl (ns (by omega) (by omega) ⟨_,c.cell (i:=2) rfl,eB rfl ⟨_,c.cell (i:=1) rfl,?_⟩⟩));cases t5 with
    |true=>exact eB rfl (eB rfl (ns (by omega) (by omega) ⟨_,c.cell (i:=2) rfl,cR rfl (d _)⟩))
    |false=>exact cR rfl (d _)
   |false=>
    have Z:t5=true:=by rw [U];split<;>rfl
    subst Z;cases t4 with
    |true=>exact eB rfl (eB rfl (ns (by omega) (by omega) ⟨_,c.cell (i:=2) rfl,cR rfl (eB rfl (eB rfl (ns (by omega) (by omega) ⟨_,c.cell (i:=2) rfl,eB rfl ⟨_,c.cell (i:=1) rfl,d _⟩⟩)))⟩))
    |false=>exact cR rfl (eB rfl (eB rfl (ns (by omega) (by omega) ⟨_,c.cell (i:=2) rfl,eB rfl ⟨_,c.cell (i:=1) rfl,d _⟩⟩)))
  ·have K:j=n:=by omega
   subst K;rw [RO];rw [bC (x:=(i:Int)+1) (by omega) (by omega)];exact ⟨(ej y).length - (i+1),by omega,i+1,t4,t5,_,rfl,by omega,rfl,by rw [T,if_neg (by omega),if_neg (by omega)],by rw [U,if_neg (by omega),if_neg (by omega)],p⟩
 ·rw [RN];have J:i≠0:=by omega
  rw [if_neg J] at H I;subst H I;refine aC (NJ (h.new (g.new au)) (n:=n) (lines:=101) ay.Ps (M.new au) (by omega)) ?_;rintro v VD ⟨rfl,k⟩;exact ⟨_,rfl,rfl,(g.new au).new k⟩
end
section
section
variable {F:aM}
variable {jg:Conv}
end
end
section
open g4
theorem u7 {α β:Type} {f:α->β} {l:List α} {y:β} (h:l.map f=[y]):∃ x,l=[x]/\f x=y:=by
 cases l with
 |nil=>cases h
 |cons x l=>
  cases l with
  |nil=>exact ⟨x,rfl,by simpa using h⟩
  |cons y l=>simp at h
section
attribute [local irreducible] eX
theorem LG {h z:ak} {b1:Nat} (J:bZ A aw h aN X) (S:ai h z) (N:h.heap.size<=b1/\b1<z.heap.size) (P:cp X.pure) {r:eI} {t:b9 conv} (V:gu (λk=>A k\/k=b1) z r t) (E:lU t)
  {pa:al} {pc:Nat} (y:bh z pa r.cells) {sch:bb} {sa:al} {sc:Nat} (D:nX (λk=>A k\/k=b1) z sa (is sch)) (F:∀ x ∈ sch,ec x) {most:Nat} (hm:most<=1000000) {F':aM} {l:b9 conv} (ar:eX X.pure [t] sch [] most=(F',[l])) :
  a_ 15 [ptr aN,.slice pa 1 pc,.slice sa sch.length sc,.slice none 0 0,.int .i64 most] z λv u=>∃ la lc c B dq j,v=.slice la 1 lc/\e' A aw h aN (λk=>k=b1) u B dq j/\j.pure=F'/\gu (λk=>B k\/k=b1) u c l/\(∀ K:aU->Prop,(∀ b o,b6 u ⟨b,o,none⟩ 0 c.cells->K ⟨b,o,none⟩)->bk la 1 0 36 K)/\
   u.heap[b1]?=z.heap[b1]?:=by
 have G:e' A aw h aN (λk=>k=b1) z A aw X:=e'.start J S λk Q=>by subst Q;exact N
 have C:bh z pa (g' [(r,t)]).flatten:=by simpa [g'] using y
 have d:=yP G.cl P (ts:=[(r,t)]) (pc:=pc) C (λx g=>by simp at g;rw [g];exact ⟨V,E⟩) (by simp) (sch:=sch) (sa:=sa) (sc:=sc) D F (most:=most) hm;have H:eX X.pure ([(r,t)].map Prod.snd) sch [] most=(F',[l]):=ar;rw [H] at d;refine aC d ?_;rintro v u U;obtain ⟨B',Y,j,I,s,p,R,M,q⟩:=G.op U;obtain ⟨la,lc,W,rfl,e,w,T,f⟩:=p;obtain ⟨⟨c,t2⟩,rfl,n⟩:=u7 e;have n:t2=l:=n;subst n;refine ⟨_,rfl,la,lc,c,B',Y,j,rfl,I,s,f (c,t2) (by simp),λK L=>?_,q b1 rfl⟩;have a:bh u la (([(c,t2)]:List (eI×b9 conv)).map λx=>x.1.cells).flatten:=w.rd
 exact eo (cells:=λx:eI×b9 conv=>x.1.cells) (λx=>ca.len x.1) (by omega) a (i:=0) rfl rfl rfl λb o O _=>L b o O
end
def lh (n y:Nat):b9 conv:=zm 0 (uE n y)
theorem LH (f:1<=n/\n<=3) (g:y<14):kc (gb n y) [] [0] (aM.fresh n 4 101) [lh n y] (aM.fresh n 4 101) lu ⟨8,ha⟩ λ_=>lG 12:=by
 refine ⟨LD f g (by omega),.inl rfl,rfl,λk c t a b=>?_⟩;have d:k=0:=by have:=ch a;simp at this;exact this
 subst d;simp at a b;subst a b;exact .inl ⟨rfl,rfl,rfl,rfl,rfl,λe=>by have:8<=4:=e;omega,λe=>by have:8=6:=e;omega,λe=>by have:8=7:=e;omega,λ_=>⟨rfl,rfl⟩,by show 8<=8/\8≠5;omega⟩
theorem LI:hf [] (aM.fresh n 4 101) ⟨8,ha⟩ (λ_=>lG 12)=700:=by
 have b:(aM.fresh n 4 101).aX[0]?=some (hF n 0):=rfl;have c:hr (hF n 0):=λk l a=>by have a:=cg a;unfold hF kj at a;simp only at a;obtain ⟨z,au,rfl⟩:=cW.1 a;rfl
 have:dS (aM.fresh n 4 101) 0=0:=by unfold dS;rw [b];exact uF c
 unfold hf;rw [this];rfl
theorem B_ (i:1<=n/\n<=3) (o:y<14) (j:x=⟨fmt 101 n,false⟩):pf x (ej y)=(ej y).map jx:=by
 obtain ⟨h,_⟩:=xL i;simp only [u6,eY,gQ,fE,beq_iff_eq] at h;obtain ⟨_,_,_,_,c⟩:=h;unfold pf;refine s4 λl f=>?_
 obtain ⟨dd,l2⟩:=xx f;have g:∀ k,k<8->x.get (l * 8+k)=tz 0 k:=λk d=>by have:=c (l - 96) (by omega) k d;rw [show l - 96+96=l by omega] at this;rw [j];exact this
 have a:=g 0 (by omega);rw [lY] at a;unfold tK a0.d_ jx;simp only;rw [a,g 1 (by omega),g 2 (by omega),g 3 (by omega),g 4 (by omega),g 5 (by omega),g 6 (by omega),g 7 (by omega)];have e:tr .u64 256 255=256:=by decide
 have b:IntKind.u64.wrap (0+1)=1:=by decide
 show (⟨(l:Int),tr .u64 256 255,IntKind.u64.wrap (0+1),0,0,0,0,0,0⟩:aJ)=_;rw [e,b]
theorem DH:∀ p ∈ (ej y).map jx,EB p:=λp b=>by obtain ⟨l,_,rfl⟩:=cW.1 b;refine ⟨⟨by show (0:Int)<=256;omega,by show (256:Int)<_;omega⟩,λx a=>?_⟩;simp [hz,jx] at a;rcases a with rfl | rfl<;>exact ⟨by omega,by omega⟩
theorem Hd (n y:Nat):lU (lh n y):=λ_=>by show ([]:List (List aL)).length<=200;simp
section
attribute [local irreducible] eX
end
end
section
open g4
def mW (n c:Nat):fQ:=Ex c ⟨(c:Int),1,101,j2 n,0,2,0⟩
end
section
open g4
def tX:Nat->aM->List fQ->Option (aM×List fQ)
 | 0,_,_=>none
 |f+1,F,l=>match turns F l with
  | (F',l')=>match hc F' [] 0 with
   | (true,a)=>tX f a l'
   | (false,a)=>some (a,l')
theorem KD (F:aM) (n:Nat):hc F [] n=hc F [] 0:=by unfold hc lg;simp
theorem DI (cs:bb):∀ (f a n:Nat) {F:aM} {l:List fQ} {e:aM×List fQ},tX f F l=some e->f<=a->hl cs [] [] a n F l=e
 | 0,a,n,F,l,e,h,c=>by cases h
 |f+1,0,n,F,l,e,h,c=>by omega
 |f+1,a+1,n,F,l,e,h,c=>by
  unfold tX at h;unfold hl;have d:kn F cs n []=F:=rfl;rw [d,KD];cases i:turns F l with
  |mk F' l'=>
   rw [i] at h;simp only at h ⊢;cases g:hc F' [] 0 with
   |mk b j=>
    rw [g] at h;cases b with
    |true=>simp only at h ⊢;rw [if_pos trivial];exact DI cs f a (n+1) h (by omega)
    |false=>simp only at h ⊢;rw [if_neg (λh=>nomatch h)];exact nN h
def EL:aM×List fQ:=eX (aM.fresh 1 2 101) [lh 1 0] [] [] 3
def FN (t:fQ):Bool:=match t.out with
 | .inl _=>false
 | .inr o=>o.Code == 0 && (o.jc == 3 && o.i_ == 2)
def EK (e:aM×List fQ):Bool:=match e.2 with
 | [t]=>t.eK && (FN t && match e.1.nodes with
  | [x]=>!x.down && (x.words.length == 808 && x.get 768 == 256)
  | _=>false)
 | _=>false
def EJ:Bool:=match EL with
 | (a,dd)=>(match a.nodes with
  | [x]=>!x.down && (x.words.length == 808 && x.get 768 == 257)
  | _=>false) && (dd.length == 1 && match a.die 0 with
   | (true,b)=>(match tX 60 b [mW 1 1] with
    |some e=>EK e
    |none=>false)
   | (false,_)=>false)
theorem Oi:EJ=true:=by kernel_rfl
structure Ht (yQ CW CX:aM) (dd:List fQ) (t:fQ) (xM xN:a0):Prop where
 d1:eX (aM.fresh 1 2 101) [lh 1 0] [] [] 3=(yQ,dd)
 lJ:yQ.nodes=[xM]/\xM.down=false/\xM.words.length=808/\xM.get 768=257
 die:yQ.die 0=(true,CW)
 d3:mO CW (mW 1 1)=(CX,[t])
 FB:CX.nodes=[xN]/\xN.down=false/\xN.words.length=808/\xN.get 768=256
 one:∃ t1,dd=[t1]
 eK:t.eK=true
 out:∃ o:dz,t.out=.inr o/\o.Code=0/\o.jc=3/\o.i_=2
theorem Pn:∃ q s r dd t f g,Ht q s r dd t f g:=by
 have h:=Oi;unfold EJ at h;cases C:EL with
 |mk q dd=>
 rw [C] at h;simp only [eY] at h;obtain ⟨i,u,d⟩:=h;have k:∃ f,q.nodes=[f]/\f.down=false/\f.words.length=808/\f.get 768=257:=by
  cases j:q.nodes with
  |nil=>rw [j] at i;cases i
  |cons x l=>
   cases l with
   |nil=>rw [j] at i;simp only [eY,rh,beq_iff_eq] at i;exact ⟨x,rfl,i⟩
   |cons y l=>rw [j] at i;cases i
 obtain ⟨f,k⟩:=k;cases ar:q.die 0 with
 |mk b s=>
 rw [ar] at d;cases b with
 |false=>cases d
 |true=>
 simp only at d;cases B:tX 60 s [mW 1 1] with
 |none=>rw [B] at d;cases d
 |some e=>
 rw [B] at d;obtain ⟨r,ix⟩:=e;unfold EK at d;simp only at d;cases ix with
 |nil=>cases d
 |cons t l=>
 cases l with
 |cons a l=>cases d
 |nil=>
 simp only [eY] at d;obtain ⟨D,c,p⟩:=d;have n:∃ g,r.nodes=[g]/\g.down=false/\g.words.length=808/\g.get 768=256:=by
  cases j:r.nodes with
  |nil=>rw [j] at p;cases p
  |cons x l=>
   cases l with
   |nil=>rw [j] at p;simp only [eY,rh,beq_iff_eq] at p;exact ⟨x,rfl,p⟩
   |cons y l=>rw [j] at p;cases p
 obtain ⟨g,n⟩:=n;have A:mO s (mW 1 1)=(r,[t]):=by unfold mO eX;rw [DI _ 60 20000 0 B (by omega)];exact Au λE w=>by simp at w;rw [w];exact D
 refine ⟨q,s,r,dd,t,f,g,C,k,ar,A,n,?_,D,?_⟩
 ·rw [beq_iff_eq] at u;exact uZ.1 u
 unfold FN at c;cases z:t.out with
 |inl o=>rw [z] at c;cases c
 |inr o=>rw [z] at c;simp only [eY,beq_iff_eq] at c;exact ⟨o,rfl,c⟩
end
section
open g4
theorem y6 (h:X.pure=F) (a:F.nodes=[x]):∃ y,X.nodes[0]?=some y/\y.n=x:=by rw [<-h] at a;obtain ⟨y,b,rfl⟩:=u7 (f:=λy:g_=>y.n) (l:=X.nodes) (y:=x) (by simpa [bQ.pure] using a);exact ⟨y,by rw [b];rfl,rfl⟩
theorem NL (h:X.pure=F) (a:cp F):X.bV.length<=100000000:=by
 have b:=a.le;have c:X.bV.length=F.bV.length:=by rw [<-h];simp [bQ.pure]
 omega
theorem He (n c:Nat):lU (mW n c):=λ_=>by show ([]:List (List aL)).length<=200;simp
section
attribute [local irreducible] eX mO
theorem NM (w:ak):a_ 14 [] w λv u=>v=.bool true/\ai w u:=by
 obtain ⟨V6,V7,WF,dd,t,WS,WT,p⟩:=Pn;obtain ⟨t1,rfl⟩:=p.one;have VG:ej 0=[96]:=by decide
 have W:cp (aM.fresh 1 2 101):=cp.fresh (by omega) (by omega) (by omega);have I:cp V6:=by have:=cp.eX W [lh 1 0] [] [] 3;rw [p.d1] at this;exact this
 have VM:cp V7:=by have:=I.die 0;rw [p.die] at this;exact this
 refine bc Tryz.func14 ?_;rw [t9];refine aC (Di (n:=1) (c:=2) (lines:=101) (by omega) (by omega) (by omega)) ?_;rintro v bE ⟨aN,A,aw,X,rfl,VF,Vs,V_,VH⟩;refine ⟨_,_,rfl,cR rfl ?_⟩;rintro b1 WB VI Vx;obtain ⟨M,r⟩:=bl VI Vx;have M:av WB b1 (is (bz [96])) 3:=M;clear Vx;obtain ⟨V4,VU,f⟩:=y6 (x:=⟨fmt 101 1,false⟩) VH rfl;have hlen:V4.n.words.length=808:=by rw [f];obtain ⟨h,_⟩:=xL (n:=1) (by omega);simp only [u6,eY,beq_iff_eq] at h;exact h.1
 refine aC (B9 (VF.new r) (n:=1) (by omega) VU (by rw [f]) (L:=[96]) (λl Wc=>by simp at Wc <;> omega) (by simp) (cc:=1) (fk M rfl) 0 1) ?_;rintro v bu ⟨c_,de,eN,rfl,J,an,b,VT⟩;have VL:pf V4.n [96]=[jx 96]:=by have:=B_ (n:=1) (y:=0) (by omega) (by omega) f;rw [VG] at this;exact this
 rw [VL] at b;have Wg:=r.size;have Wh:=J.size;refine ca.aS (jl 0 1 101 c_ de 1 eN) ⟨true,rfl,?_⟩;refine ea (vs:=(jl 0 1 101 c_ de 1 eN).cells) rfl (ca.single _) λaA WQ V' N VP=>?_
 refine cR rfl (ca.aS (jl 0 1 101 c_ de 1 eN) ⟨bK N rfl,?_⟩);rintro WJ V3 VJ Vy;obtain ⟨VX,K⟩:=bl VJ Vy;clear Vy;have Wd:=N.lt;have Wi:=K.size;have d:ai bu V3:=VP.new K;have Vt:ai w bu:=Vs.new (r.new J);have O:bZ A aw bu aN X:=VF.new (r.new J);have H:∀ k,A k->k<bE.heap.size:=λk D=>VF.low k D
 have VR:gu (λk=>A k\/k=aA) V3 (jl 0 1 101 c_ de 1 eN) (lh 1 0):=by
  have VQ:lh 1 0=zm 0 ⟨0,1,101,j2 1,[],[jx 96]⟩:=by unfold lh uE;rw [VG];rfl
  rw [VQ];refine Cg ((an.mono λk We D=>D.resolve_right (by omega)).new d) (b.rd.new d) rfl (by simp) ?_ ?_
  ·exact g9 b.rd λk D VE=>by
    have WM:=VT _ D;have WN:=b.lt D;rcases VE with VE | VE
    ·have:=H _ VE;omega
    ·omega
  ·have:=DH (y:=0);rw [VG] at this;exact this
 refine aC (LG O d (b1:=aA) ⟨by omega,by omega⟩ (by rw [VH];exact W) VR (Hd 1 0) (pc:=1) (fk VX (by simp)) (sch:=[]) (sa:=none) (sc:=0) ⟨.inl rfl,.inl rfl⟩ (λx Wk=>by cases Wk) (most:=3) (by omega) (by rw [VH];exact p.d1)) ?_;rintro v WC ⟨la,lc,r1,WD,WU,WG,rfl,S,q,Wj,_,VK⟩;refine ⟨_,_,_,rfl,?_⟩;obtain ⟨lJ,Wo,FB,Wp⟩:=p.lJ;obtain ⟨VC,VV,g⟩:=y6 q lJ;refine aC (AC S.cl VV (l:=96) (by omega) (by rw [g];omega) (by rw [g];exact Wo)) ?_;rintro v u8 ⟨rfl,Z⟩;refine aJ.aS (VC.n.d_ 96) ⟨true,rfl,?_⟩;refine ea (vs:=(VC.n.d_ 96).cells) rfl (aJ.single _) λWK WR Wa VY Vr=>?_
 have T:=S.new (Z.new Vr);have VN:(VC.n.d_ 96).Head=257:=by have:(VC.n.d_ 96).Head=VC.n.get 768:=rfl;rw [this,g,Wp]
 refine cR rfl ⟨_,VY.cell (i:=1) rfl,cR (by rw [VN];rfl) ?_⟩;refine aC (N6 T.cl (by rw [q];exact I.cj.ok) (NL q I) 0) ?_;rintro v V0 ⟨rfl,Vu⟩;rw [q,p.die] at Vu ⊢;obtain ⟨V5,WV,WH,z,U,_,_,_,P⟩:=T.op Vu;refine ⟨_,rfl,cR rfl ?_⟩;refine aC (Ew (A:=λk=>V5 k\/k=aA) (λk D=>z.cl.low k D) (n:=1) (by omega) 1 0) ?_;rintro v Wx ⟨VZ,rfl,E,VS⟩;refine ca.aS (pG 1 0 VZ) ⟨rfl,?_⟩;have B:=z.new E;refine aC (NK B.cl (by rw [U];exact VM) (t:=mW 1 1) (Ch VS ⟨by omega,by omega⟩) (He 1 1)) ?_;rintro v V1 Vu;rw [U] at Vu;obtain ⟨WE,WW,WI,R,V,⟨Ww,V2,s,rfl,Vv⟩,_,_,Q⟩:=B.op Vu;rw [p.d3] at s V;have s:Ww=t:=by simpa using s.symm
 subst s;have Vz:av V1 aA (jl 0 1 101 c_ de 1 eN).cells 45:=by have V8:av WC aA (jl 0 1 101 c_ de 1 eN).cells 45:=VK.trans (ai.aj K N);have V9:av V0 aA (jl 0 1 101 c_ de 1 eN).cells 45:=(P aA rfl).trans (ai.aj (Z.new Vr) V8);exact (Q aA rfl).trans (ai.aj E V9)
 refine ca.aS V2 ⟨rfl,?_⟩;refine dO (vs:=V2.cells) Vz rfl (ca.single _) λWy VA Y=>?_
 have C:=R.local Y λk e=>e
 obtain ⟨Wl,Wm,WO,Wn⟩:=p.FB;obtain ⟨VD,VW,j⟩:=y6 V Wl;refine aC (AC C.cl VW (l:=96) (by omega) (by rw [j];omega) (by rw [j];exact Wm)) ?_;rintro v Wz ⟨rfl,F⟩;refine aJ.aS (VD.n.d_ 96) ⟨true,rfl,?_⟩;refine ea (vs:=(VD.n.d_ 96).cells) rfl (aJ.single _) λWL WA Wb VB G=>?_
 have a:=ai.aj (F.new G) VA;obtain ⟨o,Wf,Wq,Wr,Ws⟩:=p.out;have Vw:=Vv.out;rw [Wf] at Vw;obtain ⟨Wt,Wu,WP,Wv⟩:=Vw;have VO:(VD.n.d_ 96).Head=256:=by have:(VD.n.d_ 96).Head=VD.n.get 768:=rfl;rw [this,j,Wn]
 refine ⟨_,a.cell (i:=24) rfl,eB (Vv.eK.trans p.eK) ⟨_,a.cell (i:=26) rfl,eB (by rw [Wt,Wq];rfl) ⟨_,a.cell (i:=33) rfl,eB (by rw [Wu,Wr];rfl) ⟨_,a.cell (i:=35) rfl,eB (by rw [Wv,Ws];rfl) (eB rfl ⟨_,VB.cell (i:=1) rfl,?_,?_⟩)⟩⟩⟩⟩
 ·rw [VO];rfl
 ·exact (C.new (F.new G)).ia O Vt V_
end
end
section
open g4
theorem Ci {α:Type} {l:List α} (h:l.length=2):∃ a b,l=[a,b]:=by
 match l,h with
 | [a,b],_=>exact ⟨a,b,rfl⟩
section
attribute [local irreducible] eX
theorem LJ (Z:1<=n/\n<=3) (Vs:y<14) (sch:bb) (most:Nat):∃ a t1,eX (aM.fresh n 4 101) [lh n y] sch [] most=(a,[t1])/\cp a/\lU t1/\
  ∃ K t2 E,eX a [t1,mW n 1] sch [] 5000=(K,[t2,E])/\t2.eK=true/\t2.bad=false/\E.eK=true/\∃ b,o0 n y b K.nodes/\(∃ v s q w,E.out=.inr ⟨0,v,s,q,w⟩)/\
   ((t2.out=.inl (0,3)/\b=true)\/∃ f,t2.out=.inl (5,f)/\(f=1->b=false)/\(f=3->b=true)):=by
 have ay:=Ev Z Vs;have z:0<(gb n y).n:=by have:=ay.e.n;omega
 obtain ⟨G,A,g,gr,ar,_,hw,_⟩:=Cd ay (rs:=[]) (λc d=>by cases d) (cs:=[0]) (by simp) (LH Z Vs) sch most;rw [LI] at hw;have i:cp (eX (aM.fresh n 4 101) [lh n y] sch [] most).1:=cp.eX (cp.fresh (by omega) (by omega) (by omega)) _ _ _ _;generalize VO:eX (aM.fresh n 4 101) [lh n y] sch [] most=R at *;obtain ⟨a,ts⟩:=R;have Vw:=ar.len;simp only at ar Vw i;obtain ⟨t1,rfl⟩:=uZ.1 (Vw.trans rfl);obtain ⟨W,l⟩:a=G/\m2 (gb n y) A g t1:=by
  rcases ar.fO 0 0 t1 rfl rfl with ⟨_,e,l⟩ | ⟨d,_⟩
  ·exact ⟨e,l⟩
  ·cases d
 subst W;have Vr:∀ c ∈ [1],1<=c/\c<4:=λc d=>by simp at d <;> omega
 refine ⟨a,t1,rfl,i,λQ=>?_,?_⟩
 ·obtain ⟨VK,VJ⟩:=l.aB;by_cases V:g.aB<=4
  ·have:=(l.run V).2.2.2;omega
  ·obtain e | e | e:g.aB=6\/g.aB=7\/g.aB=8:=by omega
   ·rw [(l.fin e).1] at Q;cases Q
   ·rw [(l.ref e).1] at Q;cases Q
   ·rw [(l.new e).2];simp
 have Vv:=ar.oA.join Vr;have Y:kc (gb n y) [1] [0,1] a [t1,mW n 1] a A g λ_=>lG 12:=⟨Vv,ar.qW,rfl,λk c t d P=>by
  match k,d,P with
  | 0,d,P=>cases d;cases P;exact .inl ⟨rfl,rfl,l⟩
  | 1,d,P=>cases d;cases P;exact .inr ⟨by simp,rfl,rfl,rfl,λe=>by have:12<=9:=e;omega,λe=>by have:12=10:=e;omega,λe=>by have:12=11:=e;omega,λ_=>⟨rfl,rfl⟩⟩⟩
 have VF:hf [1] a g (λ_=>lG 12)<=2380:=by
  obtain ⟨C,VD,_,_,q⟩:=Vv.qV 1 (by simp);have Vz:dS a 1=0:=by unfold dS;rw [VD];exact uF (q (by show 10<=12;omega)).2
  have S:((List.map (λc=>dS a c+gx ((λ_=>lG 12) c).aB) [1]).sum)=1680:=by show dS a 1+gx 12+0=1680;rw [Vz];rfl
  have Vu:hf [] a g gr=dS a 0+oB g.aB:=by unfold hf;simp
  unfold hf;rw [S];omega
 obtain ⟨VN,F,L,o,D,VP,VQ,VG⟩:=Cd ay (rs:=[1]) (λc d=>by simp at d <;> omega) (cs:=[0,1]) (by simp) Y sch 5000;have r:=VG (by omega);have B:cp (eX a [t1,mW n 1] sch [] 5000).1:=cp.eX i _ _ _ _;generalize VE:eX a [t1,mW n 1] sch [] 5000=Vy at *;obtain ⟨K,VM⟩:=Vy;simp only at D r B;obtain ⟨t2,E,rfl⟩:=Ci (D.len.trans rfl);have j:m2 (gb n y) F L t2:=by
  rcases D.fO 0 0 t2 rfl rfl with ⟨_,_,l⟩ | ⟨d,_⟩
  ·exact l
  ·simp at d
 have H:o9 (gb n y) 1 (o 1) E:=by
  rcases D.fO 1 1 E rfl rfl with ⟨e,_⟩ | ⟨_,l⟩
  ·cases e
  ·exact l
 have u:=r t2 (by simp);have x:=r E (by simp);obtain ⟨ok,_,_,VB⟩:=D.oA.oq 1 (by simp);have N:(o 1).aB=10:=by
  by_cases VC:(o 1).aB<=9
  ·rw [(H.run VC).1] at x;cases x
  ·by_cases U:(o 1).aB=12
   ·rw [(H.new U).1] at x;cases x
   ·by_cases T:(o 1).aB=11
    ·unfold cB at ok;rw [T] at ok;obtain ⟨c',Vx,VL,_⟩:=ok;simp at Vx;exact absurd Vx VL
    ·omega
 unfold cB at ok;rw [N] at ok;obtain ⟨VH,VI⟩:=ok;obtain ⟨_,f2,_⟩:=H.fin N;have J:=D.qW.nodes;have p:=D.oA.qP;obtain ⟨VK,VJ⟩:=j.aB;refine ⟨K,t2,E,rfl,u,j.bad,x,?_⟩;have key:∀ b:Bool,(if b=true then l1 (gb n y) F else o1 (gb n y) F)->∃ b,o0 n y b K.nodes/\(∃ v s q w,E.out=.inr ⟨0,v,s,q,w⟩)/\
   ((t2.out=.inl (0,3)/\b=true)\/∃ f,t2.out=.inl (5,f)/\(f=1->b=false)/\(f=3->b=true)):=λb I=>by
  have O:im (gb n y) F->b=true:=λh=>by
   cases b with
   |true=>rfl
   |false=>have M:=h 0 z;have I:o1 (gb n y) F:=I;rw [I.2.1 0 z] at M;cases M
  have X:fP (gb n y) F->b=false:=λh=>by
   cases b with
   |false=>rfl
   |true=>have M:=h 0 z;have I:l1 (gb n y) F:=I;rw [I.1 0 z] at M;cases M
  refine ⟨b,by rw [J];exact Og Z Vs D.oA.rep D.oA.law VH I,⟨_,_,_,_,f2⟩,?_⟩;by_cases V:L.aB<=4
  ·rw [(j.run V).1] at u;cases u
  ·obtain e | e | e:L.aB=6\/L.aB=7\/L.aB=8:=by omega
   ·unfold eZ at p;rw [e] at p;exact .inl ⟨(j.fin e).2,O p.1⟩
   ·obtain ⟨_,f,S,Vu,VA,_⟩:=j.ref e;exact .inr ⟨f,S,λh=>X (Vu h),λh=>O (VA h)⟩
   ·rw [(j.new e).1] at u;cases u
 rcases VI with ⟨Vt,_⟩ | ⟨Vt,_⟩
 ·exact key true Vt
 ·exact key false Vt
end
end
end Go.Proofs.YtmkljjbioomepaaGreat
