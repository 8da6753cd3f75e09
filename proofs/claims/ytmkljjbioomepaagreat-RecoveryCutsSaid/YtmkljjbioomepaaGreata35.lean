import Derived.Test.YtmkljjbioomepaaGreata34
import Derived.Test.YtmkljjbioomepaaGreatProg
import Derived.Test.YtmkljjbioomepaaGreata03
import Derived.Test.YtmkljjbioomepaaGreata23
set_option linter.all false
set_option maxHeartbeats 4000000
set_option maxRecDepth 100000
namespace Go.Proofs.YtmkljjbioomepaaGreat
open Go.Proofs.Tryz Go.b8
section
open iH
structure Be (vs:List bn) (ds:List a_):Prop where
 len:ds.length=vs.length
 each:∀ (q:Nat) (v:bn) (d:a_),vs[q]?=some v->ds[q]?=some d->(d.code=0/\(d.words.length:Int)=v.v.ow)\/(d.code=5/\d.words=[])
theorem Xn:∀ {ds:List a_},(∀ d ∈ ds,d.code=0\/d.code=5)->(mL ds=5/\∃ d ∈ ds,d.code=5)\/(mL ds=0/\∀ d ∈ ds,d.code=0)
 | [],_=>.inr ⟨rfl,λd aC=>by cases aC⟩
 |d::ds,h=>by
  unfold mL;rcases h d iA with e | e
  ·rw [if_pos e];rcases Xn λx ao=>h x (jz _ ao) with ⟨bs,x,bI,dd⟩ | ⟨bs,bI⟩
   ·exact .inl ⟨bs,x,jz _ bI,dd⟩
   ·exact .inr ⟨bs,λx ao=>by rcases iF.1 ao with rfl | ao;exact e;exact bI x ao⟩
  ·rw [if_neg (by omega)];exact .inl ⟨e,d,iA,e⟩
theorem Be.get {vs:List bn} {ds:List a_} (h:Be vs ds) {d:a_} (aC:d ∈ ds):∃ v,v ∈ vs/\((d.code=0/\(d.words.length:Int)=v.v.ow)\/(d.code=5/\d.words=[])):=by
 obtain ⟨q,aM⟩:=hn.1 aC;have aK:=dy aM;have hR:q<vs.length:=by rw [<-h.len];exact aK
 exact ⟨vs[q],qS hR,h.each q vs[q] d (cp hR) aM⟩
theorem Be.cases {vs:List bn} {ds:List a_} (h:Be vs ds):Fit vs ds\/mL ds=5/\∃ d ∈ ds,d.code=5:=by
 rcases Xn (ds:=ds) (λd aC=>by obtain ⟨v,_,g | g⟩:=h.get aC;exact .inl g.1;exact .inr g.1) with g | ⟨_,g⟩
 ·exact .inr g
 ·refine .inl ⟨h.len,λq v d aw aC=>?_⟩;rcases h.each q v d aw aC with e | e
  ·exact e
  ·have:=g d (dn aC);omega
theorem Xo {vs:List bn} {d:List a_} (G:List (List a_)) (aw:vs≠[]) (h:Be vs d) (c9:mL d=5) (lr:Int):dz (d::G) vs lr=⟨false,[],(5,lr),G,none,false⟩:=by
 have au:vs.length≠0:=λe=>aw (zh.1 e)
 have aJ:r3 vs d=true:=by
  unfold r3;rw [iz,decide_eq_true_eq,lM];refine ⟨h.len.symm,λp ar=>?_⟩;obtain ⟨q,aM⟩:=hn.1 ar;obtain ⟨af,al⟩:=WW.1 aM;unfold Gx;rcases h.each q p.1 p.2 af al with ⟨bs,bI⟩ | ⟨bs,bI⟩
  ·rw [if_pos bs];exact decide_eq_true bI
  ·rw [if_neg (by omega),if_pos (.inr bs),bI];rfl
 have ak:batch (d::G) vs=⟨d,true,G,none,false⟩:=by unfold batch;rw [if_neg au];simp only [aJ,if_true]
 unfold dz;rw [ak];simp only [c9];rfl
section
variable {E:Env}
def g7 (E:Env):Nat->List bn
 | 0=>(List.range E.n).map λm=>dV m 56 (lK E)
 | 1=>(cA E).map λp=>kc 0 (p.b5 * 8) p.Head (ii p.Head 0)
 | 2=>(List.range E.n).map λm=>dV m 48 [n3 E]
 | 3=>jV E (cA E)
 | _=>kn E (cA E)
def R_:Nat->Int
 | 0=>1
 | 1=>1
 | 2=>2
 | _=>3
def R3 (E:Env):List (List (List a_)->dM):=Fq (E.bG 0)
def qW (E:Env) (aQ:Nat) (G:List (List a_)):Prop:=∀ X,runM (E.bG 0) (G++X)=yU ((R3 E).drop aQ) X
theorem Yf (aI:di E):zb (E.bG 0)=g7 E 0:=aI.cH.Sz
theorem QV (aI:di E):f9 (E.bG 0)=g7 E 1:=by rw [aI.cH.aes aI.e.n.1,aI.rd];simp;rfl
theorem Yg (aI:di E):zc (E.bG 0)=g7 E 2:=aI.cH.Vs
theorem Yh (aI:di E):C6 (E.bG 0)=g7 E 3:=aI.cH.aaS
theorem RH (aI:di E):nJ (E.bG 0)=g7 E 4:=aI.cH.abb aI.e.n.1
theorem FJ (aI:di E):∀ aQ,aQ<=4->(aQ=3->1<E.n)->g7 E aQ≠[]
 | 0,_,_=>by have:=aI.e.n;intro e;have:=congrArg List.length e;simp [g7] at this;omega
 | 1,_,_=>by have:=aI.cH.some_;simpa [g7] using this
 | 2,_,_=>by have:=aI.e.n;intro e;have:=congrArg List.length e;simp [g7] at this;omega
 | 3,_,h=>Nf (h rfl) _
 | 4,_,_=>by simp [g7,kn]
def HN (E:Env):Nat->List (List a_)->dM
 | 0=>F1 (E.bG 0)
 | 1=>rB (E.bG 0)
 | 2=>IM (E.bG 0)
 | 3=>zn (E.bG 0)
 | _=>yc (E.bG 0)
theorem QW:∀ aQ,aQ<=4->(R3 E).drop aQ=HN E aQ::(R3 E).drop (aQ+1)
 | 0,_=>rfl
 | 1,_=>rfl
 | 2,_=>rfl
 | 3,_=>rfl
 | 4,_=>rfl
theorem MP (aI:di E):∀ aQ,aQ<=4->aQ≠1->∀ X,HN E aQ X=dz X (g7 E aQ) (R_ aQ)
 | 0,_,_,X=>by rw [<-Yf aI];exact ai5 aI.cH.valid aI.cH.some_ X
 | 2,_,_,X=>by rw [<-Yg aI];exact ai6 aI.cH.valid aI.cH.some_ X
 | 3,_,_,X=>by rw [<-Yh aI];rfl
 | 4,_,_,X=>by rw [<-RH aI];exact akb aI.cH.valid aI.cH.some_ X
def Nh (E:Env) (D:List a_):Prop:=∀ (q:Nat) (p:a6) (d:a_),(cA E)[q]?=some p->D[q]?=some d->gZ d=p.Head
theorem Xp:∀ {xs:bR} {ds:List a_},(∀ (q:Nat) (x:Int) (d:a_),xs[q]?=some x->ds[q]?=some d->gZ d=x)->ov xs ds=false
 | [],_,_=>by unfold ov;rfl
 |x::xs,[],_=>by unfold ov;rfl
 |x::xs,d::ds,h=>by unfold ov;rw [Xp λq k5 gA af al=>h (q+1) k5 gA (by simpa using af) (by simpa using al),h 0 x d rfl rfl];simp
theorem aiR (aI:di E) {D:List a_} (h:Nh E D):ov (ou (E.bG 0)) D=false:=by
 refine Xp λq x d ao aC=>?_
 unfold ou at ao;rw [aI.rd,Mm,qd,gV] at ao;obtain ⟨p,ar,rfl⟩:=sY.1 ao;exact h q p d ar aC
theorem alU (aI:di E) {aQ:Nat} (ca:aQ<=4) (aL:aQ=3->1<E.n):HN E aQ []=Br (g7 E aQ):=by
 by_cases e:aQ=1
 ·subst e;show rB (E.bG 0) []=_;unfold rB;rw [QV aI,V4 (FJ aI 1 (by omega) (by omega))];rfl
 ·rw [MP aI aQ ca e];exact V4 (FJ aI aQ ca aL) _
theorem alV (aI:di E) {aQ:Nat} (ca:aQ<=4) (aL:aQ=3->1<E.n) {D:List a_} (aJ:Fit (g7 E aQ) D) (ed:aQ=1->Nh E D) (X:List (List a_)):∃ ML,HN E aQ (D::X)=Hq ML X:=by
 by_cases e:aQ=1
 ·subst e;refine ⟨[],?_⟩;have aJ:Fit (f9 (E.bG 0)) D:=by rw [QV aI];exact aJ
  exact amn aI.cH.valid aI.cH.some_ aJ (aiR aI (ed rfl)) X
 ·refine ⟨D,?_⟩;rw [MP aI aQ ca e];exact Wu X (FJ aI aQ ca aL) aJ _
theorem alW (aI:di E) {aQ:Nat} (ca:aQ<=4) (aL:aQ=3->1<E.n) {D:List a_} (aJ:Be (g7 E aQ) D) (c9:mL D=5) (X:List (List a_)):HN E aQ (D::X)=⟨false,[],(5,R_ aQ),X,none,false⟩:=by
 by_cases e:aQ=1
 ·subst e;show rB (E.bG 0) (D::X)=_;unfold rB;rw [QV aI,Xo X (FJ aI 1 (by omega) (by omega)) aJ c9];rfl
 ·rw [MP aI aQ ca e];exact Xo X (FJ aI aQ ca aL) aJ c9 _
theorem auN:qW E 0 []:=λX=>rfl
theorem qW.next (aI:di E) {aQ:Nat} {G:List (List a_)} (h:qW E aQ G) (ca:aQ<=4) (aL:aQ=3->1<E.n) {D:List a_} (aJ:Fit (g7 E aQ) D) (ed:aQ=1->Nh E D):qW E (aQ+1) (G++[D]):=λX=>by obtain ⟨ML,fs⟩:=alV aI ca aL aJ ed X;rw [ue];refine (h ([D]++X)).trans ?_;rw [QW aQ ca];show IL (HN E aQ (D::X)) _=_;rw [fs];rfl
theorem qW.skip (aI:di E) {G:List (List a_)} (h:qW E 3 G) (aj:E.n=1):qW E 4 G:=λX=>by refine (h X).trans ?_;rw [QW 3 (by omega),yU,MP aI 3 (by omega) (by omega)];show IL (dz X (jV E (cA E)) 3) _=_;rw [R2 aj,Xz];rfl
theorem qW.ask (aI:di E) {aQ:Nat} {G:List (List a_)} (h:qW E aQ G) (ca:aQ<=4) (aL:aQ=3->1<E.n):g1 (E.bG 0) G=(g7 E aQ,(0,0),false):=by have:=h [];rw [qd,QW aQ ca,yU,alU aI ca aL] at this;unfold g1;rw [if_neg (by rw [aI.cH.valid];simp),this];rfl
theorem qW.ref (aI:di E) {aQ:Nat} {G:List (List a_)} (h:qW E aQ G) (ca:aQ<=4) (aL:aQ=3->1<E.n) {D:List a_} (aJ:Be (g7 E aQ) D) (c9:mL D=5):g1 (E.bG 0) (G++[D])=([],(5,R_ aQ),true):=by have:=h [D];rw [QW aQ ca,yU,alW aI ca aL aJ c9] at this;unfold g1;rw [if_neg (by rw [aI.cH.valid];simp),this];rfl
theorem qW.done (aI:di E) {G:List (List a_)} (h:qW E 5 G):g1 (E.bG 0) G=([],(0,3),true):=by have:=h [];rw [qd] at this;unfold g1;rw [if_neg (by rw [aI.cH.valid];simp),this];rfl
end
end
section
open IntKind
variable (w:av) (R:dW) {a b c d e f g h:Nat} {s t u v:ax} {i k l:Int} {A:bh} {j:aB}
def N7 (cJ:bh) (s1:ax) (a b:Nat) (s2:ax) (c d:Nat) (dm:ax) (f g:Nat) (dS:Int) (h:ax) (i k:Nat) (l:Int) (j:aB):aB:=.pointer (some cJ)::ad s1 a b::ad s2 c d::ad dm f g::I dS::ag j 0 6 (ad h i k::I l::ag j 6 82 [])
def aem (a:bh) (s1:ax) (b c:Nat) (s2:ax) (d f:Nat) (dm:ax) (g h:Nat) (dS:Int) (i:ax) (k l:Nat) (j:aB):aB:=.pointer (some a)::ad s1 b c::ad s2 d f::ad dm g h::I dS::ag j 0 6 (ad i k l::ag j 6 83 [])
def N8 (cJ:bh) (s1:ax) (a b:Nat) (s2:ax) (c d:Nat) (dm:ax) (f g:Nat) (dS:Int) (h:ax) (i k:Nat) (l:Int) (j:aB):aB:=.pointer (some cJ)::ad s1 a b::ad s2 c d::ad dm f g::I dS::ag j 0 6 (ad h i k::ag j 6 1 (I l::ag j 7 81 []))
def N9 (a:bh) (s1:ax) (b c:Nat) (j:aB):aB:=.pointer (some a)::ad s1 b c::ag j 0 93 []
def Ju (cJ:bh) (s1:ax) (a b:Nat) (s2:ax) (c d:Nat) (dm:ax) (f g:Nat) (dS:Int) (h:ax) (i k:Nat) (l m:Int) (j:aB):aB:=.pointer (some cJ)::ad s1 a b::ad s2 c d::ad dm f g::I dS::ag j 0 6 (ad h i k::ag j 6 1 (I l::I m::ag j 7 80 []))
def aen (a:bh) (s1:ax) (b c:Nat) (s2:ax) (d f:Nat) (dm:ax) (g h:Nat) (dS:Int) (i:ax) (k l:Nat) (m:Int) (j:aB):aB:=.pointer (some a)::ad s1 b c::ad s2 d f::ad dm g h::I dS::ag j 0 6 (ad i k l::ag j 6 1 (I m::ag j 7 81 []))
def N_ (cJ:bh) (s1:ax) (a b:Nat) (c:Int) (j:aB):aB:=.pointer (some cJ)::ad s1 a b::ag j 0 14 (I c::ag j 14 78 [])
def aeo (s1:ax) (a b:Nat) (j:aB):aB:=ag j 0 1 (ad s1 a b::ag j 1 93 [])
def N' (cJ:bh) (s1:ax) (a b:Nat) (s2:ax) (c d:Nat) (dm:ax) (f g:Nat) (dS:Int) (h:ax) (i k:Nat) (l m:Int) (j:aB):aB:=.pointer (some cJ)::ad s1 a b::ad s2 c d::ad dm f g::I dS::ag j 0 6 (ad h i k::ag j 6 1 (I l::ag j 7 1 (I m::ag j 8 79 [])))
def aep (a:bh) (s1:ax) (b c:Nat) (s2:ax) (d f:Nat) (dm:ax) (g h:Nat) (dS:Int) (i:ax) (k l:Nat) (m:Int) (j:aB):aB:=.pointer (some a)::ad s1 b c::ad s2 d f::ad dm g h::I dS::ag j 0 6 (ad i k l::ag j 6 1 (I m::ag j 7 81 []))
theorem t9:bS prog f15 [bM a,ad s b c,ad t d e,ad u f g,I i] R w=(fk 46 (bC) (ad s b c) w λk h j l=>dT prog (e0 f15 [1,1,1,0,1,0,0]) (N7 (ae a 0) k h j t d e u f g i none 0 0 0 (bQ 5 (bC::bQ 4 (ad s b c::ad k h j::bQ 76 [])))) (a8 0 (ba f15 [1,1,1,1] R)) l):=by kernel_rfl
theorem av1 (r:aB->aV):W prog (sb f15 [1,1,1,0,1,0,0]) (N7 A s a b t c d u e f i v g h k j) (bk r (a8 0 (ba f15 [1,1,1,1] R))) w=(cond (k<(a:Nat)) (cb s a k 36 λp=>cQ w (cX p 1) λm=>bb w #[I m] 3 λq y=>fk 22 (ad v g h) (ad (b7 q) 1 1) y λl n o x=>r (N7 A s a b t c d u e f i l n o (i64.wrap (k+1)) (ag j 0 12 (I k::ad s a b::eZ a::U (k<(a:Nat))::I k::I (i64.wrap (k+1))::ad v g h::ad s a b::I k::jp p::cz p 1::I m::ad (b7 q) 1 1::ad l n o::ag j 26 62 []))) x) (W prog (sb f15 [1,1,1,1]) (aem A s a b t c d u e f i v g h (ag j 0 6 (I k::ag j 6 6 (I k::ad s a b::eZ a::U (k<(a:Nat))::ag j 16 72 [])))) (c3 f15 R) w)):=by kernel_rfl
theorem awW:W prog (sb f15 [1,1,1,1]) (aem A s a b t c d u e f i v g h j) (c3 f15 R) w=(dT prog (e0 f15 [1,1,1,1,0,1,0,0]) (N8 A s a b t c d u e f i v g h 0 (ag j 0 7 (ag j 8 81 []))) (a8 2 (ba f15 [1,1,1,1,1] R)) w):=by kernel_rfl
theorem av2 (m:aB->aV):W prog (sb f15 [1,1,1,1,0,1,0,0]) (N8 A s a b t c d u e f i v g h k j) (bk m (a8 2 (ba f15 [1,1,1,1,1] R))) w=(cond (k<i) (dT prog (e0 f15 [1,1,1,1,0,1,0,0,1,0,0,0,1,0,0]) (Ju A s a b t c d u e f i v g h k 0 (ag j 0 7 (ag j 8 18 (I k::I i::U (k<i)::ag j 29 59 [])))) (a8 4 (bk (λl w=>W prog (sb f15 [1,1,1,1,0,1,0,0,1,0,0,1]) l (a8 3 (bk (λl w=>W prog (sb f15 [1,1,1,1,0,1,0,0,1,1]) l (bk m (a8 2 (ba f15 [1,1,1,1,1] R))) w) (bk m (a8 2 (ba f15 [1,1,1,1,1] R))))) w) (a8 3 (bk (λl w=>W prog (sb f15 [1,1,1,1,0,1,0,0,1,1]) l (bk m (a8 2 (ba f15 [1,1,1,1,1] R))) w) (bk m (a8 2 (ba f15 [1,1,1,1,1] R))))))) w) (W prog (sb f15 [1,1,1,1,1]) (N9 A s a b (ad t c d::ad u e f::I i::ag j 0 6 (ad v g h::aW j 6::I k::ag j 7 19 (I k::I i::U (k<i)::ag j 29 59 [])))) (c3 f15 R) w)):=by kernel_rfl
theorem awX:W prog (sb f15 [1,1,1,1,1]) (N9 A s a b j) (c3 f15 R) w=(dT prog (e0 f15 [1,1,1,1,1,0,1,0,0]) (N_ A s a b 0 (ag j 0 14 (ag j 15 78 []))) (a8 8 (ba f15 [1,1,1,1,1,1] R)) w):=by kernel_rfl
theorem av3 (p:aB->aV) (y:aB->aV):W prog (sb f15 [1,1,1,1,0,1,0,0,1,0,0,0,1,0,0]) (Ju A s a b t c d u e f i v g h k l j) (bk y (a8 4 (bk (λm w=>W prog (sb f15 [1,1,1,1,0,1,0,0,1,0,0,1]) m (a8 3 (bk (λm w=>W prog (sb f15 [1,1,1,1,0,1,0,0,1,1]) m (bk p (a8 2 (ba f15 [1,1,1,1,1] R))) w) (bk p (a8 2 (ba f15 [1,1,1,1,1] R))))) w) (a8 3 (bk (λm w=>W prog (sb f15 [1,1,1,1,0,1,0,0,1,1]) m (bk p (a8 2 (ba f15 [1,1,1,1,1] R))) w) (bk p (a8 2 (ba f15 [1,1,1,1,1] R)))))))) w=(cond (l<(e:Nat)) (cb u e l 3 λq=>cQ w q λx=>dI 12 #[I x,I 60] w λn z=>cond (n == k) (cb u e l 3 λo=>axs z o λr=>Lt 33 #[.pointer (some A),ad v g h,r.val] z λB=>y (Ju A s a b t c d u e f i v g h k (i64.wrap (l+1)) (ag j 0 30 (I l::ad u e f::eZ e::U (l<(e:Nat))::I l::I (i64.wrap (l+1))::ad u e f::I l::jp q::jp q::I x::I n::I k::U ((n:Int) == k)::jp A::ad v g h::ad u e f::I l::jp o::r.val::.tuple #[]::ag j 51 36 []))) B) (y (Ju A s a b t c d u e f i v g h k (i64.wrap (l+1)) (ag j 0 30 (I l::ad u e f::eZ e::U (l<(e:Nat))::I l::I (i64.wrap (l+1))::ad u e f::I l::jp q::jp q::I x::I n::I k::U ((n:Int) == k)::ag j 44 43 []))) z)) (W prog (sb f15 [1,1,1,1,0,1,0,0,1,0,0,1]) (aen A s a b t c d u e f i v g h k (ag j 0 7 (I l::ag j 7 23 (I l::ad u e f::eZ e::U (l<(e:Nat))::ag j 34 53 [])))) (a8 3 (bk (λm w=>W prog (sb f15 [1,1,1,1,0,1,0,0,1,1]) m (bk p (a8 2 (ba f15 [1,1,1,1,1] R))) w) (bk p (a8 2 (ba f15 [1,1,1,1,1] R))))) w)):=by kernel_rfl
theorem awY (m:aB->aV):W prog (sb f15 [1,1,1,1,0,1,0,0,1,0,0,1]) (aen A s a b t c d u e f i v g h k j) (a8 3 (bk (λl w=>W prog (sb f15 [1,1,1,1,0,1,0,0,1,1]) l (bk m (a8 2 (ba f15 [1,1,1,1,1] R))) w) (bk m (a8 2 (ba f15 [1,1,1,1,1] R))))) w=(dT prog (e0 f15 [1,1,1,1,0,1,0,0,1,0,0,1,0,1,0,0]) (N' A s a b t c d u e f i v g h k 0 (ag j 0 8 (ag j 9 79 []))) (a8 6 (bk (λl w=>W prog (sb f15 [1,1,1,1,0,1,0,0,1,0,0,1,1]) l (a8 3 (bk (λl w=>W prog (sb f15 [1,1,1,1,0,1,0,0,1,1]) l (bk m (a8 2 (ba f15 [1,1,1,1,1] R))) w) (bk m (a8 2 (ba f15 [1,1,1,1,1] R))))) w) (a8 3 (bk (λl w=>W prog (sb f15 [1,1,1,1,0,1,0,0,1,1]) l (bk m (a8 2 (ba f15 [1,1,1,1,1] R))) w) (bk m (a8 2 (ba f15 [1,1,1,1,1] R))))))) w):=by kernel_rfl
theorem av4 (c:aB->aV):W prog (sb f15 [1,1,1,1,1,0,1,0,0]) (N_ A s a b i j) (bk c (a8 8 (ba f15 [1,1,1,1,1,1] R))) w=(cond (i<(a:Nat)) (cb s a i 36 λe=>hW w e λr=>Lr 34 #[.pointer (some A),r.val] w λd h=>cb s a i 36 λf=>bJ h f 0 d.cells λg=>c (N_ A s a b (i64.wrap (i+1)) (ag j 0 76 [I i,ad s a b,eZ a,U (i<(a:Nat)),I i,I (i64.wrap (i+1)),ad s a b,I i,jp A,ad s a b,I i,jp e,r.val,d.val,jp f,aW j 91])) g) (W prog (sb f15 [1,1,1,1,1,1]) (aeo s a b (jp A::ag j 0 14 (I i::ag j 14 62 (I i::ad s a b::eZ a::U (i<(a:Nat))::ag j 80 12 [])))) (c3 f15 R) w)):=by kernel_rfl
theorem awZ:W prog (sb f15 [1,1,1,1,1,1]) (aeo s a b j) (c3 f15 R) w=(R (ad s a b) w):=by kernel_rfl
theorem av5 (p:aB->aV) (q:aB->aV):W prog (sb f15 [1,1,1,1,0,1,0,0,1,0,0,1,0,1,0,0]) (N' A s a b t c d u e f i v g h k l j) (bk q (a8 6 (bk (λm w=>W prog (sb f15 [1,1,1,1,0,1,0,0,1,0,0,1,1]) m (a8 3 (bk (λm w=>W prog (sb f15 [1,1,1,1,0,1,0,0,1,1]) m (bk p (a8 2 (ba f15 [1,1,1,1,1] R))) w) (bk p (a8 2 (ba f15 [1,1,1,1,1] R))))) w) (a8 3 (bk (λm w=>W prog (sb f15 [1,1,1,1,0,1,0,0,1,1]) m (bk p (a8 2 (ba f15 [1,1,1,1,1] R))) w) (bk p (a8 2 (ba f15 [1,1,1,1,1] R)))))))) w=(cond (l<(a:Nat)) (cb s a l 36 λx=>hW w x λr=>Lr 34 #[.pointer (some A),r.val] w λn z=>cb s a l 36 λo=>bJ z o 0 n.cells λy=>q (N' A s a b t c d u e f i v g h k (i64.wrap (l+1)) (ag j 0 51 (I l::ad s a b::eZ a::U (l<(a:Nat))::I l::I (i64.wrap (l+1))::ad s a b::I l::jp A::ad s a b::I l::jp x::r.val::n.val::jp o::ag j 66 21 []))) y) (W prog (sb f15 [1,1,1,1,0,1,0,0,1,0,0,1,1]) (aep A s a b t c d u e f i v g h k (ag j 0 8 (I l::ag j 8 43 (I l::ad s a b::eZ a::U (l<(a:Nat))::ag j 55 32 [])))) (a8 3 (bk (λm w=>W prog (sb f15 [1,1,1,1,0,1,0,0,1,1]) m (bk p (a8 2 (ba f15 [1,1,1,1,1] R))) w) (bk p (a8 2 (ba f15 [1,1,1,1,1] R))))) w)):=by kernel_rfl
theorem aw0 (l:aB->aV):W prog (sb f15 [1,1,1,1,0,1,0,0,1,0,0,1,1]) (aep A s a b t c d u e f i v g h k j) (a8 3 (bk (λo w=>W prog (sb f15 [1,1,1,1,0,1,0,0,1,1]) o (bk l (a8 2 (ba f15 [1,1,1,1,1] R))) w) (bk l (a8 2 (ba f15 [1,1,1,1,1] R))))) w=(fu 35 #[.pointer (some A),ad t c d,I k] w λn m=>cond (!n) (W prog (sb f15 [1,1,1,1,1]) (N9 A s a b (ad t c d::ad u e f::I i::ag j 0 6 (ad v g h::aW j 6::I k::ag j 7 60 (jp A::ad t c d::I k::U n::U (!n)::ag j 72 16 [])))) (c3 f15 R) m) (l (N8 A s a b t c d u e f i v g h (i64.wrap (k+1)) (ag j 0 29 (I k::I (i64.wrap (k+1))::ag j 31 36 (jp A::ad t c d::I k::U n::U (!n)::ag j 72 16 [])))) m)):=by kernel_rfl
theorem ay4 (i:dx):bS prog f26 [bM a,i.val] R w=(bb w i.cells.toArray 45 λn p=>bb p #[I 0,I 0,I 0,I 0,I 0,I 0,I 0,ah 0,I 0,I 0,I 0,I 0,bC,bC,bC,I 0,I 0,I 0,I 0,bC,I 0,I 0,ah 0,bC,U false,U false,I 0,I 0,bC,I 0,bC,ah 0,I 0,I 0,I 0,I 0] 45 λg j=>hW j (ae n 0) λr=>bb j r.cells.toArray 45 λl o=>hJ 15 #[bM a,ad (b7 l) 1 1,bC,bC,I 20000] o λe b c h=>cb e b 0 36 λm=>hW h m λk=>bJ h (ae g 0) 0 k.cells λf=>hW f (ae g 0) λd=>f=f/\R d.val f):=by kernel_rfl
theorem azc (ee:dx):bS prog f34 [bM a,ee.val] R w=(bb w ee.cells.toArray 45 λu xh=>bb xh #[I 0,I 0,I 0,I 0,I 0,I 0,I 0,ah 0,I 0,I 0,I 0,I 0,bC,bC,bC,I 0,I 0,I 0,I 0,bC,I 0,I 0,ah 0,bC,U false,U false,I 0,I 0,bC,I 0,bC,ah 0,I 0,I 0,I 0,I 0] 45 λB E=>p4 E (ae u 24) λj=>cond j (hW E (ae u 0) λr=>bJ E (ae B 0) 0 r.cells λM=>hW M (ae B 0) λxx=>M=M/\R xx.val M) (cQ E (ae u 1) λb=>fu 43 #[bM a,I b] E λc G=>cond (!c) (hW G (ae u 0) λxo=>bJ G (ae B 0) 0 xo.cells λL=>hW L (ae B 0) λxc=>L=L/\R xc.val L) (cQ G (ae u 1) λd=>dI 63 #[bM a,I d] G λf bF=>cond (f>0) (hW bF (ae u 0) λxa=>bJ bF (ae B 0) 0 xa.cells λT=>hW T (ae B 0) λxt=>T=T/\R xt.val T) (cQ bF (ae u 1) λg=>p7 64 #[bM a,I g] bF λh i k l C=>cond l (de C (ae u 23) λm n o=>fk 42 (bC) (ad m n o) C λxd p q xD=>bb xD #[ad h i k] 100 λw9 sV=>fk 42 (ad xd p q) (ad (b7 w9) 1 1) sV λs t v xb=>ev xb (ae u 23) (ad s t v) λS=>de S (ae u 23) λx y z=>cond ((y:Int)>200) (ev S (ae u 24) (U true) λX=>ev X (ae u 25) (U true) λnv=>hW nv (ae u 0) λsW=>bJ nv (ae B 0) 0 sW.cells λO=>hW O (ae B 0) λvh=>O=O/\R vh.val O) (hW S (ae u 0) λxe=>Calls prog 65 #[xe.val] S λe xi=>∃ (Y:ax) (kN e9:Nat),dx.ex λkP=>e=.returned (.tuple #[ad Y kN e9,kP.val])/\bJ xi (ae u 0) 0 kP.cells λF=>p4 F (ae u 24) λxq=>cond (!xq) (cQ F (ae u 1) λvj=>dI 66 #[bM a,I vj,ad Y kN e9] F λxz V=>cond (xz != 0) (ev V (ae u 24) (U true) λxC=>ev xC (ae u 25) (U true) λe_=>hW e_ (ae u 0) λw_=>bJ e_ (ae B 0) 0 w_.cells λH=>hW H (ae B 0) λxy=>H=H/\R xy.val H) (hW V (ae u 0) λxu=>bJ V (ae B 0) 0 xu.cells λbG=>hW bG (ae B 0) λxv=>bG=bG/\R xv.val bG)) (hW F (ae u 0) λvi=>bJ F (ae B 0) 0 vi.cells λN=>hW N (ae B 0) λxB=>N=N/\R xB.val N))) (de C (ae u 23) λy7 xg vk=>cond ((xg:Int)>200) (ev C (ae u 24) (U true) λxf=>ev xf (ae u 25) (U true) λe7=>hW e7 (ae u 0) λxj=>bJ e7 (ae B 0) 0 xj.cells λK=>hW K (ae B 0) λxr=>K=K/\R xr.val K) (hW C (ae u 0) λxl=>Calls prog 65 #[xl.val] C λe xn=>∃ (lh:ax) (kO A:Nat),dx.ex λkr=>e=.returned (.tuple #[ad lh kO A,kr.val])/\bJ xn (ae u 0) 0 kr.cells λD=>p4 D (ae u 24) λxk=>cond (!xk) (cQ D (ae u 1) λxw=>dI 66 #[bM a,I xw,ad lh kO A] D λxp W=>cond (xp != 0) (ev W (ae u 24) (U true) λqN=>ev qN (ae u 25) (U true) λZ=>hW Z (ae u 0) λxm=>bJ Z (ae B 0) 0 xm.cells λP=>hW P (ae B 0) λy6=>P=P/\R y6.val P) (hW W (ae u 0) λqO=>bJ W (ae B 0) 0 qO.cells λQ=>hW Q (ae B 0) λxA=>Q=Q/\R xA.val Q)) (hW D (ae u 0) λvg=>bJ D (ae B 0) 0 vg.cells λfS=>hW fS (ae B 0) λqP=>fS=fS/\R qP.val fS))))))):=by kernel_rfl
theorem azd (e7:dx):bS prog f65 [e7.val] R w=(bb w e7.cells.toArray 45 λu xp=>bb xp #[I 0,I 0,I 0,I 0,I 0,I 0,I 0,ah 0,I 0,I 0,I 0,I 0,bC,bC,bC,I 0,I 0,I 0,I 0,bC,I 0,I 0,ah 0,bC,U false,U false,I 0,I 0,bC,I 0,bC,ah 0,I 0,I 0,I 0,I 0] 45 λD B=>cQ B (ae u 0) λa=>cond (a == 1) (axt B (ae u 2) λxi=>de B (ae u 23) λb c d=>Calls prog 90 #[xi.val,ad b c d] B λe xz=>∃ (f:ax) (g h:Nat),DH.ex λkN=>∃ (i:Bool),e=.returned (.tuple #[ad f g h,kN.val,U i])/\bb xz #[I 0,I 0,I 0,bC,I 0,U false,ah 0,bC,bC,bC] 163 λF xa=>bJ xa (ae F 0) 0 kN.cells λxy=>dP xy λxl j=>eG j (ae F 0) λk=>VI j (ae F 2) λT=>eG j (ae F 4) λl=>iE j (ae F 9) λm n o=>ev xl (ae u 24) (U i) λnv=>j nv/\ev nv (ae u 26) (I k) λS=>j S/\bJ S (ae u 27) 0 T.cells λvi=>j vi/\ev vi (ae u 29) (I l) λvj=>j vj/\ev vj (ae u 30) (ad m n o) λxB=>dP xB λxg xh=>HC xh (ae u 0) λr=>bJ xg (ae D 0) 0 r.cells λbF=>hW bF (ae D 0) λFf=>bF=bF/\R (.tuple #[ad f g h,Ff.val]) bF) (cond (a == 2) (axu B (ae u 3) λAV=>de B (ae u 23) λp q s=>Calls prog 91 #[AV.val,ad p q s] B λe xe=>∃ (t:ax) (v x:Nat),Ez.ex λvg=>∃ (y:Bool),e=.returned (.tuple #[ad t v x,vg.val,U y])/\bb xe #[I 0,ah 0,I 0] 167 λP AP=>bJ AP (ae P 0) 0 vg.cells λxj=>dP xj λAX K=>eG K (ae P 0) λz=>qG K (ae P 1) λAT=>ev AX (ae u 24) (U y) λZ=>K Z/\ev Z (ae u 26) (I z) λkP=>K kP/\ev kP (ae u 31) (ah AT) λxA=>dP xA λFa Fc=>HC Fc (ae u 0) λAO=>bJ Fa (ae D 0) 0 AO.cells λH=>hW H (ae D 0) λAQ=>H=H/\R (.tuple #[ad t v x,AQ.val]) H) (cond (a == 3) (VJ B (ae u 8) λxq=>de B (ae u 23) λqP CN xw=>Calls prog 92 #[xq.val,ad qP CN xw] B λe AR=>∃ (lh:ax) (W sW:Nat),cl.ex λkr=>∃ (qN:Bool),e=.returned (.tuple #[ad lh W sW,kr.val,U qN])/\bb AR #[I 0,I 0] 171 λO AU=>bJ AU (ae O 0) 0 kr.cells λxm=>dP xm λxC N=>eG N (ae O 0) λxn=>eG N (ae O 1) λxf=>ev xC (ae u 24) (U qN) λfS=>N fS/\ev fS (ae u 26) (I xn) λX=>N X/\ev X (ae u 32) (I xf) λy7=>dP y7 λxD w9=>HC w9 (ae u 0) λqO=>bJ xD (ae D 0) 0 qO.cells λbG=>hW bG (ae D 0) λxr=>bG=bG/\R (.tuple #[ad lh W sW,xr.val]) bG) (cond (a == 4) (ae8 B (ae u 15) λvk=>de B (ae u 23) λFe Fb A=>Calls prog 93 #[vk.val,ad Fe Fb A] B λe E'=>∃ (e9:ax) (sV kO:Nat),f7.ex λV=>∃ (Y:Bool),e=.returned (.tuple #[ad e9 sV kO,V.val,U Y])/\bb E' #[I 0,I 0,I 0,I 0,ah 0] 175 λG xc=>bJ xc (ae G 0) 0 V.cells λxu=>dP xu λxv E=>eG E (ae G 0) λAW=>eG E (ae G 1) λxk=>eG E (ae G 2) λAS=>eG E (ae G 3) λxb=>ev xv (ae u 24) (U Y) λee=>E ee/\ev ee (ae u 26) (I AW) λQ=>E Q/\ev Q (ae u 33) (I xk) λe_=>E e_/\ev e_ (ae u 34) (I AS) λvh=>E vh/\ev vh (ae u 35) (I xb) λw_=>dP w_ λxx E_=>HC E_ (ae u 0) λxd=>bJ xx (ae D 0) 0 xd.cells λL=>hW L (ae D 0) λCO=>L=L/\R (.tuple #[ad e9 sV kO,CO.val]) L) (ev B (ae u 24) (U true) λE9=>ev E9 (ae u 25) (U true) λC=>dP C λFg xo=>HC xo (ae u 0) λy6=>bJ Fg (ae D 0) 0 y6.cells λM=>hW M (ae D 0) λxt=>M=M/\R (.tuple #[bC,xt.val]) M))))):=by kernel_rfl
end
namespace mA
def conv:Conv:=⟨eP ⊕ c8,(Int×Int) ⊕ f7,λj G=>match j with
 | .inl j=>((g1 j G).1,.inl (g1 j G).2.1,(g1 j G).2.2)
 | .inr j=>((jK j G).1,.inr (jK j G).2.1,(jK j G).2.2)⟩
def akU (j:conv.bG):Int:=match j with
 | .inl _=>3
 | .inr _=>4
structure Dd (A:bB) (w:av) (r:fT) (j:c8):Prop where
 at_:Fu w r j
 view:ky A w r.View j.v
theorem Dd.aO {A A':bB} {w w':av} {r:fT} {j:c8} (h:Dd A w r j) (J:ay A w w') (c1:∀ k,k<w.heap.size->A' k->A k):Dd A' w' r j:=by obtain ⟨bc,aw⟩:=h;have d_:=iH.ky.aO aw J c1;exact ⟨⟨bc.bw,bc.inc,bc.lines,⟨A',d_⟩,bc.dead,bc.gP,bc.prev,bc.u64⟩,d_⟩
def M9 (A:bB) (w:av) (r:dx) (j:conv.bG):Prop:=match j with
 | .inl j=>iH.Dc A w r.o4 j
 | .inr j=>Dd A w r.Recover j
def Nn (A:bB) (w:av) (r:dx) (o:conv.O):Prop:=match o with
 | .inl o=>r.Code=o.1/\r.Db=o.2
 | .inr o=>r.Code=o.Code/\r.rR=o.rR/\r.Seq=o.Seq/\r.rO=o.rO
theorem M9.aO {A A':bB} {w w':av} {r:dx} {j:conv.bG} (h:M9 A w r j) (J:ay A w w') (c1:∀ k,k<w.heap.size->A' k->A k):M9 A' w' r j:=by
 cases j with
 |inl j=>exact iH.Dc.aO h J c1
 |inr j=>exact Dd.aO h J c1
theorem Nn.aO {A A':bB} {w w':av} {r:dx} {o:conv.O} (h:Nn A w r o) (J:ay A w w') (c1:∀ k,k<w.heap.size->A' k->A k):Nn A' w' r o:=by
 cases o with
 |inl o=>exact h
 |inr o=>exact h
end mA
section
open iH
structure kt where
 aQ:Nat
 cf:Nat->Option a_
def vr (E:Env) (A:cd) (v:bn):Prop:=(∀ m p,p ∈ cA E->v=jO m p->A.cO m (b9 p)=2)/\∀ m,v=dV m 32 [fl E]->A.gq m=true
def xU (E:Env) (A:cd) (vs:List bn) (cf:Nat->Option a_):Prop:=∀ (q:Nat) (v:bn) (d:a_),vs[q]?=some v->cf q=some d->d.code=0->vr E A v
theorem vr.mono {E:Env} {A A':cd} {v:bn} (h:vr E A v) (hm:fN E A A'):vr E A' v:=⟨λm p ar e=>hm.cO m _ (h.1 m p ar e),λm e=>hm.gq m (h.2 m e)⟩
theorem xU.mono {E:Env} {A A':cd} {vs:List bn} {cf:Nat->Option a_} (h:xU E A vs cf) (hm:fN E A A'):xU E A' vs cf:=λq v d af al aL=>(h q v d af al aL).mono hm
def iC (E:Env) (A:cd) (g:kt):Prop:=match g.aQ with
 | 0=>ku E A/\(∀ m,m<E.n->A.gq m=false)/\(∀ m,m<E.n->∀ p ∈ cA E,A.cO m (b9 p)=0)/\∀ m,m<E.n->∀ d,g.cf m=some d->d.code=0->A.hF m=true
 | 1=>n6 E A/\ku E A/\∀ (q:Nat) (p:a6),(cA E)[q]?=some p->(g.cf q=none->A.cO 0 (b9 p)=0)/\∀ d,g.cf q=some d->d.code=0->gZ d=p.Head/\(A.cO 0 (b9 p)=1\/pD E A)
 | 2=>n6 E A/\(ku E A->(∀ p ∈ cA E,A.cO 0 (b9 p)=1)\/pD E A)/\∀ m,m<E.n->∀ d,g.cf m=some d->d.code=0->A.eo m=true
 | 3=>nD E A/\xU E A (jV E (cA E)) g.cf
 | 4=>nD E A/\C2 E A/\xU E A (kn E (cA E)) g.cf
 | 6=>zq E A
 | _=>True
def xZ (E:Env) (A:cd) (g:kt):Prop:=∀ (q:Nat) (d:a_),g.cf q=some d->∃ v,(g7 E g.aQ)[q]?=some v/\((d.code=0/\(d.words.length:Int)=v.v.ow)\/(d.code=5/\d.words=[]/\A.fA v.node.toNat=true))
structure fa where
 aQ:Nat
 cf:Nat->Option a_
 hY:eI
 bj:List bR
 et:Int
 sp:eI
 l:List a6
 hL:List a6
 fh:Int×Int
def eH (E:Env) (c:Nat) (g:fa):List bn:=match g.aQ with
 | 0=>oH E.n
 | 1=>my g.hY
 | 2=>lT c
 | 3=>lB E.n
 | 4=>lg E g.sp
 | 5=>lD (cA E)
 | 6=>jV E g.l
 | 7=>kn E g.l
 | 8=>ox g.hL
 | 9=>lq c
 | _=>[]
def hG (E:Env) (c:Nat) (g:fa):List (List a_)->dM×f7:=match g.aQ with
 | 0=>DK E c
 | 1=>vL E c g.hY
 | 2=>tc E c
 | 3=>zM E c
 | 4=>λX=>jF E c g.bj g.et g.fh (r5 E g.sp X)
 | 5=>λX=>jF E c g.bj g.et g.fh (r4 E X)
 | 6=>λX=>jF E c g.bj g.et g.fh (q2 E g.l X)
 | 7=>λX=>jF E c g.bj g.et g.fh (vO E g.l X)
 | 8=>λX=>jF E c g.bj g.et g.fh (yd g.hL X)
 | _=>x' E c g.bj g.et g.fh
def Own (E:Env) (A:cd) (c:Nat):Prop:=pD E A/\A.gU=lf c
def Nk (E:Env) (A:cd) (l:List a6):Prop:=(∀ p ∈ l,p ∈ cA E)/\l.length<=12/\∀ p ∈ cA E,p ∈ l\/A.cO 0 (b9 p)=2
def Fin (E:Env) (A:cd) (g:fa):Prop:=(zq E A/\g.fh.1=2/\qt E.L g.et g.bj=fl E+1)\/(FZ E A/\g.fh.1≠2)
def lo (g:fa):Prop:=(g.aQ=2/\∃ d,g.cf 0=some d/\gZ d=0)\/(3<=g.aQ/\g.aQ<=10)
def FK (cm:List bt) (v:bn):bR:=match cm[v.node.toNat]? with
 |none=>[]
 |some x=>(x.words.drop v.at_.toNat).take v.n.toNat
def ef (E:Env) (rs:eI) (A:cd) (cm:List bt) (gr:Nat->fa) (c:Nat):Prop:=match (gr c).aQ with
 | 0=>∀ m,m<E.n->∀ d,(gr c).cf m=some d->gZ d=1\/(gZ d=2/\A.fA m=true)
 | 1=>(∀ m,m<E.n->m ∉ (gr c).hY->A.fA m=true)/\(∀ m ∈ (gr c).hY,m<E.n)/\∀ (q m:Nat) (d:a_),(gr c).hY[q]?=some m->(gr c).cf q=some d->A.fA m=true/\(gZ d=1\/gZ d=2)
 | 2=>pD E A/\∀ d,(gr c).cf 0=some d->(gZ d=0/\A.gU=lf c)\/∃ c' ∈ rs,c'≠c/\gZ d=lf c'/\lo (gr c')
 | 3=>Own E A c/\∀ (q:Nat) (v:bn) (d:a_),(lB E.n)[q]?=some v->(gr c).cf q=some d->d.words=FK cm v
 | 4=>Own E A c/\n6 E A/\(∃ m,m<E.n/\A.eo m=true)/\(∀ p ∈ cA E,A.cO 0 (b9 p)≠0)/\(∀ m,m<E.n->m ∉ (gr c).sp->A.eo m=true)/\(∀ m ∈ (gr c).sp,m<E.n)/\(gr c).sp.Nodup/\(∀ (k m:Nat),(gr c).sp[k]?=some m->(gr c).cf (k * 3)=none->A.eo m=false)/\∀ (q m:Nat) (d:a_),(lg E (gr c).sp)[q]?=some (dV m 48 [n3 E])->(gr c).cf q=some d->A.eo m=true
 | 5=>Own E A c/\nD E A/\∀ (q:Nat) (p:a6) (d:a_),(cA E)[q]?=some p->(gr c).cf q=some d->(gZ d=ii p.Head 0↔A.cO 0 (b9 p)=1)
 | 6=>Own E A c/\nD E A/\Nk E A (gr c).l/\xU E A (jV E (gr c).l) (gr c).cf
 | 7=>Own E A c/\nD E A/\C2 E A/\Nk E A (gr c).l/\xU E A (kn E (gr c).l) (gr c).cf
 | 8=>Own E A c/\ku E A/\((gr c).hL=cA E\/∀ p ∈ cA E,A.cO 0 (b9 p)=0)/\(gr c).hL.length<=12/\(∀ p ∈ (gr c).hL,96<=p.b5/\p.b5<E.L)/\∀ (q:Nat) (p:a6) (d:a_),(gr c).hL[q]?=some p->(gr c).cf q=some d->p ∈ cA E->A.cO 0 (b9 p)=0
 | 9=>pD E A/\((gr c).cf 0=none->A.gU=lf c)/\Fin E A (gr c)
 | 10=>pD E A/\Fin E A (gr c)
 | 11=>∃ c' ∈ rs,c'≠c/\lo (gr c')
 | _=>True
def um (E:Env) (g:fa):Prop:=(4<=g.aQ/\g.aQ<=7->g.fh.1=2/\qt E.L g.et g.bj=fl E+1)/\(g.aQ=8->g.fh.1≠2)
def vu (E:Env) (c:Nat) (g:fa):Prop:=∀ (q:Nat) (d:a_),g.cf q=some d->∃ v,(eH E c g)[q]?=some v/\d.code=0/\(d.words.length:Int)=v.v.ow
def nW (g:fa):Prop:=(g.aQ=2/\∃ d,g.cf 0=some d/\gZ d=0)\/(3<=g.aQ/\g.aQ<=8)\/(g.aQ=9/\g.cf 0=none)
def I5 (rs:eI) (A:cd) (gr:Nat->fa):Prop:=A.gU=0\/∃ c ∈ rs,A.gU=lf c/\nW (gr c)
theorem Yi {c c':Nat} (h:lf c=lf c'):c=c':=by unfold lf at h;omega
theorem RI (c:Nat):lf c≠0:=by unfold lf;omega
theorem ef.own {E:Env} {rs:eI} {A:cd} {cm:List bt} {gr:Nat->fa} {c:Nat} (h:ef E rs A cm gr c) (ed:nW (gr c)):Own E A c:=by
 unfold ef at h;rcases ed with ⟨e,d,af,al⟩ | ⟨bY,bg⟩ | ⟨e,af⟩
 ·rw [e] at h;rcases h.2 d af with g | ⟨c',_,_,g,_⟩
  ·exact ⟨h.1,g.2⟩
  ·rw [al] at g;exact absurd g.symm (RI c')
 ·obtain e | e | e | e | e | e:(gr c).aQ=3\/(gr c).aQ=4\/(gr c).aQ=5\/(gr c).aQ=6\/(gr c).aQ=7\/(gr c).aQ=8:=by omega
  all_goals
   rw [e] at h;exact h.1
 ·rw [e] at h;exact ⟨h.1,h.2.1 af⟩
structure zx (E:Env) (A A':cd):Prop where
 mono:fN E A A'
 EM:pD E A->ku E A->ku E A'
 p2:pD E A->ku E A->∀ p ∈ cA E,A.cO 0 (b9 p)=0->A'.cO 0 (b9 p)=0
theorem zx.apA {E:Env} {A A':cd} (h:zx E A A') (g:FZ E A):FZ E A':=⟨h.mono.cf g.1,h.EM g.1 g.2.1,λp ar=>h.p2 g.1 g.2.1 p ar (g.2.2 p ar)⟩
theorem zx.fin {E:Env} {A A':cd} (h:zx E A A') {g:fa} (a':Fin E A g):Fin E A' g:=by
 rcases a' with ⟨a,b⟩ | ⟨a,b⟩
 ·exact .inl ⟨h.mono.aba a,b⟩
 ·exact .inr ⟨h.apA a,b⟩
theorem Own.one {E:Env} {A:cd} {c c':Nat} (h:Own E A c) (gH:Own E A c'):c=c':=Yi (h.2.symm.trans gH.2)
theorem ef.ld {E:Env} {rs:eI} {A A':cd} {cm tJ:List bt} {gr ie:Nat->fa} {c:Nat} (h:ef E rs A cm gr c) (aX:ie c=gr c) (fp:¬ nW (gr c)) (aq:zx E A A') (hw:∀ c',lo (gr c')->lo (ie c')):ef E rs A' tJ ie c:=by
 unfold ef at h ⊢;rw [aX];split at h
 ·exact λm hm d aC=>by
   rcases h m hm d aC with g | ⟨bs,bI⟩
   ·exact .inl g
   ·exact .inr ⟨bs,aq.mono.fA m bI⟩
 ·exact ⟨λm hm aj=>aq.mono.fA m (h.1 m hm aj),h.2.1,λq m d af al=>⟨aq.mono.fA m (h.2.2 q m d af al).1,(h.2.2 q m d af al).2⟩⟩
 ·rename_i e;refine ⟨aq.mono.cf h.1,λd aC=>?_⟩;rcases h.2 d aC with g | ⟨c',bs,bI,dd,ic⟩
  ·exact absurd (.inl ⟨e,d,aC,g.1⟩) fp
  ·exact .inr ⟨c',bs,bI,dd,hw c' ic⟩
 ·rename_i e;exact absurd (.inr (.inl ⟨by omega,by omega⟩)) fp
 ·rename_i e;exact absurd (.inr (.inl ⟨by omega,by omega⟩)) fp
 ·rename_i e;exact absurd (.inr (.inl ⟨by omega,by omega⟩)) fp
 ·rename_i e;exact absurd (.inr (.inl ⟨by omega,by omega⟩)) fp
 ·rename_i e;exact absurd (.inr (.inl ⟨by omega,by omega⟩)) fp
 ·rename_i e;exact absurd (.inr (.inl ⟨by omega,by omega⟩)) fp
 ·rename_i e;refine ⟨aq.mono.cf h.1,λaC=>absurd (.inr (.inr ⟨e,aC⟩)) fp,aq.fin h.2.2⟩
 ·exact ⟨aq.mono.cf h.1,aq.fin h.2⟩
 ·obtain ⟨c',bs,bI,dd⟩:=h;exact ⟨c',bs,bI,hw c' dd⟩
 ·trivial
theorem ef.stay {E:Env} {rs:eI} {A:cd} {cm:List bt} {gr ie:Nat->fa} {c:Nat} (h:ef E rs A cm gr c) (aX:ie c=gr c) (hw:∀ c',lo (gr c')->lo (ie c')):ef E rs A cm ie c:=by
 unfold ef at h ⊢;rw [aX];split at h
 ·exact h
 ·exact h
 ·refine ⟨h.1,λd aC=>?_⟩;rcases h.2 d aC with g | ⟨c',bs,bI,dd,ic⟩
  ·exact .inl g
  ·exact .inr ⟨c',bs,bI,dd,hw c' ic⟩
 all_goals first | exact h | skip
 ·obtain ⟨c',bs,bI,dd⟩:=h;exact ⟨c',bs,bI,hw c' dd⟩
structure zA (E:Env) (A A':cd):Prop where
 mono:fN E A A'
 EM:ku E A->ku E A'
 some_:ku E A'->ku E A
 gq:ku E A->∀ m,m<E.n->A.gq m=false->A'.gq m=false
 Ll:ku E A->∀ m,m<E.n->∀ p ∈ cA E,A.cO m (b9 p)=0->A'.cO m (b9 p)=0
 aeQ:ku E A->∀ p ∈ cA E,A.cO 0 (b9 p)=1->A'.cO 0 (b9 p)=1\/pD E A
theorem iC.rec {E:Env} (aj:1<=E.n) {A A':cd} {g:kt} (h:iC E A g) (aA:zA E A A'):iC E A' g:=by
 unfold iC at h ⊢;split at h
 ·obtain ⟨a,b,c,d⟩:=h;exact ⟨aA.EM a,λm hm=>aA.gq a m hm (b m hm),λm hm p ar=>aA.Ll a m hm p ar (c m hm p ar),λm hm x af al=>aA.mono.hF m (d m hm x af al)⟩
 ·obtain ⟨a,b,c⟩:=h;refine ⟨aA.mono.lb a,aA.EM b,λq p ar=>⟨λaC=>?_,λd aC aN=>?_⟩⟩
  ·exact aA.Ll b 0 aj p (dn ar) ((c q p ar).1 aC)
  ·obtain ⟨bs,bI⟩:=(c q p ar).2 d aC aN;refine ⟨bs,?_⟩;rcases bI with bI | bI
   ·rcases aA.aeQ b p (dn ar) bI with dd | dd
    ·exact .inl dd
    ·exact .inr (aA.mono.cf dd)
   ·exact .inr (aA.mono.cf bI)
 ·obtain ⟨a,b,c⟩:=h;refine ⟨aA.mono.lb a,λaj=>?_,λm hm d af al=>aA.mono.eo m (c m hm d af al)⟩;have ly:=aA.some_ aj;rcases b ly with g | g
  ·by_cases aC:pD E A
   ·exact .inr (aA.mono.cf aC)
   ·refine .inl λp ar=>?_
    rcases aA.aeQ ly p ar (g p ar) with dd | dd
    ·exact dd
    ·exact absurd dd aC
  ·exact .inr (aA.mono.cf g)
 ·exact ⟨aA.mono.am h.1,h.2.mono aA.mono⟩
 ·exact ⟨aA.mono.am h.1,aA.mono.Dy h.2.1,h.2.2.mono aA.mono⟩
 ·exact aA.mono.aba h
 ·trivial
end
end Go.Proofs.YtmkljjbioomepaaGreat
