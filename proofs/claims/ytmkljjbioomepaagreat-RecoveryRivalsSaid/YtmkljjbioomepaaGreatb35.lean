import Derived.Test.YtmkljjbioomepaaGreatb34
import Derived.Test.YtmkljjbioomepaaGreatProg
import Derived.Test.YtmkljjbioomepaaGreatb03
import Derived.Test.YtmkljjbioomepaaGreatb23
set_option linter.all false
set_option maxHeartbeats 4000000
set_option maxRecDepth 100000
namespace Go.Proofs.YtmkljjbioomepaaGreat
open Go.Proofs.Tryz Go.bu
section
open e7
structure o7 (vs:List aW) (ds:List aO):Prop where
 len:ds.length=vs.length
 each:∀ (q:Nat) (v:aW) (d:aO),vs[q]?=some v->ds[q]?=some d->(d.code=0/\(d.words.length:Int)=v.v.iq)\/(d.code=5/\d.words=[])
theorem BM:∀ {ds:List aO},(∀ d ∈ ds,d.code=0\/d.code=5)->(ho ds=5/\∃ d ∈ ds,d.code=5)\/(ho ds=0/\∀ d ∈ ds,d.code=0)
 | [],_=>.inr ⟨rfl,λd ar=>by cases ar⟩
 |d::ds,h=>by
  unfold ho;rcases h d e2 with e | e
  ·rw [if_pos e];rcases BM λx a=>h x (fu _ a) with ⟨b,x,c,f⟩ | ⟨b,c⟩
   ·exact .inl ⟨b,x,fu _ c,f⟩
   ·exact .inr ⟨b,λx a=>by rcases e6.1 a with rfl | a;exact e;exact c x a⟩
  ·rw [if_neg (by omega)];exact .inl ⟨e,d,e2,e⟩
theorem o7.get {vs:List aW} {ds:List aO} (h:o7 vs ds) {d:aO} (ar:d ∈ ds):∃ v,v ∈ vs/\((d.code=0/\(d.words.length:Int)=v.v.iq)\/(d.code=5/\d.words=[])):=by
 obtain ⟨q,c⟩:=eh.1 ar;have b:=cb c;have a:q<vs.length:=by rw [<-h.len];exact b
 exact ⟨vs[q],jS a,h.each q vs[q] d (bD a) c⟩
theorem o7.cases {vs:List aW} {ds:List aO} (h:o7 vs ds):Fit vs ds\/ho ds=5/\∃ d ∈ ds,d.code=5:=by
 rcases BM (ds:=ds) (λd ar=>by obtain ⟨v,_,g | g⟩:=h.get ar;exact .inl g.1;exact .inr g.1) with g | ⟨_,g⟩
 ·exact .inr g
 ·refine .inl ⟨h.len,λq v d al ar=>?_⟩;rcases h.each q v d al ar with e | e
  ·exact e
  ·have:=g d (b7 ar);omega
theorem BN {vs:List aW} {d:List aO} (G:List (List aO)) (al:vs≠[]) (h:o7 vs d) (i:ho d=5) (a:Int):cg (d::G) vs a=⟨false,[],(5,a),G,none,false⟩:=by
 have l:vs.length≠0:=λe=>al (nZ.1 e)
 have k:kr vs d=true:=by
  unfold kr;rw [e1,decide_eq_true_eq,gU];refine ⟨h.len.symm,λp n=>?_⟩;obtain ⟨q,o⟩:=eh.1 n;obtain ⟨f,g⟩:=Bk.1 o;unfold sj;rcases h.each q p.1 p.2 f g with ⟨b,c⟩ | ⟨b,c⟩
  ·rw [if_pos b];exact decide_eq_true c
  ·rw [if_neg (by omega),if_pos (.inr b),c];rfl
 have j:batch (d::G) vs=⟨d,true,G,none,false⟩:=by unfold batch;rw [if_neg l];simp only [k,if_true]
 unfold cg;rw [j];simp only [i];rfl
section
variable {E:Env}
def d' (E:Env):Nat->List aW
 | 0=>(List.range E.n).map λm=>cx m 56 (gS E)
 | 1=>(bI E).map λp=>fW 0 (p.bo * 8) p.Head (eK p.Head 0)
 | 2=>(List.range E.n).map λm=>cx m 48 [h' E]
 | 3=>fK E (bI E)
 | _=>f0 E (bI E)
def zx:Nat->Int
 | 0=>1
 | 1=>1
 | 2=>2
 | _=>3
def zr (E:Env):List (List (List aO)->cq):=re (E.a6 0)
def jU (E:Env) (aB:Nat) (G:List (List aO)):Prop:=∀ X,runM (E.a6 0) (G++X)=nF ((zr E).drop aB) X
theorem CI (ay:b8 E):nT (E.a6 0)=d' E 0:=ay.bM.zT
theorem yi (ay:b8 E):dC (E.a6 0)=d' E 1:=by rw [ay.bM.FX ay.e.n.1,ay.rd];simp;rfl
theorem CJ (ay:b8 E):nU (E.a6 0)=d' E 2:=ay.bM.Ag
theorem CK (ay:b8 E):qf (E.a6 0)=d' E 3:=ay.bM.Fa
theorem y6 (ay:b8 E):h1 (E.a6 0)=d' E 4:=ay.bM.Fl ay.e.n.1
theorem rB (ay:b8 E):∀ aB,aB<=4->(aB=3->1<E.n)->d' E aB≠[]
 | 0,_,_=>by have:=ay.e.n;intro e;have:=congrArg List.length e;simp [d'] at this;omega
 | 1,_,_=>by have:=ay.bM.some_;simpa [d'] using this
 | 2,_,_=>by have:=ay.e.n;intro e;have:=congrArg List.length e;simp [d'] at this;omega
 | 3,_,h=>we (h rfl) _
 | 4,_,_=>by simp [d',f0]
def sP (E:Env):Nat->List (List aO)->cq
 | 0=>rP (E.a6 0)
 | 1=>ka (E.a6 0)
 | 2=>tL (E.a6 0)
 | 3=>n3 (E.a6 0)
 | _=>nq (E.a6 0)
theorem yj:∀ aB,aB<=4->(zr E).drop aB=sP E aB::(zr E).drop (aB+1)
 | 0,_=>rfl
 | 1,_=>rfl
 | 2,_=>rfl
 | 3,_=>rfl
 | 4,_=>rfl
theorem vW (ay:b8 E):∀ aB,aB<=4->aB≠1->∀ X,sP E aB X=cg X (d' E aB) (zx aB)
 | 0,_,_,X=>by rw [<-CI ay];exact J2 ay.bM.valid ay.bM.some_ X
 | 2,_,_,X=>by rw [<-CJ ay];exact J3 ay.bM.valid ay.bM.some_ X
 | 3,_,_,X=>by rw [<-CK ay];rfl
 | 4,_,_,X=>by rw [<-y6 ay];exact K7 ay.bM.valid ay.bM.some_ X
def wh (E:Env) (D:List aO):Prop:=∀ (q:Nat) (p:aK) (d:aO),(bI E)[q]?=some p->D[q]?=some d->d8 d=p.Head
theorem BO:∀ {xs:bd} {ds:List aO},(∀ (q:Nat) (x:Int) (d:aO),xs[q]?=some x->ds[q]?=some d->d8 d=x)->il xs ds=false
 | [],_,_=>by unfold il;rfl
 |x::xs,[],_=>by unfold il;rfl
 |x::xs,d::ds,h=>by unfold il;rw [BO λq fT a b c=>h (q+1) fT a (by simpa using b) (by simpa using c),h 0 x d rfl rfl];simp
theorem JO (ay:b8 E) {D:List aO} (h:wh E D):il (ik (E.a6 0)) D=false:=by
 refine BO λq x d a ar=>?_
 unfold ik at a;rw [ay.rd,tj,i',dR] at a;obtain ⟨p,b,rfl⟩:=kP.1 a;exact h q p d b ar
theorem MM (ay:b8 E) {aB:Nat} (a:aB<=4) (b:aB=3->1<E.n):sP E aB []=ph (d' E aB):=by
 by_cases e:aB=1
 ·subst e;show ka (E.a6 0) []=_;unfold ka;rw [yi ay,AP (rB ay 1 (by omega) (by omega))];rfl
 ·rw [vW ay aB a e];exact AP (rB ay aB a b) _
theorem MN (ay:b8 E) {aB:Nat} (b:aB<=4) (d:aB=3->1<E.n) {D:List aO} (a:Fit (d' E aB) D) (f:aB=1->wh E D) (X:List (List aO)):∃ c,sP E aB (D::X)=su c X:=by
 by_cases e:aB=1
 ·subst e;refine ⟨[],?_⟩;have a:Fit (dC (E.a6 0)) D:=by rw [yi ay];exact a
  exact Nh ay.bM.valid ay.bM.some_ a (JO ay (f rfl)) X
 ·refine ⟨D,?_⟩;rw [vW ay aB b e];exact A6 X (rB ay aB b d) a _
theorem MO (ay:b8 E) {aB:Nat} (a:aB<=4) (d:aB=3->1<E.n) {D:List aO} (c:o7 (d' E aB) D) (b:ho D=5) (X:List (List aO)):sP E aB (D::X)=⟨false,[],(5,zx aB),X,none,false⟩:=by
 by_cases e:aB=1
 ·subst e;show ka (E.a6 0) (D::X)=_;unfold ka;rw [yi ay,BN X (rB ay 1 (by omega) (by omega)) c b];rfl
 ·rw [vW ay aB a e];exact BN X (rB ay aB a d) c b _
theorem Qt:jU E 0 []:=λX=>rfl
theorem jU.next (ay:b8 E) {aB:Nat} {G:List (List aO)} (h:jU E aB G) (a:aB<=4) (b:aB=3->1<E.n) {D:List aO} (d:Fit (d' E aB) D) (e:aB=1->wh E D):jU E (aB+1) (G++[D]):=λX=>by obtain ⟨f,c⟩:=MN ay a b d e X;rw [lr];refine (h ([D]++X)).trans ?_;rw [yj aB a];show tK (sP E aB (D::X)) _=_;rw [c];rfl
theorem jU.skip (ay:b8 E) {G:List (List aO)} (h:jU E 3 G) (a:E.n=1):jU E 4 G:=λX=>by refine (h X).trans ?_;rw [yj 3 (by omega),nF,vW ay 3 (by omega) (by omega)];show tK (cg X (fK E (bI E)) 3) _=_;rw [zq a,BY];rfl
theorem jU.ask (ay:b8 E) {aB:Nat} {G:List (List aO)} (h:jU E aB G) (a:aB<=4) (b:aB=3->1<E.n):d9 (E.a6 0) G=(d' E aB,(0,0),false):=by have:=h [];rw [i',yj aB a,nF,MM ay a b] at this;unfold d9;rw [if_neg (by rw [ay.bM.valid];simp),this];rfl
theorem jU.ref (ay:b8 E) {aB:Nat} {G:List (List aO)} (h:jU E aB G) (a:aB<=4) (b:aB=3->1<E.n) {D:List aO} (d:o7 (d' E aB) D) (c:ho D=5):d9 (E.a6 0) (G++[D])=([],(5,zx aB),true):=by have:=h [D];rw [yj aB a,nF,MO ay a b d c] at this;unfold d9;rw [if_neg (by rw [ay.bM.valid];simp),this];rfl
theorem jU.done (ay:b8 E) {G:List (List aO)} (h:jU E 5 G):d9 (E.a6 0) G=([],(0,3),true):=by have:=h [];rw [i'] at this;unfold d9;rw [if_neg (by rw [ay.bM.valid];simp),this];rfl
end
end
section
open IntKind
variable (w:ak) (R:cB) {a b c d e f g h:Nat} {s t u v:an} {i k l:Int} {A:aS} {j:aq}
def w5 (e:aS) (s1:an) (a b:Nat) (s2:an) (c d:Nat) (n:an) (f g:Nat) (o:Int) (h:an) (i k:Nat) (l:Int) (j:aq):aq:=.pointer (some e)::ae s1 a b::ae s2 c d::ae n f g::ab o::ag j 0 6 (ae h i k::ab l::ag j 6 82 [])
def FV (a:aS) (s1:an) (b c:Nat) (s2:an) (d f:Nat) (e:an) (g h:Nat) (n:Int) (i:an) (k l:Nat) (j:aq):aq:=.pointer (some a)::ae s1 b c::ae s2 d f::ae e g h::ab n::ag j 0 6 (ae i k l::ag j 6 83 [])
def w6 (e:aS) (s1:an) (a b:Nat) (s2:an) (c d:Nat) (n:an) (f g:Nat) (o:Int) (h:an) (i k:Nat) (l:Int) (j:aq):aq:=.pointer (some e)::ae s1 a b::ae s2 c d::ae n f g::ab o::ag j 0 6 (ae h i k::ag j 6 1 (ab l::ag j 7 81 []))
def w7 (a:aS) (s1:an) (b c:Nat) (j:aq):aq:=.pointer (some a)::ae s1 b c::ag j 0 93 []
def uu (e:aS) (s1:an) (a b:Nat) (s2:an) (c d:Nat) (n:an) (f g:Nat) (o:Int) (h:an) (i k:Nat) (l m:Int) (j:aq):aq:=.pointer (some e)::ae s1 a b::ae s2 c d::ae n f g::ab o::ag j 0 6 (ae h i k::ag j 6 1 (ab l::ab m::ag j 7 80 []))
def FW (a:aS) (s1:an) (b c:Nat) (s2:an) (d f:Nat) (e:an) (g h:Nat) (n:Int) (i:an) (k l:Nat) (m:Int) (j:aq):aq:=.pointer (some a)::ae s1 b c::ae s2 d f::ae e g h::ab n::ag j 0 6 (ae i k l::ag j 6 1 (ab m::ag j 7 81 []))
def w8 (d:aS) (s1:an) (a b:Nat) (c:Int) (j:aq):aq:=.pointer (some d)::ae s1 a b::ag j 0 14 (ab c::ag j 14 78 [])
def FQ (s1:an) (a b:Nat) (j:aq):aq:=ag j 0 1 (ae s1 a b::ag j 1 93 [])
def w9 (e:aS) (s1:an) (a b:Nat) (s2:an) (c d:Nat) (n:an) (f g:Nat) (o:Int) (h:an) (i k:Nat) (l m:Int) (j:aq):aq:=.pointer (some e)::ae s1 a b::ae s2 c d::ae n f g::ab o::ag j 0 6 (ae h i k::ag j 6 1 (ab l::ag j 7 1 (ab m::ag j 8 79 [])))
def FR (a:aS) (s1:an) (b c:Nat) (s2:an) (d f:Nat) (e:an) (g h:Nat) (n:Int) (i:an) (k l:Nat) (m:Int) (j:aq):aq:=.pointer (some a)::ae s1 b c::ae s2 d f::ae e g h::ab n::ag j 0 6 (ae i k l::ag j 6 1 (ab m::ag j 7 81 []))
theorem UB:bf prog f15 [a_ a,ae s b c,ae t d e,ae u f g,ab i] R w=(c9 46 (a5) (ae s b c) w λk h j l=>cv prog (c0 f15 [1,1,1,0,1,0,0]) (w5 (af a 0) k h j t d e u f g i none 0 0 0 (bb 5 (a5::bb 4 (ae s b c::ae k h j::bb 76 [])))) (aM 0 (aP f15 [1,1,1,1] R)) l):=by kernel_rfl
theorem Rz (q:aq->aE):W prog (sb f15 [1,1,1,0,1,0,0]) (w5 A s a b t c d u e f i v g h k j) (aU q (aM 0 (aP f15 [1,1,1,1] R))) w=(cond (k<(a:Nat)) (bm s a k 36 λp=>bS w (bT p 1) λm=>aQ w #[ab m] 3 λr x=>c9 22 (ae v g h) (ae (bn r) 1 1) x λl n o y=>q (w5 A s a b t c d u e f i l n o (i64.wrap (k+1)) (ag j 0 12 (ab k::ae s a b::cX a::ad (k<(a:Nat))::ab k::ab (i64.wrap (k+1))::ae v g h::ae s a b::ab k::jp p::bq p 1::ab m::ae (bn r) 1 1::ae l n o::ag j 26 62 []))) y) (W prog (sb f15 [1,1,1,1]) (FV A s a b t c d u e f i v g h (ag j 0 6 (ab k::ag j 6 6 (ab k::ae s a b::cX a::ad (k<(a:Nat))::ag j 16 72 [])))) (bZ f15 R) w)):=by kernel_rfl
theorem Sy:W prog (sb f15 [1,1,1,1]) (FV A s a b t c d u e f i v g h j) (bZ f15 R) w=(cv prog (c0 f15 [1,1,1,1,0,1,0,0]) (w6 A s a b t c d u e f i v g h 0 (ag j 0 7 (ag j 8 81 []))) (aM 2 (aP f15 [1,1,1,1,1] R)) w):=by kernel_rfl
theorem RA (l:aq->aE):W prog (sb f15 [1,1,1,1,0,1,0,0]) (w6 A s a b t c d u e f i v g h k j) (aU l (aM 2 (aP f15 [1,1,1,1,1] R))) w=(cond (k<i) (cv prog (c0 f15 [1,1,1,1,0,1,0,0,1,0,0,0,1,0,0]) (uu A s a b t c d u e f i v g h k 0 (ag j 0 7 (ag j 8 18 (ab k::ab i::ad (k<i)::ag j 29 59 [])))) (aM 4 (aU (λm w=>W prog (sb f15 [1,1,1,1,0,1,0,0,1,0,0,1]) m (aM 3 (aU (λm w=>W prog (sb f15 [1,1,1,1,0,1,0,0,1,1]) m (aU l (aM 2 (aP f15 [1,1,1,1,1] R))) w) (aU l (aM 2 (aP f15 [1,1,1,1,1] R))))) w) (aM 3 (aU (λm w=>W prog (sb f15 [1,1,1,1,0,1,0,0,1,1]) m (aU l (aM 2 (aP f15 [1,1,1,1,1] R))) w) (aU l (aM 2 (aP f15 [1,1,1,1,1] R))))))) w) (W prog (sb f15 [1,1,1,1,1]) (w7 A s a b (ae t c d::ae u e f::ab i::ag j 0 6 (ae v g h::aF j 6::ab k::ag j 7 19 (ab k::ab i::ad (k<i)::ag j 29 59 [])))) (bZ f15 R) w)):=by kernel_rfl
theorem Sz:W prog (sb f15 [1,1,1,1,1]) (w7 A s a b j) (bZ f15 R) w=(cv prog (c0 f15 [1,1,1,1,1,0,1,0,0]) (w8 A s a b 0 (ag j 0 14 (ag j 15 78 []))) (aM 8 (aP f15 [1,1,1,1,1,1] R)) w):=by kernel_rfl
theorem RB (p:aq->aE) (z:aq->aE):W prog (sb f15 [1,1,1,1,0,1,0,0,1,0,0,0,1,0,0]) (uu A s a b t c d u e f i v g h k l j) (aU z (aM 4 (aU (λm w=>W prog (sb f15 [1,1,1,1,0,1,0,0,1,0,0,1]) m (aM 3 (aU (λm w=>W prog (sb f15 [1,1,1,1,0,1,0,0,1,1]) m (aU p (aM 2 (aP f15 [1,1,1,1,1] R))) w) (aU p (aM 2 (aP f15 [1,1,1,1,1] R))))) w) (aM 3 (aU (λm w=>W prog (sb f15 [1,1,1,1,0,1,0,0,1,1]) m (aU p (aM 2 (aP f15 [1,1,1,1,1] R))) w) (aU p (aM 2 (aP f15 [1,1,1,1,1] R)))))))) w=(cond (l<(e:Nat)) (bm u e l 3 λq=>bS w q λx=>cm 12 #[ab x,ab 60] w λn y=>cond (n == k) (bm u e l 3 λo=>SZ y o λr=>uO 33 #[.pointer (some A),ae v g h,r.val] y λB=>z (uu A s a b t c d u e f i v g h k (i64.wrap (l+1)) (ag j 0 30 (ab l::ae u e f::cX e::ad (l<(e:Nat))::ab l::ab (i64.wrap (l+1))::ae u e f::ab l::jp q::jp q::ab x::ab n::ab k::ad ((n:Int) == k)::jp A::ae v g h::ae u e f::ab l::jp o::r.val::.tuple #[]::ag j 51 36 []))) B) (z (uu A s a b t c d u e f i v g h k (i64.wrap (l+1)) (ag j 0 30 (ab l::ae u e f::cX e::ad (l<(e:Nat))::ab l::ab (i64.wrap (l+1))::ae u e f::ab l::jp q::jp q::ab x::ab n::ab k::ad ((n:Int) == k)::ag j 44 43 []))) y)) (W prog (sb f15 [1,1,1,1,0,1,0,0,1,0,0,1]) (FW A s a b t c d u e f i v g h k (ag j 0 7 (ab l::ag j 7 23 (ab l::ae u e f::cX e::ad (l<(e:Nat))::ag j 34 53 [])))) (aM 3 (aU (λm w=>W prog (sb f15 [1,1,1,1,0,1,0,0,1,1]) m (aU p (aM 2 (aP f15 [1,1,1,1,1] R))) w) (aU p (aM 2 (aP f15 [1,1,1,1,1] R))))) w)):=by kernel_rfl
theorem SA (m:aq->aE):W prog (sb f15 [1,1,1,1,0,1,0,0,1,0,0,1]) (FW A s a b t c d u e f i v g h k j) (aM 3 (aU (λl w=>W prog (sb f15 [1,1,1,1,0,1,0,0,1,1]) l (aU m (aM 2 (aP f15 [1,1,1,1,1] R))) w) (aU m (aM 2 (aP f15 [1,1,1,1,1] R))))) w=(cv prog (c0 f15 [1,1,1,1,0,1,0,0,1,0,0,1,0,1,0,0]) (w9 A s a b t c d u e f i v g h k 0 (ag j 0 8 (ag j 9 79 []))) (aM 6 (aU (λl w=>W prog (sb f15 [1,1,1,1,0,1,0,0,1,0,0,1,1]) l (aM 3 (aU (λl w=>W prog (sb f15 [1,1,1,1,0,1,0,0,1,1]) l (aU m (aM 2 (aP f15 [1,1,1,1,1] R))) w) (aU m (aM 2 (aP f15 [1,1,1,1,1] R))))) w) (aM 3 (aU (λl w=>W prog (sb f15 [1,1,1,1,0,1,0,0,1,1]) l (aU m (aM 2 (aP f15 [1,1,1,1,1] R))) w) (aU m (aM 2 (aP f15 [1,1,1,1,1] R))))))) w):=by kernel_rfl
theorem RC (c:aq->aE):W prog (sb f15 [1,1,1,1,1,0,1,0,0]) (w8 A s a b i j) (aU c (aM 8 (aP f15 [1,1,1,1,1,1] R))) w=(cond (i<(a:Nat)) (bm s a i 36 λe=>eR w e λr=>sF 34 #[.pointer (some A),r.val] w λd g=>bm s a i 36 λf=>a' g f 0 d.cells λh=>c (w8 A s a b (i64.wrap (i+1)) (ag j 0 76 [ab i,ae s a b,cX a,ad (i<(a:Nat)),ab i,ab (i64.wrap (i+1)),ae s a b,ab i,jp A,ae s a b,ab i,jp e,r.val,d.val,jp f,aF j 91])) h) (W prog (sb f15 [1,1,1,1,1,1]) (FQ s a b (jp A::ag j 0 14 (ab i::ag j 14 62 (ab i::ae s a b::cX a::ad (i<(a:Nat))::ag j 80 12 [])))) (bZ f15 R) w)):=by kernel_rfl
theorem SB:W prog (sb f15 [1,1,1,1,1,1]) (FQ s a b j) (bZ f15 R) w=(R (ae s a b) w):=by kernel_rfl
theorem RD (p:aq->aE) (x:aq->aE):W prog (sb f15 [1,1,1,1,0,1,0,0,1,0,0,1,0,1,0,0]) (w9 A s a b t c d u e f i v g h k l j) (aU x (aM 6 (aU (λm w=>W prog (sb f15 [1,1,1,1,0,1,0,0,1,0,0,1,1]) m (aM 3 (aU (λm w=>W prog (sb f15 [1,1,1,1,0,1,0,0,1,1]) m (aU p (aM 2 (aP f15 [1,1,1,1,1] R))) w) (aU p (aM 2 (aP f15 [1,1,1,1,1] R))))) w) (aM 3 (aU (λm w=>W prog (sb f15 [1,1,1,1,0,1,0,0,1,1]) m (aU p (aM 2 (aP f15 [1,1,1,1,1] R))) w) (aU p (aM 2 (aP f15 [1,1,1,1,1] R)))))))) w=(cond (l<(a:Nat)) (bm s a l 36 λq=>eR w q λr=>sF 34 #[.pointer (some A),r.val] w λn y=>bm s a l 36 λo=>a' y o 0 n.cells λz=>x (w9 A s a b t c d u e f i v g h k (i64.wrap (l+1)) (ag j 0 51 (ab l::ae s a b::cX a::ad (l<(a:Nat))::ab l::ab (i64.wrap (l+1))::ae s a b::ab l::jp A::ae s a b::ab l::jp q::r.val::n.val::jp o::ag j 66 21 []))) z) (W prog (sb f15 [1,1,1,1,0,1,0,0,1,0,0,1,1]) (FR A s a b t c d u e f i v g h k (ag j 0 8 (ab l::ag j 8 43 (ab l::ae s a b::cX a::ad (l<(a:Nat))::ag j 55 32 [])))) (aM 3 (aU (λm w=>W prog (sb f15 [1,1,1,1,0,1,0,0,1,1]) m (aU p (aM 2 (aP f15 [1,1,1,1,1] R))) w) (aU p (aM 2 (aP f15 [1,1,1,1,1] R))))) w)):=by kernel_rfl
theorem SC (l:aq->aE):W prog (sb f15 [1,1,1,1,0,1,0,0,1,0,0,1,1]) (FR A s a b t c d u e f i v g h k j) (aM 3 (aU (λo w=>W prog (sb f15 [1,1,1,1,0,1,0,0,1,1]) o (aU l (aM 2 (aP f15 [1,1,1,1,1] R))) w) (aU l (aM 2 (aP f15 [1,1,1,1,1] R))))) w=(de 35 #[.pointer (some A),ae t c d,ab k] w λn m=>cond (!n) (W prog (sb f15 [1,1,1,1,1]) (w7 A s a b (ae t c d::ae u e f::ab i::ag j 0 6 (ae v g h::aF j 6::ab k::ag j 7 60 (jp A::ae t c d::ab k::ad n::ad (!n)::ag j 72 16 [])))) (bZ f15 R) m) (l (w6 A s a b t c d u e f i v g h (i64.wrap (k+1)) (ag j 0 29 (ab k::ab (i64.wrap (k+1))::ag j 31 36 (jp A::ae t c d::ab k::ad n::ad (!n)::ag j 72 16 [])))) m)):=by kernel_rfl
theorem UC (h:cj):bf prog f26 [a_ a,h.val] R w=(aQ w h.cells.toArray 45 λm l=>aQ l #[ab 0,ab 0,ab 0,ab 0,ab 0,ab 0,ab 0,ah 0,ab 0,ab 0,ab 0,ab 0,a5,a5,a5,ab 0,ab 0,ab 0,ab 0,a5,ab 0,ab 0,ah 0,a5,ad false,ad false,ab 0,ab 0,a5,ab 0,a5,ah 0,ab 0,ab 0,ab 0,ab 0] 45 λg i=>eR i (af m 0) λr=>aQ i r.cells.toArray 45 λk o=>eE 15 #[a_ a,ae (bn k) 1 1,a5,a5,ab 20000] o λe b c j=>bm e b 0 36 λn=>eR j n λp=>a' j (af g 0) 0 p.cells λf=>eR f (af g 0) λd=>f=f/\R d.val f):=by kernel_rfl
theorem UR (Y:cj):bf prog f34 [a_ a,Y.val] R w=(aQ w Y.cells.toArray 45 λu Wi=>aQ Wi #[ab 0,ab 0,ab 0,ab 0,ab 0,ab 0,ab 0,ah 0,ab 0,ab 0,ab 0,ab 0,a5,a5,a5,ab 0,ab 0,ab 0,ab 0,a5,ab 0,ab 0,ah 0,a5,ad false,ad false,ab 0,ab 0,a5,ab 0,a5,ah 0,ab 0,ab 0,ab 0,ab 0] 45 λA E=>jo E (af u 24) λj=>cond j (eR E (af u 0) λr=>a' E (af A 0) 0 r.cells λa7=>eR a7 (af A 0) λWw=>a7=a7/\R Ww.val a7) (bS E (af u 1) λb=>de 43 #[a_ a,ab b] E λc P=>cond (!c) (eR P (af u 0) λV2=>a' P (af A 0) 0 V2.cells λH=>eR H (af A 0) λV4=>H=H/\R V4.val H) (bS P (af u 1) λd=>cm 63 #[a_ a,ab d] P λf L=>cond (f>0) (eR L (af u 0) λWd=>a' L (af A 0) 0 Wd.cells λK=>eR K (af A 0) λWC=>K=K/\R WC.val K) (bS L (af u 1) λg=>js 64 #[a_ a,ab g] L λh i k l C=>cond l (b5 C (af u 23) λm n o=>c9 42 (a5) (ae m n o) C λWa p q We=>aQ We #[ae h i k] 100 λWc Wk=>c9 42 (ae Wa p q) (ae (bn Wc) 1 1) Wk λs t v V9=>cI V9 (af u 23) (ae s t v) λM=>b5 M (af u 23) λx y z=>cond ((y:Int)>200) (cI M (af u 24) (ad true) λWN=>cI WN (af u 25) (ad true) λZ=>eR Z (af u 0) λV3=>a' Z (af A 0) 0 V3.cells λT=>eR T (af A 0) λWj=>T=T/\R Wj.val T) (eR M (af u 0) λWg=>Calls prog 65 #[Wg.val] M λe WA=>∃ (hR:an) (WE WI:Nat),cj.ex λWF=>e=.returned (.tuple #[ae hR WE WI,WF.val])/\a' WA (af u 0) 0 WF.cells λD=>jo D (af u 24) λWr=>cond (!Wr) (bS D (af u 1) λJ=>cm 66 #[a_ a,ab J,ae hR WE WI] D λWf W=>cond (Wf != 0) (cI W (af u 24) (ad true) λWp=>cI Wp (af u 25) (ad true) λX=>eR X (af u 0) λWu=>a' X (af A 0) 0 Wu.cells λa6=>eR a6 (af A 0) λU=>a6=a6/\R U.val a6) (eR W (af u 0) λWs=>a' W (af A 0) 0 Ws.cells λN=>eR N (af A 0) λWn=>N=N/\R Wn.val N)) (eR D (af u 0) λWz=>a' D (af A 0) 0 Wz.cells λO=>eR O (af A 0) λWx=>O=O/\R Wx.val O))) (b5 C (af u 23) λWM Wl WL=>cond ((Wl:Int)>200) (cI C (af u 24) (ad true) λV8=>cI V8 (af u 25) (ad true) λWK=>eR WK (af u 0) λWt=>a' WK (af A 0) 0 Wt.cells λI=>eR I (af A 0) λV'=>I=I/\R V'.val I) (eR C (af u 0) λWB=>Calls prog 65 #[WB.val] C λe Wh=>∃ (WJ:an) (WG B:Nat),cj.ex λWD=>e=.returned (.tuple #[ae WJ WG B,WD.val])/\a' Wh (af u 0) 0 WD.cells λF=>jo F (af u 24) λV7=>cond (!V7) (bS F (af u 1) λV6=>cm 66 #[a_ a,ab V6,ae WJ WG B] F λWb V=>cond (Wb != 0) (cI V (af u 24) (ad true) λWy=>cI Wy (af u 25) (ad true) λWH=>eR WH (af u 0) λWm=>a' WH (af A 0) 0 Wm.cells λQ=>eR Q (af A 0) λWq=>Q=Q/\R Wq.val Q) (eR V (af u 0) λV_=>a' V (af A 0) 0 V_.cells λG=>eR G (af A 0) λWo=>G=G/\R Wo.val G)) (eR F (af u 0) λV5=>a' F (af A 0) 0 V5.cells λS=>eR S (af A 0) λWv=>S=S/\R Wv.val S))))))):=by kernel_rfl
theorem US (Y:cj):bf prog f65 [Y.val] R w=(aQ w Y.cells.toArray 45 λu Ww=>aQ Ww #[ab 0,ab 0,ab 0,ab 0,ab 0,ab 0,ab 0,ah 0,ab 0,ab 0,ab 0,ab 0,a5,a5,a5,ab 0,ab 0,ab 0,ab 0,a5,ab 0,ab 0,ah 0,a5,ad false,ad false,ab 0,ab 0,a5,ab 0,a5,ah 0,ab 0,ab 0,ab 0,ab 0] 45 λD B=>bS B (af u 0) λa=>cond (a == 1) (S0 B (af u 2) λWh=>b5 B (af u 23) λb c d=>Calls prog 90 #[Wh.val,ae b c d] B λe Wf=>∃ (f:an) (g h:Nat),qF.ex λW2=>∃ (i:Bool),e=.returned (.tuple #[ae f g h,W2.val,ad i])/\aQ Wf #[ab 0,ab 0,ab 0,a5,ab 0,ad false,ah 0,a5,a5,a5] 163 λF WK=>a' WK (af F 0) 0 W2.cells λWb=>ct Wb λWr j=>cN j (af F 0) λk=>As j (af F 2) λV5=>cN j (af F 4) λl=>e5 j (af F 9) λm n o=>cI Wr (af u 24) (ad i) λW1=>j W1/\cI W1 (af u 26) (ab k) λJ=>j J/\a' J (af u 27) 0 V5.cells λW0=>j W0/\cI W0 (af u 29) (ab l) λV=>j V/\cI V (af u 30) (ae m n o) λWO=>ct WO λWx Wc=>sG Wc (af u 0) λr=>a' Wx (af D 0) 0 r.cells λN=>eR N (af D 0) λWs=>N=N/\R (.tuple #[ae f g h,Ws.val]) N) (cond (a == 2) (S1 B (af u 3) λWi=>b5 B (af u 23) λp q s=>Calls prog 91 #[Wi.val,ae p q s] B λe WJ=>∃ (t:an) (v x:Nat),qN.ex λhR=>∃ (y:Bool),e=.returned (.tuple #[ae t v x,hR.val,ad y])/\aQ WJ #[ab 0,ah 0,ab 0] 167 λO V6=>a' V6 (af O 0) 0 hR.cells λWo=>ct Wo λV8 a7=>cN a7 (af O 0) λz=>jM a7 (af O 1) λWD=>cI V8 (af u 24) (ad y) λW4=>a7 W4/\cI W4 (af u 26) (ab z) λW8=>a7 W8/\cI W8 (af u 31) (ah WD) λWE=>ct WE λWT Wg=>sG Wg (af u 0) λV9=>a' WT (af D 0) 0 V9.cells λH=>eR H (af D 0) λWQ=>H=H/\R (.tuple #[ae t v x,WQ.val]) H) (cond (a == 3) (At B (af u 8) λWV=>b5 B (af u 23) λWW Wn Wy=>Calls prog 92 #[WV.val,ae WW Wn Wy] B λe Wm=>∃ (I:an) (Q W3:Nat),bA.ex λW5=>∃ (V4:Bool),e=.returned (.tuple #[ae I Q W3,W5.val,ad V4])/\aQ Wm #[ab 0,ab 0] 171 λP Wk=>a' Wk (af P 0) 0 W5.cells λWF=>ct WF λWd L=>cN L (af P 0) λWz=>cN L (af P 1) λWH=>cI Wd (af u 24) (ad V4) λV2=>L V2/\cI V2 (af u 26) (ab Wz) λW6=>L W6/\cI W6 (af u 32) (ab WH) λWA=>ct WA λWM V_=>sG V_ (af u 0) λWq=>a' WM (af D 0) 0 Wq.cells λM=>eR M (af D 0) λWj=>M=M/\R (.tuple #[ae I Q W3,Wj.val]) M) (cond (a == 4) (Gq B (af u 15) λV7=>b5 B (af u 23) λWB Wt A=>Calls prog 93 #[V7.val,ae WB Wt A] B λe WG=>∃ (WZ:an) (T Z:Nat),dA.ex λS=>∃ (X:Bool),e=.returned (.tuple #[ae WZ T Z,S.val,ad X])/\aQ WG #[ab 0,ab 0,ab 0,ab 0,ah 0] 175 λG WN=>a' WN (af G 0) 0 S.cells λWR=>ct WR λWu E=>cN E (af G 0) λWS=>cN E (af G 1) λWe=>cN E (af G 2) λWY=>cN E (af G 3) λWC=>cI Wu (af u 24) (ad X) λV3=>E V3/\cI V3 (af u 26) (ab WS) λW=>E W/\cI W (af u 33) (ab We) λW7=>E W7/\cI W7 (af u 34) (ab WY) λU=>E U/\cI U (af u 35) (ab WC) λWP=>ct WP λV' Wp=>sG Wp (af u 0) λWa=>a' V' (af D 0) 0 Wa.cells λK=>eR K (af D 0) λWL=>K=K/\R (.tuple #[ae WZ T Z,WL.val]) K) (cI B (af u 24) (ad true) λWl=>cI Wl (af u 25) (ad true) λC=>ct C λWI WX=>sG WX (af u 0) λWv=>a' WI (af D 0) 0 Wv.cells λa6=>eR a6 (af D 0) λWU=>a6=a6/\R (.tuple #[a5,WU.val]) a6))))):=by kernel_rfl
end
namespace hh
def conv:Conv:=⟨cU ⊕ b3,(Int×Int) ⊕ dA,λj G=>match j with
 | .inl j=>((d9 j G).1,.inl (d9 j G).2.1,(d9 j G).2.2)
 | .inr j=>((fD j G).1,.inr (fD j G).2.1,(fD j G).2.2)⟩
def LN (j:conv.a6):Int:=match j with
 | .inl _=>3
 | .inr _=>4
structure qn (A:a3) (w:ak) (r:dt) (j:b3):Prop where
 at_:ri w r j
 view:gd A w r.View j.v
theorem qn.az {A A':a3} {w w':ak} {r:dt} {j:b3} (h:qn A w r j) (d:ao A w w') (c:∀ k,k<w.heap.size->A' k->A k):qn A' w' r j:=by obtain ⟨a,al⟩:=h;have b:=e7.gd.az al d c;exact ⟨⟨a.a1,a.inc,a.lines,⟨A',b⟩,a.dead,a.dS,a.prev,a.u64⟩,b⟩
def v9 (A:a3) (w:ak) (r:cj) (j:conv.a6):Prop:=match j with
 | .inl j=>e7.qm A w r.en j
 | .inr j=>qn A w r.Recover j
def wq (A:a3) (w:ak) (r:cj) (o:conv.O):Prop:=match o with
 | .inl o=>r.Code=o.1/\r.n7=o.2
 | .inr o=>r.Code=o.Code/\r.jZ=o.jZ/\r.Seq=o.Seq/\r.jV=o.jV
theorem v9.az {A A':a3} {w w':ak} {r:cj} {j:conv.a6} (h:v9 A w r j) (b:ao A w w') (a:∀ k,k<w.heap.size->A' k->A k):v9 A' w' r j:=by
 cases j with
 |inl j=>exact e7.qm.az h b a
 |inr j=>exact qn.az h b a
theorem wq.az {A A':a3} {w w':ak} {r:cj} {o:conv.O} (h:wq A w r o) (b:ao A w w') (a:∀ k,k<w.heap.size->A' k->A k):wq A' w' r o:=by
 cases o with
 |inl o=>exact h
 |inr o=>exact h
end hh
section
open e7
structure f_ where
 aB:Nat
 bw:Nat->Option aO
def l3 (E:Env) (A:bt) (v:aW):Prop:=(∀ m p,p ∈ bI E->v=fG m p->A.bQ m (br p)=2)/\∀ m,v=cx m 32 [c_ E]->A.dJ m=true
def m5 (E:Env) (A:bt) (vs:List aW) (bw:Nat->Option aO):Prop:=∀ (q:Nat) (v:aW) (d:aO),vs[q]?=some v->bw q=some d->d.code=0->l3 E A v
theorem l3.mono {E:Env} {A A':bt} {v:aW} (h:l3 E A v) (hm:dp E A A'):l3 E A' v:=⟨λm p a e=>hm.bQ m _ (h.1 m p a e),λm e=>hm.dJ m (h.2 m e)⟩
theorem m5.mono {E:Env} {A A':bt} {vs:List aW} {bw:Nat->Option aO} (h:m5 E A vs bw) (hm:dp E A A'):m5 E A' vs bw:=λq v d a b c=>(h q v d a b c).mono hm
def e3 (E:Env) (A:bt) (g:f_):Prop:=match g.aB with
 | 0=>f' E A/\(∀ m,m<E.n->A.dJ m=false)/\(∀ m,m<E.n->∀ p ∈ bI E,A.bQ m (br p)=0)/\∀ m,m<E.n->∀ d,g.bw m=some d->d.code=0->A.eB m=true
 | 1=>ia E A/\f' E A/\∀ (q:Nat) (p:aK),(bI E)[q]?=some p->(g.bw q=none->A.bQ 0 (br p)=0)/\∀ d,g.bw q=some d->d.code=0->d8 d=p.Head/\(A.bQ 0 (br p)=1\/jc E A)
 | 2=>ia E A/\(f' E A->(∀ p ∈ bI E,A.bQ 0 (br p)=1)\/jc E A)/\∀ m,m<E.n->∀ d,g.bw m=some d->d.code=0->A.cG m=true
 | 3=>hX E A/\m5 E A (fK E (bI E)) g.bw
 | 4=>hX E A/\qa E A/\m5 E A (f0 E (bI E)) g.bw
 | 6=>n6 E A
 | _=>True
def m9 (E:Env) (A:bt) (g:f_):Prop:=∀ (q:Nat) (d:aO),g.bw q=some d->∃ v,(d' E g.aB)[q]?=some v/\((d.code=0/\(d.words.length:Int)=v.v.iq)\/(d.code=5/\d.words=[]/\A.dj v.node.toNat=true))
structure c5 where
 aB:Nat
 bw:Nat->Option aO
 eM:cP
 aT:List bd
 cH:Int
 sp:cP
 l:List aK
 eG:List aK
 c7:Int×Int
def cO (E:Env) (c:Nat) (g:c5):List aW:=match g.aB with
 | 0=>iA E.n
 | 1=>hg g.eM
 | 2=>gZ c
 | 3=>gK E.n
 | 4=>gB E g.sp
 | 5=>gM (bI E)
 | 6=>fK E g.l
 | 7=>f0 E g.l
 | 8=>ir g.eG
 | 9=>gG c
 | _=>[]
def eC (E:Env) (c:Nat) (g:c5):List (List aO)->cq×dA:=match g.aB with
 | 0=>qK E c
 | 1=>mg E c g.eM
 | 2=>kW E c
 | 3=>ow E c
 | 4=>λX=>fA E c g.aT g.cH g.c7 (kt E g.sp X)
 | 5=>λX=>fA E c g.aT g.cH g.c7 (ks E X)
 | 6=>λX=>fA E c g.aT g.cH g.c7 (j3 E g.l X)
 | 7=>λX=>fA E c g.aT g.cH g.c7 (mi E g.l X)
 | 8=>λX=>fA E c g.aT g.cH g.c7 (nr g.eG X)
 | _=>nk E c g.aT g.cH g.c7
def Own (E:Env) (A:bt) (c:Nat):Prop:=jc E A/\A.dW=gA c
def wk (E:Env) (A:bt) (l:List aK):Prop:=(∀ p ∈ l,p ∈ bI E)/\l.length<=12/\∀ p ∈ bI E,p ∈ l\/A.bQ 0 (br p)=2
def Fin (E:Env) (A:bt) (g:c5):Prop:=(n6 E A/\g.c7.1=2/\jG E.L g.cH g.aT=c_ E+1)\/(rS E A/\g.c7.1≠2)
def gF (g:c5):Prop:=(g.aB=2/\∃ d,g.bw 0=some d/\d8 d=0)\/(3<=g.aB/\g.aB<=10)
def rC (bB:List aZ) (v:aW):bd:=match bB[v.node.toNat]? with
 |none=>[]
 |some x=>(x.words.drop v.at_.toNat).take v.n.toNat
def cC (E:Env) (rs:cP) (A:bt) (bB:List aZ) (gr:Nat->c5) (c:Nat):Prop:=match (gr c).aB with
 | 0=>∀ m,m<E.n->∀ d,(gr c).bw m=some d->d8 d=1\/(d8 d=2/\A.dj m=true)
 | 1=>(∀ m,m<E.n->m ∉ (gr c).eM->A.dj m=true)/\(∀ m ∈ (gr c).eM,m<E.n)/\∀ (q m:Nat) (d:aO),(gr c).eM[q]?=some m->(gr c).bw q=some d->A.dj m=true/\(d8 d=1\/d8 d=2)
 | 2=>jc E A/\∀ d,(gr c).bw 0=some d->(d8 d=0/\A.dW=gA c)\/∃ c' ∈ rs,c'≠c/\d8 d=gA c'/\gF (gr c')
 | 3=>Own E A c/\∀ (q:Nat) (v:aW) (d:aO),(gK E.n)[q]?=some v->(gr c).bw q=some d->d.words=rC bB v
 | 4=>Own E A c/\ia E A/\(∃ m,m<E.n/\A.cG m=true)/\(∀ p ∈ bI E,A.bQ 0 (br p)≠0)/\(∀ m,m<E.n->m ∉ (gr c).sp->A.cG m=true)/\(∀ m ∈ (gr c).sp,m<E.n)/\(gr c).sp.Nodup/\(∀ (k m:Nat),(gr c).sp[k]?=some m->(gr c).bw (k * 3)=none->A.cG m=false)/\∀ (q m:Nat) (d:aO),(gB E (gr c).sp)[q]?=some (cx m 48 [h' E])->(gr c).bw q=some d->A.cG m=true
 | 5=>Own E A c/\hX E A/\∀ (q:Nat) (p:aK) (d:aO),(bI E)[q]?=some p->(gr c).bw q=some d->(d8 d=eK p.Head 0↔A.bQ 0 (br p)=1)
 | 6=>Own E A c/\hX E A/\wk E A (gr c).l/\m5 E A (fK E (gr c).l) (gr c).bw
 | 7=>Own E A c/\hX E A/\qa E A/\wk E A (gr c).l/\m5 E A (f0 E (gr c).l) (gr c).bw
 | 8=>Own E A c/\f' E A/\((gr c).eG=bI E\/∀ p ∈ bI E,A.bQ 0 (br p)=0)/\(gr c).eG.length<=12/\(∀ p ∈ (gr c).eG,96<=p.bo/\p.bo<E.L)/\∀ (q:Nat) (p:aK) (d:aO),(gr c).eG[q]?=some p->(gr c).bw q=some d->p ∈ bI E->A.bQ 0 (br p)=0
 | 9=>jc E A/\((gr c).bw 0=none->A.dW=gA c)/\Fin E A (gr c)
 | 10=>jc E A/\Fin E A (gr c)
 | 11=>∃ c' ∈ rs,c'≠c/\gF (gr c')
 | _=>True
def lC (E:Env) (g:c5):Prop:=(4<=g.aB/\g.aB<=7->g.c7.1=2/\jG E.L g.cH g.aT=c_ E+1)/\(g.aB=8->g.c7.1≠2)
def l5 (E:Env) (c:Nat) (g:c5):Prop:=∀ (q:Nat) (d:aO),g.bw q=some d->∃ v,(cO E c g)[q]?=some v/\d.code=0/\(d.words.length:Int)=v.v.iq
def h6 (g:c5):Prop:=(g.aB=2/\∃ d,g.bw 0=some d/\d8 d=0)\/(3<=g.aB/\g.aB<=8)\/(g.aB=9/\g.bw 0=none)
def tZ (rs:cP) (A:bt) (gr:Nat->c5):Prop:=A.dW=0\/∃ c ∈ rs,A.dW=gA c/\h6 (gr c)
theorem Da {c c':Nat} (h:gA c=gA c'):c=c':=by unfold gA at h;omega
theorem y7 (c:Nat):gA c≠0:=by unfold gA;omega
theorem cC.own {E:Env} {rs:cP} {A:bt} {bB:List aZ} {gr:Nat->c5} {c:Nat} (h:cC E rs A bB gr c) (f:h6 (gr c)):Own E A c:=by
 unfold cC at h;rcases f with ⟨e,d,a,b⟩ | ⟨i,j⟩ | ⟨e,a⟩
 ·rw [e] at h;rcases h.2 d a with g | ⟨c',_,_,g,_⟩
  ·exact ⟨h.1,g.2⟩
  ·rw [b] at g;exact absurd g.symm (y7 c')
 ·obtain e | e | e | e | e | e:(gr c).aB=3\/(gr c).aB=4\/(gr c).aB=5\/(gr c).aB=6\/(gr c).aB=7\/(gr c).aB=8:=by omega
  all_goals
   rw [e] at h;exact h.1
 ·rw [e] at h;exact ⟨h.1,h.2.1 a⟩
structure ob (E:Env) (A A':bt):Prop where
 mono:dp E A A'
 qW:jc E A->f' E A->f' E A'
 jn:jc E A->f' E A->∀ p ∈ bI E,A.bQ 0 (br p)=0->A'.bQ 0 (br p)=0
theorem ob.PX {E:Env} {A A':bt} (h:ob E A A') (g:rS E A):rS E A':=⟨h.mono.bw g.1,h.qW g.1 g.2.1,λp a=>h.jn g.1 g.2.1 p a (g.2.2 p a)⟩
theorem ob.fin {E:Env} {A A':bt} (h:ob E A A') {g:c5} (c:Fin E A g):Fin E A' g:=by
 rcases c with ⟨a,b⟩ | ⟨a,b⟩
 ·exact .inl ⟨h.mono.Fk a,b⟩
 ·exact .inr ⟨h.PX a,b⟩
theorem Own.one {E:Env} {A:bt} {c c':Nat} (h:Own E A c) (a:Own E A c'):c=c':=Da (h.2.symm.trans a.2)
theorem cC.gz {E:Env} {rs:cP} {A A':bt} {bB l:List aZ} {gr f:Nat->c5} {c:Nat} (h:cC E rs A bB gr c) (s:f c=gr c) (a:¬ h6 (gr c)) (b:ob E A A') (hw:∀ c',gF (gr c')->gF (f c')):cC E rs A' l f c:=by
 unfold cC at h ⊢;rw [s];split at h
 ·exact λm hm d ar=>by
   rcases h m hm d ar with g | ⟨i,j⟩
   ·exact .inl g
   ·exact .inr ⟨i,b.mono.dj m j⟩
 ·exact ⟨λm hm r=>b.mono.dj m (h.1 m hm r),h.2.1,λq m d n o=>⟨b.mono.dj m (h.2.2 q m d n o).1,(h.2.2 q m d n o).2⟩⟩
 ·rename_i e;refine ⟨b.mono.bw h.1,λd ar=>?_⟩;rcases h.2 d ar with g | ⟨c',i,j,k,p⟩
  ·exact absurd (.inl ⟨e,d,ar,g.1⟩) a
  ·exact .inr ⟨c',i,j,k,hw c' p⟩
 ·rename_i e;exact absurd (.inr (.inl ⟨by omega,by omega⟩)) a
 ·rename_i e;exact absurd (.inr (.inl ⟨by omega,by omega⟩)) a
 ·rename_i e;exact absurd (.inr (.inl ⟨by omega,by omega⟩)) a
 ·rename_i e;exact absurd (.inr (.inl ⟨by omega,by omega⟩)) a
 ·rename_i e;exact absurd (.inr (.inl ⟨by omega,by omega⟩)) a
 ·rename_i e;exact absurd (.inr (.inl ⟨by omega,by omega⟩)) a
 ·rename_i e;refine ⟨b.mono.bw h.1,λar=>absurd (.inr (.inr ⟨e,ar⟩)) a,b.fin h.2.2⟩
 ·exact ⟨b.mono.bw h.1,b.fin h.2⟩
 ·obtain ⟨c',i,j,k⟩:=h;exact ⟨c',i,j,hw c' k⟩
 ·trivial
theorem cC.stay {E:Env} {rs:cP} {A:bt} {bB:List aZ} {gr a:Nat->c5} {c:Nat} (h:cC E rs A bB gr c) (j:a c=gr c) (hw:∀ c',gF (gr c')->gF (a c')):cC E rs A bB a c:=by
 unfold cC at h ⊢;rw [j];split at h
 ·exact h
 ·exact h
 ·refine ⟨h.1,λd ar=>?_⟩;rcases h.2 d ar with g | ⟨c',b,e,f,i⟩
  ·exact .inl g
  ·exact .inr ⟨c',b,e,f,hw c' i⟩
 all_goals first | exact h | skip
 ·obtain ⟨c',b,e,f⟩:=h;exact ⟨c',b,e,hw c' f⟩
structure oe (E:Env) (A A':bt):Prop where
 mono:dp E A A'
 qW:f' E A->f' E A'
 some_:f' E A'->f' E A
 dJ:f' E A->∀ m,m<E.n->A.dJ m=false->A'.dJ m=false
 uH:f' E A->∀ m,m<E.n->∀ p ∈ bI E,A.bQ m (br p)=0->A'.bQ m (br p)=0
 Gb:f' E A->∀ p ∈ bI E,A.bQ 0 (br p)=1->A'.bQ 0 (br p)=1\/jc E A
theorem e3.rec {E:Env} (r:1<=E.n) {A A':bt} {g:f_} (h:e3 E A g) (e:oe E A A'):e3 E A' g:=by
 unfold e3 at h ⊢;split at h
 ·obtain ⟨a,b,c,d⟩:=h;exact ⟨e.qW a,λm hm=>e.dJ a m hm (b m hm),λm hm p f=>e.uH a m hm p f (c m hm p f),λm hm x l o=>e.mono.eB m (d m hm x l o)⟩
 ·obtain ⟨a,b,c⟩:=h;refine ⟨e.mono.lb a,e.qW b,λq p f=>⟨λar=>?_,λd ar t=>?_⟩⟩
  ·exact e.uH b 0 r p (b7 f) ((c q p f).1 ar)
  ·obtain ⟨s,j⟩:=(c q p f).2 d ar t;refine ⟨s,?_⟩;rcases j with j | j
   ·rcases e.Gb b p (b7 f) j with i | i
    ·exact .inl i
    ·exact .inr (e.mono.bw i)
   ·exact .inr (e.mono.bw j)
 ·obtain ⟨a,b,c⟩:=h;refine ⟨e.mono.lb a,λr=>?_,λm hm d l o=>e.mono.cG m (c m hm d l o)⟩;have k:=e.some_ r;rcases b k with g | g
  ·by_cases ar:jc E A
   ·exact .inr (e.mono.bw ar)
   ·refine .inl λp f=>?_
    rcases e.Gb k p f (g p f) with i | i
    ·exact i
    ·exact absurd i ar
  ·exact .inr (e.mono.bw g)
 ·exact ⟨e.mono.am h.1,h.2.mono e.mono⟩
 ·exact ⟨e.mono.am h.1,e.mono.qC h.2.1,h.2.2.mono e.mono⟩
 ·exact e.mono.Fk h
 ·trivial
end
end Go.Proofs.YtmkljjbioomepaaGreat
