import Derived.Test.YtmkljjbioomepaaGreatd33
import Derived.Test.YtmkljjbioomepaaGreatProg
import Derived.Test.YtmkljjbioomepaaGreatd03
import Derived.Test.YtmkljjbioomepaaGreatd22
set_option linter.all false
set_option maxHeartbeats 4000000
set_option maxRecDepth 100000
namespace Go.Proofs.YtmkljjbioomepaaGreat
open Go.Proofs.Tryz Go.bs
section
open e7
structure pd (vs:List aQ) (ds:List aM):Prop where
 len:ds.length=vs.length
 each:∀ (q:Nat) (v:aQ) (d:aM),vs[q]?=some v->ds[q]?=some d->(d.code=0/\(d.words.length:Int)=v.v.iW)\/(d.code=5/\d.words=[])
theorem CQ:∀ {ds:List aM},(∀ d ∈ ds,d.code=0\/d.code=5)->(hB ds=5/\∃ d ∈ ds,d.code=5)\/(hB ds=0/\∀ d ∈ ds,d.code=0)
 | [],_=>.inr ⟨rfl,λd aq=>by cases aq⟩
 |d::ds,h=>by
  unfold hB;rcases h d eO with e | e
  ·rw [if_pos e];rcases CQ λx a=>h x (fw _ a) with ⟨b,x,c,f⟩ | ⟨b,c⟩
   ·exact .inl ⟨b,x,fw _ c,f⟩
   ·exact .inr ⟨b,λx a=>by rcases eU.1 a with rfl | a;exact e;exact c x a⟩
  ·rw [if_neg (by omega)];exact .inl ⟨e,d,eO,e⟩
theorem pd.get {vs:List aQ} {ds:List aM} (h:pd vs ds) {d:aM} (aq:d ∈ ds):∃ v,v ∈ vs/\((d.code=0/\(d.words.length:Int)=v.v.iW)\/(d.code=5/\d.words=[])):=by
 obtain ⟨q,c⟩:=ei.1 aq;have b:=b3 c;have a:q<vs.length:=by rw [<-h.len];exact b
 exact ⟨vs[q],kY a,h.each q vs[q] d (bE a) c⟩
theorem pd.cases {vs:List aQ} {ds:List aM} (h:pd vs ds):Fit vs ds\/hB ds=5/\∃ d ∈ ds,d.code=5:=by
 rcases CQ (ds:=ds) (λd aq=>by obtain ⟨v,_,g | g⟩:=h.get aq;exact .inl g.1;exact .inr g.1) with g | ⟨_,g⟩
 ·exact .inr g
 ·refine .inl ⟨h.len,λq v d al aq=>?_⟩;rcases h.each q v d al aq with e | e
  ·exact e
  ·have:=g d (b5 aq);omega
theorem CS {vs:List aQ} {d:List aM} (G:List (List aM)) (al:vs≠[]) (h:pd vs d) (i:hB d=5) (a:Int):cm (d::G) vs a=⟨false,[],(5,a),G,none,false⟩:=by
 have l:vs.length≠0:=λe=>al (lI.1 e)
 have k:kD vs d=true:=by
  unfold kD;rw [ep,decide_eq_true_eq,fE];refine ⟨h.len.symm,λp n=>?_⟩;obtain ⟨q,o⟩:=ei.1 n;obtain ⟨f,g⟩:=BK.1 o;unfold ss;rcases h.each q p.1 p.2 f g with ⟨b,c⟩ | ⟨b,c⟩
  ·rw [if_pos b];exact decide_eq_true c
  ·rw [if_neg (by omega),if_pos (.inr b),c];rfl
 have j:batch (d::G) vs=⟨d,true,G,none,false⟩:=by unfold batch;rw [if_neg l];simp only [k,if_true]
 unfold cm;rw [j];simp only [i];rfl
section
variable {E:Env}
def d8 (E:Env):Nat->List aQ
 | 0=>(List.range E.n).map λm=>cD m 56 (g3 E)
 | 1=>(bM E).map λp=>f8 0 (p.bm * 8) p.Head (eK p.Head 0)
 | 2=>(List.range E.n).map λm=>cD m 48 [il E]
 | 3=>fR E (bM E)
 | _=>gd E (bM E)
def zU:Nat->Int
 | 0=>1
 | 1=>1
 | 2=>2
 | _=>3
def zH (E:Env):List (List (List aM)->cr):=rm (E.a9 0)
def j7 (E:Env) (aC:Nat) (G:List (List aM)):Prop:=∀ X,runM (E.a9 0) (G++X)=nR ((zH E).drop aC) X
theorem DG (ay:cg E):nf (E.a9 0)=d8 E 0:=ay.bQ.z'
theorem yC (ay:cg E):dG (E.a9 0)=d8 E 1:=by rw [ay.bQ.Gm ay.e.n.1,ay.rd];simp;rfl
theorem Fn (ay:cg E):ng (E.a9 0)=d8 E 2:=ay.bQ.AB
theorem DH (ay:cg E):qi (E.a9 0)=d8 E 3:=ay.bQ.FK
theorem zc (ay:cg E):h8 (E.a9 0)=d8 E 4:=ay.bQ.FW ay.e.n.1
theorem rJ (ay:cg E):∀ aC,aC<=4->(aC=3->1<E.n)->d8 E aC≠[]
 | 0,_,_=>by have:=ay.e.n;intro e;have:=congrArg List.length e;simp [d8] at this;omega
 | 1,_,_=>by have:=ay.bQ.some_;simpa [d8] using this
 | 2,_,_=>by have:=ay.e.n;intro e;have:=congrArg List.length e;simp [d8] at this;omega
 | 3,_,h=>wA (h rfl) _
 | 4,_,_=>by simp [d8,gd]
def sW (E:Env):Nat->List (List aM)->cr
 | 0=>r8 (E.a9 0)
 | 1=>kl (E.a9 0)
 | 2=>tP (E.a9 0)
 | 3=>n6 (E.a9 0)
 | _=>nD (E.a9 0)
theorem yD:∀ aC,aC<=4->(zH E).drop aC=sW E aC::(zH E).drop (aC+1)
 | 0,_=>rfl
 | 1,_=>rfl
 | 2,_=>rfl
 | 3,_=>rfl
 | 4,_=>rfl
theorem wi (ay:cg E):∀ aC,aC<=4->aC≠1->∀ X,sW E aC X=cm X (d8 E aC) (zU aC)
 | 0,_,_,X=>by rw [<-DG ay];exact If ay.bQ.valid ay.bQ.some_ X
 | 2,_,_,X=>by rw [<-Fn ay];exact K' ay.bQ.valid ay.bQ.some_ X
 | 3,_,_,X=>by rw [<-DH ay];rfl
 | 4,_,_,X=>by rw [<-zc ay];exact MD ay.bQ.valid ay.bQ.some_ X
def wC (E:Env) (D:List aM):Prop:=∀ (q:Nat) (p:aK) (d:aM),(bM E)[q]?=some p->D[q]?=some d->eb d=p.Head
theorem CT:∀ {xs:a8} {ds:List aM},(∀ (q:Nat) (x:Int) (d:aM),xs[q]?=some x->ds[q]?=some d->eb d=x)->iB xs ds=false
 | [],_,_=>by unfold iB;rfl
 |x::xs,[],_=>by unfold iB;rfl
 |x::xs,d::ds,h=>by unfold iB;rw [CT λq gh a b c=>h (q+1) gh a (by simpa using b) (by simpa using c),h 0 x d rfl rfl];simp
theorem JU (ay:cg E) {D:List aM} (h:wC E D):iB (rg (E.a9 0)) D=false:=by
 refine CT λq x d a aq=>?_
 unfold rg at a;rw [ay.rd,vE,jJ,dS] at a;obtain ⟨p,b,rfl⟩:=kX.1 a;exact h q p d b aq
theorem N3 (ay:cg E) {aC:Nat} (a:aC<=4) (b:aC=3->1<E.n):sW E aC []=pq (d8 E aC):=by
 by_cases e:aC=1
 ·subst e;show kl (E.a9 0) []=_;unfold kl;rw [yC ay,Bd (rJ ay 1 (by omega) (by omega))];rfl
 ·rw [wi ay aC a e];exact Bd (rJ ay aC a b) _
theorem N4 (ay:cg E) {aC:Nat} (b:aC<=4) (d:aC=3->1<E.n) {D:List aM} (a:Fit (d8 E aC) D) (f:aC=1->wC E D) (X:List (List aM)):∃ c,sW E aC (D::X)=sE c X:=by
 by_cases e:aC=1
 ·subst e;refine ⟨[],?_⟩;have a:Fit (dG (E.a9 0)) D:=by rw [yC ay];exact a
  exact No ay.bQ.valid ay.bQ.some_ a (JU ay (f rfl)) X
 ·refine ⟨D,?_⟩;rw [wi ay aC b e];exact Bv X (rJ ay aC b d) a _
theorem N5 (ay:cg E) {aC:Nat} (a:aC<=4) (d:aC=3->1<E.n) {D:List aM} (c:pd (d8 E aC) D) (b:hB D=5) (X:List (List aM)):sW E aC (D::X)=⟨false,[],(5,zU aC),X,none,false⟩:=by
 by_cases e:aC=1
 ·subst e;show kl (E.a9 0) (D::X)=_;unfold kl;rw [yC ay,CS X (rJ ay 1 (by omega) (by omega)) c b];rfl
 ·rw [wi ay aC a e];exact CS X (rJ ay aC a d) c b _
theorem R4:j7 E 0 []:=λX=>rfl
theorem j7.next (ay:cg E) {aC:Nat} {G:List (List aM)} (h:j7 E aC G) (a:aC<=4) (b:aC=3->1<E.n) {D:List aM} (d:Fit (d8 E aC) D) (e:aC=1->wC E D):j7 E (aC+1) (G++[D]):=λX=>by obtain ⟨f,c⟩:=N4 ay a b d e X;rw [lF];refine (h ([D]++X)).trans ?_;rw [yD aC a];show tR (sW E aC (D::X)) _=_;rw [c];rfl
theorem j7.skip (ay:cg E) {G:List (List aM)} (h:j7 E 3 G) (a:E.n=1):j7 E 4 G:=λX=>by refine (h X).trans ?_;rw [yD 3 (by omega),nR,wi ay 3 (by omega) (by omega)];show tR (cm X (fR E (bM E)) 3) _=_;rw [zG a,Cv];rfl
theorem j7.ask (ay:cg E) {aC:Nat} {G:List (List aM)} (h:j7 E aC G) (a:aC<=4) (b:aC=3->1<E.n):ed (E.a9 0) G=(d8 E aC,(0,0),false):=by have:=h [];rw [jJ,yD aC a,nR,N3 ay a b] at this;unfold ed;rw [if_neg (by rw [ay.bQ.valid];simp),this];rfl
theorem j7.ref (ay:cg E) {aC:Nat} {G:List (List aM)} (h:j7 E aC G) (a:aC<=4) (b:aC=3->1<E.n) {D:List aM} (d:pd (d8 E aC) D) (c:hB D=5):ed (E.a9 0) (G++[D])=([],(5,zU aC),true):=by have:=h [D];rw [yD aC a,nR,N5 ay a b d c] at this;unfold ed;rw [if_neg (by rw [ay.bQ.valid];simp),this];rfl
theorem j7.done (ay:cg E) {G:List (List aM)} (h:j7 E 5 G):ed (E.a9 0) G=([],(0,3),true):=by have:=h [];rw [jJ] at this;unfold ed;rw [if_neg (by rw [ay.bQ.valid];simp),this];rfl
end
end
section
open IntKind
variable (w:ak) (R:cz) {a b c d e f g h:Nat} {s t u v:an} {i k l:Int} {A:aX} {j:ar}
def xl (e:aX) (s1:an) (a b:Nat) (s2:an) (c d:Nat) (n:an) (f g:Nat) (o:Int) (h:an) (i k:Nat) (l:Int) (j:ar):ar:=.pointer (some e)::ae s1 a b::ae s2 c d::ae n f g::ab o::ag j 0 6 (ae h i k::ab l::ag j 6 82 [])
def Gq (a:aX) (s1:an) (b c:Nat) (s2:an) (d f:Nat) (e:an) (g h:Nat) (n:Int) (i:an) (k l:Nat) (j:ar):ar:=.pointer (some a)::ae s1 b c::ae s2 d f::ae e g h::ab n::ag j 0 6 (ae i k l::ag j 6 83 [])
def xm (e:aX) (s1:an) (a b:Nat) (s2:an) (c d:Nat) (n:an) (f g:Nat) (o:Int) (h:an) (i k:Nat) (l:Int) (j:ar):ar:=.pointer (some e)::ae s1 a b::ae s2 c d::ae n f g::ab o::ag j 0 6 (ae h i k::ag j 6 1 (ab l::ag j 7 81 []))
def xn (a:aX) (s1:an) (b c:Nat) (j:ar):ar:=.pointer (some a)::ae s1 b c::ag j 0 93 []
def uD (e:aX) (s1:an) (a b:Nat) (s2:an) (c d:Nat) (n:an) (f g:Nat) (o:Int) (h:an) (i k:Nat) (l m:Int) (j:ar):ar:=.pointer (some e)::ae s1 a b::ae s2 c d::ae n f g::ab o::ag j 0 6 (ae h i k::ag j 6 1 (ab l::ab m::ag j 7 80 []))
def Gr (a:aX) (s1:an) (b c:Nat) (s2:an) (d f:Nat) (e:an) (g h:Nat) (n:Int) (i:an) (k l:Nat) (m:Int) (j:ar):ar:=.pointer (some a)::ae s1 b c::ae s2 d f::ae e g h::ab n::ag j 0 6 (ae i k l::ag j 6 1 (ab m::ag j 7 81 []))
def xo (d:aX) (s1:an) (a b:Nat) (c:Int) (j:ar):ar:=.pointer (some d)::ae s1 a b::ag j 0 14 (ab c::ag j 14 78 [])
def Gs (s1:an) (a b:Nat) (j:ar):ar:=ag j 0 1 (ae s1 a b::ag j 1 93 [])
def xp (e:aX) (s1:an) (a b:Nat) (s2:an) (c d:Nat) (n:an) (f g:Nat) (o:Int) (h:an) (i k:Nat) (l m:Int) (j:ar):ar:=.pointer (some e)::ae s1 a b::ae s2 c d::ae n f g::ab o::ag j 0 6 (ae h i k::ag j 6 1 (ab l::ag j 7 1 (ab m::ag j 8 79 [])))
def Gt (a:aX) (s1:an) (b c:Nat) (s2:an) (d f:Nat) (e:an) (g h:Nat) (n:Int) (i:an) (k l:Nat) (m:Int) (j:ar):ar:=.pointer (some a)::ae s1 b c::ae s2 d f::ae e g h::ab n::ag j 0 6 (ae i k l::ag j 6 1 (ab m::ag j 7 81 []))
theorem V3:bf prog f15 [ba a,ae s b c,ae t d e,ae u f g,ab i] R w=(db 46 (a5) (ae s b c) w λk h j l=>cG prog (c7 f15 [1,1,1,0,1,0,0]) (xl (af a 0) k h j t d e u f g i none 0 0 0 (bD 5 (a5::bD 4 (ae s b c::ae k h j::bD 76 [])))) (aP 0 (aU f15 [1,1,1,1] R)) l):=by kernel_rfl
theorem Tc (q:ar->aF):W prog (sb f15 [1,1,1,0,1,0,0]) (xl A s a b t c d u e f i v g h k j) (aZ q (aP 0 (aU f15 [1,1,1,1] R))) w=(cond (k<(a:Nat)) (bA s a k 36 λp=>bX w (bY p 1) λm=>aS w #[ab m] 3 λr y=>db 22 (ae v g h) (ae (bo r) 1 1) y λl n o x=>q (xl A s a b t c d u e f i l n o (i64.wrap (k+1)) (ag j 0 12 (ab k::ae s a b::eo a::ad (k<(a:Nat))::ab k::ab (i64.wrap (k+1))::ae v g h::ae s a b::ab k::jp p::bL p 1::ab m::ae (bo r) 1 1::ae l n o::ag j 26 62 []))) x) (W prog (sb f15 [1,1,1,1]) (Gq A s a b t c d u e f i v g h (ag j 0 6 (ab k::ag j 6 6 (ab k::ae s a b::eo a::ad (k<(a:Nat))::ag j 16 72 [])))) (b7 f15 R) w)):=by kernel_rfl
theorem T7:W prog (sb f15 [1,1,1,1]) (Gq A s a b t c d u e f i v g h j) (b7 f15 R) w=(cG prog (c7 f15 [1,1,1,1,0,1,0,0]) (xm A s a b t c d u e f i v g h 0 (ag j 0 7 (ag j 8 81 []))) (aP 2 (aU f15 [1,1,1,1,1] R)) w):=by kernel_rfl
theorem Td (l:ar->aF):W prog (sb f15 [1,1,1,1,0,1,0,0]) (xm A s a b t c d u e f i v g h k j) (aZ l (aP 2 (aU f15 [1,1,1,1,1] R))) w=(cond (k<i) (cG prog (c7 f15 [1,1,1,1,0,1,0,0,1,0,0,0,1,0,0]) (uD A s a b t c d u e f i v g h k 0 (ag j 0 7 (ag j 8 18 (ab k::ab i::ad (k<i)::ag j 29 59 [])))) (aP 4 (aZ (λm w=>W prog (sb f15 [1,1,1,1,0,1,0,0,1,0,0,1]) m (aP 3 (aZ (λm w=>W prog (sb f15 [1,1,1,1,0,1,0,0,1,1]) m (aZ l (aP 2 (aU f15 [1,1,1,1,1] R))) w) (aZ l (aP 2 (aU f15 [1,1,1,1,1] R))))) w) (aP 3 (aZ (λm w=>W prog (sb f15 [1,1,1,1,0,1,0,0,1,1]) m (aZ l (aP 2 (aU f15 [1,1,1,1,1] R))) w) (aZ l (aP 2 (aU f15 [1,1,1,1,1] R))))))) w) (W prog (sb f15 [1,1,1,1,1]) (xn A s a b (ae t c d::ae u e f::ab i::ag j 0 6 (ae v g h::aO j 6::ab k::ag j 7 19 (ab k::ab i::ad (k<i)::ag j 29 59 [])))) (b7 f15 R) w)):=by kernel_rfl
theorem T8:W prog (sb f15 [1,1,1,1,1]) (xn A s a b j) (b7 f15 R) w=(cG prog (c7 f15 [1,1,1,1,1,0,1,0,0]) (xo A s a b 0 (ag j 0 14 (ag j 15 78 []))) (aP 8 (aU f15 [1,1,1,1,1,1] R)) w):=by kernel_rfl
theorem Te (p:ar->aF) (z:ar->aF):W prog (sb f15 [1,1,1,1,0,1,0,0,1,0,0,0,1,0,0]) (uD A s a b t c d u e f i v g h k l j) (aZ z (aP 4 (aZ (λm w=>W prog (sb f15 [1,1,1,1,0,1,0,0,1,0,0,1]) m (aP 3 (aZ (λm w=>W prog (sb f15 [1,1,1,1,0,1,0,0,1,1]) m (aZ p (aP 2 (aU f15 [1,1,1,1,1] R))) w) (aZ p (aP 2 (aU f15 [1,1,1,1,1] R))))) w) (aP 3 (aZ (λm w=>W prog (sb f15 [1,1,1,1,0,1,0,0,1,1]) m (aZ p (aP 2 (aU f15 [1,1,1,1,1] R))) w) (aZ p (aP 2 (aU f15 [1,1,1,1,1] R)))))))) w=(cond (l<(e:Nat)) (bA u e l 3 λq=>bX w q λy=>ct 12 #[ab y,ab 60] w λn x=>cond (n == k) (bA u e l 3 λo=>Uy x o λr=>uX 33 #[.pointer (some A),ae v g h,r.val] x λB=>z (uD A s a b t c d u e f i v g h k (i64.wrap (l+1)) (ag j 0 30 (ab l::ae u e f::eo e::ad (l<(e:Nat))::ab l::ab (i64.wrap (l+1))::ae u e f::ab l::jp q::jp q::ab y::ab n::ab k::ad ((n:Int) == k)::jp A::ae v g h::ae u e f::ab l::jp o::r.val::.tuple #[]::ag j 51 36 []))) B) (z (uD A s a b t c d u e f i v g h k (i64.wrap (l+1)) (ag j 0 30 (ab l::ae u e f::eo e::ad (l<(e:Nat))::ab l::ab (i64.wrap (l+1))::ae u e f::ab l::jp q::jp q::ab y::ab n::ab k::ad ((n:Int) == k)::ag j 44 43 []))) x)) (W prog (sb f15 [1,1,1,1,0,1,0,0,1,0,0,1]) (Gr A s a b t c d u e f i v g h k (ag j 0 7 (ab l::ag j 7 23 (ab l::ae u e f::eo e::ad (l<(e:Nat))::ag j 34 53 [])))) (aP 3 (aZ (λm w=>W prog (sb f15 [1,1,1,1,0,1,0,0,1,1]) m (aZ p (aP 2 (aU f15 [1,1,1,1,1] R))) w) (aZ p (aP 2 (aU f15 [1,1,1,1,1] R))))) w)):=by kernel_rfl
theorem T9 (m:ar->aF):W prog (sb f15 [1,1,1,1,0,1,0,0,1,0,0,1]) (Gr A s a b t c d u e f i v g h k j) (aP 3 (aZ (λl w=>W prog (sb f15 [1,1,1,1,0,1,0,0,1,1]) l (aZ m (aP 2 (aU f15 [1,1,1,1,1] R))) w) (aZ m (aP 2 (aU f15 [1,1,1,1,1] R))))) w=(cG prog (c7 f15 [1,1,1,1,0,1,0,0,1,0,0,1,0,1,0,0]) (xp A s a b t c d u e f i v g h k 0 (ag j 0 8 (ag j 9 79 []))) (aP 6 (aZ (λl w=>W prog (sb f15 [1,1,1,1,0,1,0,0,1,0,0,1,1]) l (aP 3 (aZ (λl w=>W prog (sb f15 [1,1,1,1,0,1,0,0,1,1]) l (aZ m (aP 2 (aU f15 [1,1,1,1,1] R))) w) (aZ m (aP 2 (aU f15 [1,1,1,1,1] R))))) w) (aP 3 (aZ (λl w=>W prog (sb f15 [1,1,1,1,0,1,0,0,1,1]) l (aZ m (aP 2 (aU f15 [1,1,1,1,1] R))) w) (aZ m (aP 2 (aU f15 [1,1,1,1,1] R))))))) w):=by kernel_rfl
theorem Tf (c:ar->aF):W prog (sb f15 [1,1,1,1,1,0,1,0,0]) (xo A s a b i j) (aZ c (aP 8 (aU f15 [1,1,1,1,1,1] R))) w=(cond (i<(a:Nat)) (bA s a i 36 λe=>eL w e λr=>q5 34 #[.pointer (some A),r.val] w λd g=>bA s a i 36 λf=>a_ g f 0 d.cells λh=>c (xo A s a b (i64.wrap (i+1)) (ag j 0 76 [ab i,ae s a b,eo a,ad (i<(a:Nat)),ab i,ab (i64.wrap (i+1)),ae s a b,ab i,jp A,ae s a b,ab i,jp e,r.val,d.val,jp f,aO j 91])) h) (W prog (sb f15 [1,1,1,1,1,1]) (Gs s a b (jp A::ag j 0 14 (ab i::ag j 14 62 (ab i::ae s a b::eo a::ad (i<(a:Nat))::ag j 80 12 [])))) (b7 f15 R) w)):=by kernel_rfl
theorem T_:W prog (sb f15 [1,1,1,1,1,1]) (Gs s a b j) (b7 f15 R) w=(R (ae s a b) w):=by kernel_rfl
theorem Tg (p:ar->aF) (q:ar->aF):W prog (sb f15 [1,1,1,1,0,1,0,0,1,0,0,1,0,1,0,0]) (xp A s a b t c d u e f i v g h k l j) (aZ q (aP 6 (aZ (λm w=>W prog (sb f15 [1,1,1,1,0,1,0,0,1,0,0,1,1]) m (aP 3 (aZ (λm w=>W prog (sb f15 [1,1,1,1,0,1,0,0,1,1]) m (aZ p (aP 2 (aU f15 [1,1,1,1,1] R))) w) (aZ p (aP 2 (aU f15 [1,1,1,1,1] R))))) w) (aP 3 (aZ (λm w=>W prog (sb f15 [1,1,1,1,0,1,0,0,1,1]) m (aZ p (aP 2 (aU f15 [1,1,1,1,1] R))) w) (aZ p (aP 2 (aU f15 [1,1,1,1,1] R)))))))) w=(cond (l<(a:Nat)) (bA s a l 36 λx=>eL w x λr=>q5 34 #[.pointer (some A),r.val] w λn z=>bA s a l 36 λo=>a_ z o 0 n.cells λy=>q (xp A s a b t c d u e f i v g h k (i64.wrap (l+1)) (ag j 0 51 (ab l::ae s a b::eo a::ad (l<(a:Nat))::ab l::ab (i64.wrap (l+1))::ae s a b::ab l::jp A::ae s a b::ab l::jp x::r.val::n.val::jp o::ag j 66 21 []))) y) (W prog (sb f15 [1,1,1,1,0,1,0,0,1,0,0,1,1]) (Gt A s a b t c d u e f i v g h k (ag j 0 8 (ab l::ag j 8 43 (ab l::ae s a b::eo a::ad (l<(a:Nat))::ag j 55 32 [])))) (aP 3 (aZ (λm w=>W prog (sb f15 [1,1,1,1,0,1,0,0,1,1]) m (aZ p (aP 2 (aU f15 [1,1,1,1,1] R))) w) (aZ p (aP 2 (aU f15 [1,1,1,1,1] R))))) w)):=by kernel_rfl
theorem T' (l:ar->aF):W prog (sb f15 [1,1,1,1,0,1,0,0,1,0,0,1,1]) (Gt A s a b t c d u e f i v g h k j) (aP 3 (aZ (λo w=>W prog (sb f15 [1,1,1,1,0,1,0,0,1,1]) o (aZ l (aP 2 (aU f15 [1,1,1,1,1] R))) w) (aZ l (aP 2 (aU f15 [1,1,1,1,1] R))))) w=(dn 35 #[.pointer (some A),ae t c d,ab k] w λn m=>cond (!n) (W prog (sb f15 [1,1,1,1,1]) (xn A s a b (ae t c d::ae u e f::ab i::ag j 0 6 (ae v g h::aO j 6::ab k::ag j 7 60 (jp A::ae t c d::ab k::ad n::ad (!n)::ag j 72 16 [])))) (b7 f15 R) m) (l (xm A s a b t c d u e f i v g h (i64.wrap (k+1)) (ag j 0 29 (ab k::ab (i64.wrap (k+1))::ag j 31 36 (jp A::ae t c d::ab k::ad n::ad (!n)::ag j 72 16 [])))) m)):=by kernel_rfl
theorem V4 (h:cb):bf prog f26 [ba a,h.val] R w=(aS w h.cells.toArray 45 λo m=>aS m #[ab 0,ab 0,ab 0,ab 0,ab 0,ab 0,ab 0,ah 0,ab 0,ab 0,ab 0,ab 0,a5,a5,a5,ab 0,ab 0,ab 0,ab 0,a5,ab 0,ab 0,ah 0,a5,ad false,ad false,ab 0,ab 0,a5,ab 0,a5,ah 0,ab 0,ab 0,ab 0,ab 0] 45 λj g=>eL g (af o 0) λr=>aS g r.cells.toArray 45 λn l=>eZ 15 #[ba a,ae (bo n) 1 1,a5,a5,ab 20000] l λe b c i=>bA e b 0 36 λp=>eL i p λk=>a_ i (af j 0) 0 k.cells λf=>eL f (af j 0) λd=>f=f/\R d.val f):=by kernel_rfl
theorem Wi (X:cb):bf prog f34 [ba a,X.val] R w=(aS w X.cells.toArray 45 λu XY=>aS XY #[ab 0,ab 0,ab 0,ab 0,ab 0,ab 0,ab 0,ah 0,ab 0,ab 0,ab 0,ab 0,a5,a5,a5,ab 0,ab 0,ab 0,ab 0,a5,ab 0,ab 0,ah 0,a5,ad false,ad false,ab 0,ab 0,a5,ab 0,a5,ah 0,ab 0,ab 0,ab 0,ab 0] 45 λB F=>kj F (af u 24) λj=>cond j (eL F (af u 0) λr=>a_ F (af B 0) 0 r.cells λa'=>eL a' (af B 0) λJ=>a'=a'/\R J.val a') (bX F (af u 1) λb=>dn 43 #[ba a,ab b] F λc H=>cond (!c) (eL H (af u 0) λXK=>a_ H (af B 0) 0 XK.cells λG=>eL G (af B 0) λX5=>G=G/\R X5.val G) (bX H (af u 1) λd=>ct 63 #[ba a,ab d] H λf P=>cond (f>0) (eL P (af u 0) λXW=>a_ P (af B 0) 0 XW.cells λN=>eL N (af B 0) λXD=>N=N/\R XD.val N) (bX P (af u 1) λg=>jD 64 #[ba a,ab g] P λh i k l C=>cond l (b_ C (af u 23) λm n o=>db 42 (a5) (ae m n o) C λU p q XG=>aS XG #[ae h i k] 100 λXF XR=>db 42 (ae U p q) (ae (bo XF) 1 1) XR λs t v XJ=>cP XJ (af u 23) (ae s t v) λM=>b_ M (af u 23) λx y z=>cond ((y:Int)>200) (cP M (af u 24) (ad true) λYe=>cP Ye (af u 25) (ad true) λYa=>eL Ya (af u 0) λXN=>a_ Ya (af B 0) 0 XN.cells λa9=>eL a9 (af B 0) λXU=>a9=a9/\R XU.val a9) (eL M (af u 0) λXZ=>Calls prog 65 #[XZ.val] M λe Xw=>∃ (iY:an) (Y X8:Nat),cb.ex λX_=>e=.returned (.tuple #[ae iY Y X8,X_.val])/\a_ Xw (af u 0) 0 X_.cells λE=>kj E (af u 24) λXB=>cond (!XB) (bX E (af u 1) λXA=>ct 66 #[ba a,ab XA,ae iY Y X8] E λX1 W=>cond (X1 != 0) (cP W (af u 24) (ad true) λXz=>cP Xz (af u 25) (ad true) λX'=>eL X' (af u 0) λXy=>a_ X' (af B 0) 0 Xy.cells λS=>eL S (af B 0) λX6=>S=S/\R X6.val S) (eL W (af u 0) λXX=>a_ W (af B 0) 0 XX.cells λK=>eL K (af B 0) λXL=>K=K/\R XL.val K)) (eL E (af u 0) λXQ=>a_ E (af B 0) 0 XQ.cells λT=>eL T (af B 0) λX4=>T=T/\R X4.val T))) (b_ C (af u 23) λYg Xv Yf=>cond ((Xv:Int)>200) (cP C (af u 24) (ad true) λXV=>cP XV (af u 25) (ad true) λZ=>eL Z (af u 0) λXT=>a_ Z (af B 0) 0 XT.cells λO=>eL O (af B 0) λX2=>O=O/\R X2.val O) (eL C (af u 0) λXI=>Calls prog 65 #[XI.val] C λe XM=>∃ (Yb:an) (X9 A:Nat),cb.ex λYd=>e=.returned (.tuple #[ae Yb X9 A,Yd.val])/\a_ XM (af u 0) 0 Yd.cells λD=>kj D (af u 24) λXE=>cond (!XE) (bX D (af u 1) λXP=>ct 66 #[ba a,ab XP,ae Yb X9 A] D λX7 V=>cond (X7 != 0) (cP V (af u 24) (ad true) λX0=>cP X0 (af u 25) (ad true) λYc=>eL Yc (af u 0) λXC=>a_ Yc (af B 0) 0 XC.cells λQ=>eL Q (af B 0) λXx=>Q=Q/\R Xx.val Q) (eL V (af u 0) λX3=>a_ V (af B 0) 0 X3.cells λL=>eL L (af B 0) λXH=>L=L/\R XH.val L)) (eL D (af u 0) λXS=>a_ D (af B 0) 0 XS.cells λI=>eL I (af B 0) λXO=>I=I/\R XO.val I))))))):=by kernel_rfl
theorem Wj (J:cb):bf prog f65 [J.val] R w=(aS w J.cells.toArray 45 λu Ye=>aS Ye #[ab 0,ab 0,ab 0,ab 0,ab 0,ab 0,ab 0,ah 0,ab 0,ab 0,ab 0,ab 0,a5,a5,a5,ab 0,ab 0,ab 0,ab 0,a5,ab 0,ab 0,ah 0,a5,ad false,ad false,ab 0,ab 0,a5,ab 0,a5,ah 0,ab 0,ab 0,ab 0,ab 0] 45 λD B=>bX B (af u 0) λa=>cond (a == 1) (Uz B (af u 2) λXQ=>b_ B (af u 23) λb c d=>Calls prog 90 #[XQ.val,ae b c d] B λe XJ=>∃ (f:an) (g h:Nat),qK.ex λYw=>∃ (i:Bool),e=.returned (.tuple #[ae f g h,Yw.val,ad i])/\aS XJ #[ab 0,ab 0,ab 0,a5,ab 0,ad false,ah 0,a5,a5,a5] 163 λF XD=>a_ XD (af F 0) 0 Yw.cells λXC=>cw XC λX4 j=>cV j (af F 0) λk=>AR j (af F 2) λYB=>cV j (af F 4) λl=>e6 j (af F 9) λm n o=>cP X4 (af u 24) (ad i) λYx=>j Yx/\cP Yx (af u 26) (ab k) λS=>j S/\a_ S (af u 27) 0 YB.cells λY=>j Y/\cP Y (af u 29) (ab l) λYy=>j Yy/\cP Yy (af u 30) (ae m n o) λXN=>cw XN λX9 XF=>sN XF (af u 0) λr=>a_ X9 (af D 0) 0 r.cells λH=>eL H (af D 0) λXV=>H=H/\R (.tuple #[ae f g h,XV.val]) H) (cond (a == 2) (UA B (af u 3) λX5=>b_ B (af u 23) λp q s=>Calls prog 91 #[X5.val,ae p q s] B λe Yh=>∃ (t:an) (v x:Nat),qQ.ex λT=>∃ (y:Bool),e=.returned (.tuple #[ae t v x,T.val,ad y])/\aS Yh #[ab 0,ah 0,ab 0] 167 λO XZ=>a_ XZ (af O 0) 0 T.cells λYm=>cw Ym λYq a'=>cV a' (af O 0) λz=>j1 a' (af O 1) λXK=>cP Yq (af u 24) (ad y) λZ=>a' Z/\cP Z (af u 26) (ab z) λYt=>a' Yt/\cP Yt (af u 31) (ah XK) λYp=>cw Yp λYl X1=>sN X1 (af u 0) λXR=>a_ Yl (af D 0) 0 XR.cells λN=>eL N (af D 0) λXO=>N=N/\R (.tuple #[ae t v x,XO.val]) N) (cond (a == 3) (AS B (af u 8) λX2=>b_ B (af u 23) λYk XL XS=>Calls prog 92 #[X2.val,ae Yk XL XS] B λe Yg=>∃ (V:an) (W Xw:Nat),bF.ex λYu=>∃ (Xx:Bool),e=.returned (.tuple #[ae V W Xw,Yu.val,ad Xx])/\aS Yg #[ab 0,ab 0] 171 λP Yd=>a_ Yd (af P 0) 0 Yu.cells λXA=>cw XA λYb L=>cV L (af P 0) λXB=>cV L (af P 1) λX_=>cP Yb (af u 24) (ad Xx) λXv=>L Xv/\cP Xv (af u 26) (ab XB) λU=>L U/\cP U (af u 32) (ab X_) λXG=>cw XG λX6 XI=>sN XI (af u 0) λYa=>a_ X6 (af D 0) 0 Ya.cells λa9=>eL a9 (af D 0) λYi=>a9=a9/\R (.tuple #[ae V W Xw,Yi.val]) a9) (cond (a == 4) (GU B (af u 15) λXU=>b_ B (af u 23) λX3 XT A=>Calls prog 93 #[XU.val,ae X3 XT A] B λe XM=>∃ (X:an) (YA Xy:Nat),dA.ex λiY=>∃ (Q:Bool),e=.returned (.tuple #[ae X YA Xy,iY.val,ad Q])/\aS XM #[ab 0,ab 0,ab 0,ab 0,ah 0] 175 λG Yr=>a_ Yr (af G 0) 0 iY.cells λX0=>cw X0 λX7 E=>cV E (af G 0) λXz=>cV E (af G 1) λYn=>cV E (af G 2) λXH=>cV E (af G 3) λX8=>cP X7 (af u 24) (ad Q) λI=>E I/\cP I (af u 26) (ab Xz) λYv=>E Yv/\cP Yv (af u 33) (ab Yn) λYz=>E Yz/\cP Yz (af u 34) (ab XH) λYs=>E Ys/\cP Ys (af u 35) (ab X8) λXE=>cw XE λXW Yo=>sN Yo (af u 0) λXY=>a_ XW (af D 0) 0 XY.cells λM=>eL M (af D 0) λXX=>M=M/\R (.tuple #[ae X YA Xy,XX.val]) M) (cP B (af u 24) (ad true) λX'=>cP X' (af u 25) (ad true) λC=>cw C λXP Yc=>sN Yc (af u 0) λYf=>a_ XP (af D 0) 0 Yf.cells λK=>eL K (af D 0) λYj=>K=K/\R (.tuple #[a5,Yj.val]) K))))):=by kernel_rfl
end
namespace gP
def conv:Conv:=⟨c0 ⊕ ca,(Int×Int) ⊕ dA,λj G=>match j with
 | .inl j=>((ed j G).1,.inl (ed j G).2.1,(ed j G).2.2)
 | .inr j=>((fM j G).1,.inr (fM j G).2.1,(fM j G).2.2)⟩
def Mj (j:conv.a9):Int:=match j with
 | .inl _=>3
 | .inr _=>4
structure qq (A:a6) (w:ak) (r:dE) (j:ca):Prop where
 at_:rp w r j
 view:gp A w r.View j.v
theorem qq.aA {A A':a6} {w w':ak} {r:dE} {j:ca} (h:qq A w r j) (d:ao A w w') (c:∀ k,k<w.heap.size->A' k->A k):qq A' w' r j:=by obtain ⟨a,al⟩:=h;have b:=e7.gp.aA al d c;exact ⟨⟨a.aW,a.inc,a.lines,⟨A',b⟩,a.dead,a.dV,a.prev,a.u64⟩,b⟩
def wm (A:a6) (w:ak) (r:cb) (j:conv.a9):Prop:=match j with
 | .inl j=>e7.qp A w r.i' j
 | .inr j=>qq A w r.Recover j
def wL (A:a6) (w:ak) (r:cb) (o:conv.O):Prop:=match o with
 | .inl o=>r.Code=o.1/\r.qo=o.2
 | .inr o=>r.Code=o.Code/\r.k4=o.k4/\r.Seq=o.Seq/\r.k2=o.k2
theorem wm.aA {A A':a6} {w w':ak} {r:cb} {j:conv.a9} (h:wm A w r j) (b:ao A w w') (a:∀ k,k<w.heap.size->A' k->A k):wm A' w' r j:=by
 cases j with
 |inl j=>exact e7.qp.aA h b a
 |inr j=>exact qq.aA h b a
theorem wL.aA {A A':a6} {w w':ak} {r:cb} {o:conv.O} (h:wL A w r o) (b:ao A w w') (a:∀ k,k<w.heap.size->A' k->A k):wL A' w' r o:=by
 cases o with
 |inl o=>exact h
 |inr o=>exact h
end gP
section
open e7
structure f7 where
 aC:Nat
 bt:Nat->Option aM
def mf (E:Env) (A:bu) (v:aQ):Prop:=(∀ m p,p ∈ bM E->v=fO m p->A.bV m (br p)=2)/\∀ m,v=cD m 32 [dd E]->A.dJ m=true
def nm (E:Env) (A:bu) (vs:List aQ) (bt:Nat->Option aM):Prop:=∀ (q:Nat) (v:aQ) (d:aM),vs[q]?=some v->bt q=some d->d.code=0->mf E A v
theorem mf.mono {E:Env} {A A':bu} {v:aQ} (h:mf E A v) (hm:dp E A A'):mf E A' v:=⟨λm p a e=>hm.bV m _ (h.1 m p a e),λm e=>hm.dJ m (h.2 m e)⟩
theorem nm.mono {E:Env} {A A':bu} {vs:List aQ} {bt:Nat->Option aM} (h:nm E A vs bt) (hm:dp E A A'):nm E A' vs bt:=λq v d a b c=>(h q v d a b c).mono hm
def e1 (E:Env) (A:bu) (g:f7):Prop:=match g.aC with
 | 0=>gk E A/\(∀ m,m<E.n->A.dJ m=false)/\(∀ m,m<E.n->∀ p ∈ bM E,A.bV m (br p)=0)/\∀ m,m<E.n->∀ d,g.bt m=some d->d.code=0->A.ez m=true
 | 1=>iu E A/\gk E A/\∀ (q:Nat) (p:aK),(bM E)[q]?=some p->(g.bt q=none->A.bV 0 (br p)=0)/\∀ d,g.bt q=some d->d.code=0->eb d=p.Head/\(A.bV 0 (br p)=1\/jq E A)
 | 2=>iu E A/\(gk E A->(∀ p ∈ bM E,A.bV 0 (br p)=1)\/jq E A)/\∀ m,m<E.n->∀ d,g.bt m=some d->d.code=0->A.cM m=true
 | 3=>h5 E A/\nm E A (fR E (bM E)) g.bt
 | 4=>h5 E A/\qe E A/\nm E A (gd E (bM E)) g.bt
 | 6=>oa E A
 | _=>True
def ns (E:Env) (A:bu) (g:f7):Prop:=∀ (q:Nat) (d:aM),g.bt q=some d->∃ v,(d8 E g.aC)[q]?=some v/\((d.code=0/\(d.words.length:Int)=v.v.iW)\/(d.code=5/\d.words=[]/\A.dj v.node.toNat=true))
structure c5 where
 aC:Nat
 bt:Nat->Option aM
 eN:cT
 aV:List a8
 cO:Int
 sp:cT
 l:List aK
 eE:List aK
 c_:Int×Int
def cW (E:Env) (c:Nat) (g:c5):List aQ:=match g.aC with
 | 0=>iL E.n
 | 1=>hr g.eN
 | 2=>g' c
 | 3=>gV E.n
 | 4=>gL E g.sp
 | 5=>gY (bM E)
 | 6=>fR E g.l
 | 7=>gd E g.l
 | 8=>iE g.eE
 | 9=>gS c
 | _=>[]
def eA (E:Env) (c:Nat) (g:c5):List (List aM)->cr×dA:=match g.aC with
 | 0=>qN E c
 | 1=>mw E c g.eN
 | 2=>k7 E c
 | 3=>oA E c
 | 4=>λX=>fJ E c g.aV g.cO g.c_ (kF E g.sp X)
 | 5=>λX=>fJ E c g.aV g.cO g.c_ (kE E X)
 | 6=>λX=>fJ E c g.aV g.cO g.c_ (ka E g.l X)
 | 7=>λX=>fJ E c g.aV g.cO g.c_ (my E g.l X)
 | 8=>λX=>fJ E c g.aV g.cO g.c_ (nE g.eE X)
 | _=>nA E c g.aV g.cO g.c_
def Own (E:Env) (A:bu) (c:Nat):Prop:=jq E A/\A.dZ=gK c
def wH (E:Env) (A:bu) (l:List aK):Prop:=(∀ p ∈ l,p ∈ bM E)/\l.length<=12/\∀ p ∈ bM E,p ∈ l\/A.bV 0 (br p)=2
def Fin (E:Env) (A:bu) (g:c5):Prop:=(oa E A/\g.c_.1=2/\jT E.L g.cO g.aV=dd E+1)\/(r0 E A/\g.c_.1≠2)
def gR (g:c5):Prop:=(g.aC=2/\∃ d,g.bt 0=some d/\eb d=0)\/(3<=g.aC/\g.aC<=10)
def rK (bp:List aN) (v:aQ):a8:=match bp[v.node.toNat]? with
 |none=>[]
 |some x=>(x.words.drop v.at_.toNat).take v.n.toNat
def cI (E:Env) (rs:cT) (A:bu) (bp:List aN) (gr:Nat->c5) (c:Nat):Prop:=match (gr c).aC with
 | 0=>∀ m,m<E.n->∀ d,(gr c).bt m=some d->eb d=1\/(eb d=2/\A.dj m=true)
 | 1=>(∀ m,m<E.n->m ∉ (gr c).eN->A.dj m=true)/\(∀ m ∈ (gr c).eN,m<E.n)/\∀ (q m:Nat) (d:aM),(gr c).eN[q]?=some m->(gr c).bt q=some d->A.dj m=true/\(eb d=1\/eb d=2)
 | 2=>jq E A/\∀ d,(gr c).bt 0=some d->(eb d=0/\A.dZ=gK c)\/∃ c' ∈ rs,c'≠c/\eb d=gK c'/\gR (gr c')
 | 3=>Own E A c/\∀ (q:Nat) (v:aQ) (d:aM),(gV E.n)[q]?=some v->(gr c).bt q=some d->d.words=rK bp v
 | 4=>Own E A c/\iu E A/\(∃ m,m<E.n/\A.cM m=true)/\(∀ p ∈ bM E,A.bV 0 (br p)≠0)/\(∀ m,m<E.n->m ∉ (gr c).sp->A.cM m=true)/\(∀ m ∈ (gr c).sp,m<E.n)/\(gr c).sp.Nodup/\(∀ (k m:Nat),(gr c).sp[k]?=some m->(gr c).bt (k * 3)=none->A.cM m=false)/\∀ (q m:Nat) (d:aM),(gL E (gr c).sp)[q]?=some (cD m 48 [il E])->(gr c).bt q=some d->A.cM m=true
 | 5=>Own E A c/\h5 E A/\∀ (q:Nat) (p:aK) (d:aM),(bM E)[q]?=some p->(gr c).bt q=some d->(eb d=eK p.Head 0↔A.bV 0 (br p)=1)
 | 6=>Own E A c/\h5 E A/\wH E A (gr c).l/\nm E A (fR E (gr c).l) (gr c).bt
 | 7=>Own E A c/\h5 E A/\qe E A/\wH E A (gr c).l/\nm E A (gd E (gr c).l) (gr c).bt
 | 8=>Own E A c/\gk E A/\((gr c).eE=bM E\/∀ p ∈ bM E,A.bV 0 (br p)=0)/\(gr c).eE.length<=12/\(∀ p ∈ (gr c).eE,96<=p.bm/\p.bm<E.L)/\∀ (q:Nat) (p:aK) (d:aM),(gr c).eE[q]?=some p->(gr c).bt q=some d->p ∈ bM E->A.bV 0 (br p)=0
 | 9=>jq E A/\((gr c).bt 0=none->A.dZ=gK c)/\Fin E A (gr c)
 | 10=>jq E A/\Fin E A (gr c)
 | 11=>∃ c' ∈ rs,c'≠c/\gR (gr c')
 | _=>True
def lN (E:Env) (g:c5):Prop:=(4<=g.aC/\g.aC<=7->g.c_.1=2/\jT E.L g.cO g.aV=dd E+1)/\(g.aC=8->g.c_.1≠2)
def mh (E:Env) (c:Nat) (g:c5):Prop:=∀ (q:Nat) (d:aM),g.bt q=some d->∃ v,(cW E c g)[q]?=some v/\d.code=0/\(d.words.length:Int)=v.v.iW
def ie (g:c5):Prop:=(g.aC=2/\∃ d,g.bt 0=some d/\eb d=0)\/(3<=g.aC/\g.aC<=8)\/(g.aC=9/\g.bt 0=none)
def ug (rs:cT) (A:bu) (gr:Nat->c5):Prop:=A.dZ=0\/∃ c ∈ rs,A.dZ=gK c/\ie (gr c)
theorem DI {c c':Nat} (h:gK c=gK c'):c=c':=by unfold gK at h;omega
theorem zd (c:Nat):gK c≠0:=by unfold gK;omega
theorem cI.own {E:Env} {rs:cT} {A:bu} {bp:List aN} {gr:Nat->c5} {c:Nat} (h:cI E rs A bp gr c) (f:ie (gr c)):Own E A c:=by
 unfold cI at h;rcases f with ⟨e,d,a,b⟩ | ⟨i,j⟩ | ⟨e,a⟩
 ·rw [e] at h;rcases h.2 d a with g | ⟨c',_,_,g,_⟩
  ·exact ⟨h.1,g.2⟩
  ·rw [b] at g;exact absurd g.symm (zd c')
 ·obtain e | e | e | e | e | e:(gr c).aC=3\/(gr c).aC=4\/(gr c).aC=5\/(gr c).aC=6\/(gr c).aC=7\/(gr c).aC=8:=by omega
  all_goals
   rw [e] at h;exact h.1
 ·rw [e] at h;exact ⟨h.1,h.2.1 a⟩
structure og (E:Env) (A A':bu):Prop where
 mono:dp E A A'
 qX:jq E A->gk E A->gk E A'
 jA:jq E A->gk E A->∀ p ∈ bM E,A.bV 0 (br p)=0->A'.bV 0 (br p)=0
theorem og.Rw {E:Env} {A A':bu} (h:og E A A') (g:r0 E A):r0 E A':=⟨h.mono.bt g.1,h.qX g.1 g.2.1,λp a=>h.jA g.1 g.2.1 p a (g.2.2 p a)⟩
theorem og.fin {E:Env} {A A':bu} (h:og E A A') {g:c5} (c:Fin E A g):Fin E A' g:=by
 rcases c with ⟨a,b⟩ | ⟨a,b⟩
 ·exact .inl ⟨h.mono.FV a,b⟩
 ·exact .inr ⟨h.Rw a,b⟩
theorem Own.one {E:Env} {A:bu} {c c':Nat} (h:Own E A c) (a:Own E A c'):c=c':=DI (h.2.symm.trans a.2)
theorem cI.gE {E:Env} {rs:cT} {A A':bu} {bp l:List aN} {gr f:Nat->c5} {c:Nat} (h:cI E rs A bp gr c) (s:f c=gr c) (a:¬ ie (gr c)) (b:og E A A') (hw:∀ c',gR (gr c')->gR (f c')):cI E rs A' l f c:=by
 unfold cI at h ⊢;rw [s];split at h
 ·exact λm hm d aq=>by
   rcases h m hm d aq with g | ⟨i,j⟩
   ·exact .inl g
   ·exact .inr ⟨i,b.mono.dj m j⟩
 ·exact ⟨λm hm r=>b.mono.dj m (h.1 m hm r),h.2.1,λq m d n o=>⟨b.mono.dj m (h.2.2 q m d n o).1,(h.2.2 q m d n o).2⟩⟩
 ·rename_i e;refine ⟨b.mono.bt h.1,λd aq=>?_⟩;rcases h.2 d aq with g | ⟨c',i,j,k,p⟩
  ·exact absurd (.inl ⟨e,d,aq,g.1⟩) a
  ·exact .inr ⟨c',i,j,k,hw c' p⟩
 ·rename_i e;exact absurd (.inr (.inl ⟨by omega,by omega⟩)) a
 ·rename_i e;exact absurd (.inr (.inl ⟨by omega,by omega⟩)) a
 ·rename_i e;exact absurd (.inr (.inl ⟨by omega,by omega⟩)) a
 ·rename_i e;exact absurd (.inr (.inl ⟨by omega,by omega⟩)) a
 ·rename_i e;exact absurd (.inr (.inl ⟨by omega,by omega⟩)) a
 ·rename_i e;exact absurd (.inr (.inl ⟨by omega,by omega⟩)) a
 ·rename_i e;refine ⟨b.mono.bt h.1,λaq=>absurd (.inr (.inr ⟨e,aq⟩)) a,b.fin h.2.2⟩
 ·exact ⟨b.mono.bt h.1,b.fin h.2⟩
 ·obtain ⟨c',i,j,k⟩:=h;exact ⟨c',i,j,hw c' k⟩
 ·trivial
theorem cI.stay {E:Env} {rs:cT} {A:bu} {bp:List aN} {gr a:Nat->c5} {c:Nat} (h:cI E rs A bp gr c) (j:a c=gr c) (hw:∀ c',gR (gr c')->gR (a c')):cI E rs A bp a c:=by
 unfold cI at h ⊢;rw [j];split at h
 ·exact h
 ·exact h
 ·refine ⟨h.1,λd aq=>?_⟩;rcases h.2 d aq with g | ⟨c',b,e,f,i⟩
  ·exact .inl g
  ·exact .inr ⟨c',b,e,f,hw c' i⟩
 all_goals first | exact h | skip
 ·obtain ⟨c',b,e,f⟩:=h;exact ⟨c',b,e,hw c' f⟩
structure oj (E:Env) (A A':bu):Prop where
 mono:dp E A A'
 qX:gk E A->gk E A'
 some_:gk E A'->gk E A
 dJ:gk E A->∀ m,m<E.n->A.dJ m=false->A'.dJ m=false
 uR:gk E A->∀ m,m<E.n->∀ p ∈ bM E,A.bV m (br p)=0->A'.bV m (br p)=0
 GG:gk E A->∀ p ∈ bM E,A.bV 0 (br p)=1->A'.bV 0 (br p)=1\/jq E A
theorem e1.rec {E:Env} (r:1<=E.n) {A A':bu} {g:f7} (h:e1 E A g) (e:oj E A A'):e1 E A' g:=by
 unfold e1 at h ⊢;split at h
 ·obtain ⟨a,b,c,d⟩:=h;exact ⟨e.qX a,λm hm=>e.dJ a m hm (b m hm),λm hm p f=>e.uR a m hm p f (c m hm p f),λm hm x l o=>e.mono.ez m (d m hm x l o)⟩
 ·obtain ⟨a,b,c⟩:=h;refine ⟨e.mono.lb a,e.qX b,λq p f=>⟨λaq=>?_,λd aq t=>?_⟩⟩
  ·exact e.uR b 0 r p (b5 f) ((c q p f).1 aq)
  ·obtain ⟨s,j⟩:=(c q p f).2 d aq t;refine ⟨s,?_⟩;rcases j with j | j
   ·rcases e.GG b p (b5 f) j with i | i
    ·exact .inl i
    ·exact .inr (e.mono.bt i)
   ·exact .inr (e.mono.bt j)
 ·obtain ⟨a,b,c⟩:=h;refine ⟨e.mono.lb a,λr=>?_,λm hm d l o=>e.mono.cM m (c m hm d l o)⟩;have k:=e.some_ r;rcases b k with g | g
  ·by_cases aq:jq E A
   ·exact .inr (e.mono.bt aq)
   ·refine .inl λp f=>?_
    rcases e.GG k p f (g p f) with i | i
    ·exact i
    ·exact absurd i aq
  ·exact .inr (e.mono.bt g)
 ·exact ⟨e.mono.am h.1,h.2.mono e.mono⟩
 ·exact ⟨e.mono.am h.1,e.mono.qE h.2.1,h.2.2.mono e.mono⟩
 ·exact e.mono.FV h
 ·trivial
end
end Go.Proofs.YtmkljjbioomepaaGreat
