import Derived.Test.YtmkljjbioomepaaGreatProg
import Derived.Test.YtmkljjbioomepaaGreata03
import Derived.Test.YtmkljjbioomepaaGreata14
set_option linter.all false
set_option maxHeartbeats 4000000
set_option maxRecDepth 100000
namespace Go.Proofs.YtmkljjbioomepaaGreat
open Go.Proofs.Tryz Go.b8
variable {a:ax} {c d9 n:Nat} {r:fW} {w:av}
section
open IntKind
variable (w:av) (R:dW) {A:bh} {s:ax} {a b:Nat} {i k l:Int} {j:aB} {X:bx}
def Gw (s1:bh) (a:ax) (b c:Nat) (d f:Int) (j:aB):aB:=ag j 0 1 (.pointer (some s1)::ag j 1 46 (ad a b c::I d::I f::ag j 47 45 []))
def ae0 (a:bh) (j:aB):aB:=ag j 0 1 (.pointer (some a)::ag j 1 94 [])
def La (s1:bh) (a:ax) (b c:Nat) (d f:Int) (j:aB):aB:=ag j 0 1 (.pointer (some s1)::ag j 1 60 (ad a b c::I d::I f::ag j 61 31 []))
def ae1  (j:aB):aB:=ag j 0 96 []
theorem aCs (B:fW):bS prog f124 [B.val] R w=(bb w B.cells.toArray 39 λe u=>cQ u (ae e 0) λa=>cond (a<0) (R (I 1) u) (cQ u (ae e 0) λb=>cond (b>=6) (R (I 1) u) (u' u (ae e 3) λD=>dI 166 #[D.val,I 5] u λc j=>cond (c != 0) (R (I c) j) (cQ j (ae e 2) λd=>cond (d<98) (R (I 18) j) (cQ j (ae e 2) λf=>cond (f>256) (R (I 18) j) (de j (ae e 6) λg h i=>cond ((h:Int)>0) (dP j λH C=>Ls C (ae e 0) λr=>eG C (ae e 2) λk=>ae_ 168 #[r.val] H λF E=>C E/\dI 167 #[F.val,I k] E λl A=>C A/\cond (l != 0) (R (I l) A) (de A (ae e 5) λm n o=>cond ((n:Int)>24) (R (I 18) A) (de A (ae e 5) λp q s=>dT prog (e0 f124 [1,1,1,1,1,1,0,1,0,0]) (Gw (ae e 0) p q s (q:Nat) 0 (B.val::I 0::I c::I l::bQ 4 (jp (ae e 0)::I a::U (a<0)::U false::jp (ae e 0)::I b::U (b>=6)::U (b>=6)::jp (ae e 3)::D.val::I c::I c::U ((c:Int) != 0)::undef::jp (ae e 2)::I d::U (d<98)::U false::jp (ae e 2)::I f::U (f>256)::U (f>256)::jp (ae e 6)::ad g h i::eZ h::U ((h:Int)>0)::r.val::F.val::jp (ae e 2)::I k::I l::I l::U ((l:Int) != 0)::undef::jp (ae e 5)::ad m n o::eZ n::U ((n:Int)>24)::jp (ae e 5)::bQ 45 []))) (a8 0 (ba f124 [1,1,1,1,1,1,1] R)) A))) (de j (ae e 5) λt v x=>cond ((v:Int)>24) (R (I 18) j) (de j (ae e 5) λy z G=>dT prog (e0 f124 [1,1,1,1,1,1,0,1,0,0]) (Gw (ae e 0) y z G (z:Nat) 0 (B.val::I 0::I c::bQ 5 (jp (ae e 0)::I a::U (a<0)::U false::jp (ae e 0)::I b::U (b>=6)::U (b>=6)::jp (ae e 3)::D.val::I c::I c::U ((c:Int) != 0)::undef::jp (ae e 2)::I d::U (d<98)::U false::jp (ae e 2)::I f::U (f>256)::U (f>256)::jp (ae e 6)::ad g h i::eZ h::U ((h:Int)>0)::bQ 8 (jp (ae e 5)::ad t v x::eZ v::U ((v:Int)>24)::jp (ae e 5)::bQ 45 [])))) (a8 0 (ba f124 [1,1,1,1,1,1,1] R)) j)))))))):=by kernel_rfl
theorem axj (f:aB->aV):W prog (sb f124 [1,1,1,1,1,1,0,1,0,0]) (Gw A s a b i k j) (bk f (a8 0 (ba f124 [1,1,1,1,1,1,1] R))) w=(cond (k<i) (cb s a k 2 λl=>VK w l λr=>bb w #[I 0,ah 0] 274 λd n=>bJ n (ae d 0) 0 r.cells λe=>cQ e (ae d 0) λg=>cQ e (cX A 2) λh=>fu 169 #[I g,I h] e λc m=>cond (!c) (R (I 2) m) (f (Gw A s a b i (i64.wrap (k+1)) (ag j 0 5 (jp (ae d 0)::ag j 6 41 (U (k<i)::jp l::r.val::jp (ae d 0)::I g::cz A 2::I h::U c::U (!c)::I (i64.wrap (k+1))::ag j 57 35 [])))) m)) (W prog (sb f124 [1,1,1,1,1,1,1]) (ae0 A (ag j 0 47 (ad s a b::I i::I k::U (k<i)::ag j 48 44 []))) (c3 f124 R) w)):=by kernel_rfl
theorem ayG:W prog (sb f124 [1,1,1,1,1,1,1]) (ae0 A j) (c3 f124 R) w=(de w (cX A 5) λb c d=>dT prog (e0 f124 [1,1,1,1,1,1,1,0,1,0,0]) (La A b c d (c:Nat) 0 (ag j 0 60 (cz A 5::ag j 64 31 []))) (a8 2 (ba f124 [1,1,1,1,1,1,1,1] R)) w):=by kernel_rfl
theorem axk (z:aB->aV):W prog (sb f124 [1,1,1,1,1,1,1,0,1,0,0]) (La A s a b i k j) (bk z (a8 2 (ba f124 [1,1,1,1,1,1,1,1] R))) w=(cond (k<i) (cb s a k 2 λB=>VK w B λr=>bb w #[I 0,ah 0] 274 λf bG=>bJ bG (ae f 0) 0 r.cells λbF=>dP bF λD e=>cond (k>0) (eG e (ae f 0) λg=>iE e (cX A 5) λh c F=>cb h c (i64.wrap (k - 1)) 2 λx=>eG e x λl=>cond (g<=l) (R (I 1) D) (qG e (ae f 1) λm=>fu 170 #[ah m] D λn y=>e y/\cond (!n) (R (I 1) y) (Ls e A λG=>eG e (ae f 0) λo=>fu 171 #[G.val,I o] y λp C=>e C/\cond p (R (I 1) C) (z (La A s a b i (i64.wrap (k+1)) (ag j 0 6 (I k::jp (ae f 0)::ag j 8 53 [U (k<i),I k,jp B,r.val,I k,U (k>0),U true,jp (ae f 0),I g,cz A 5,ad h c F,I k,I (i64.wrap (k - 1)),jp x,jp x,I l,U (g<=l),U (g<=l),U false,jp (ae f 1),ah m,U n,U (!n),U (!n),U false,G.val,jp (ae f 0),I o,U p,U p,I (i64.wrap (k+1))]))) C)))) (qG e (ae f 1) λq=>fu 170 #[ah q] D λd u=>e u/\cond (!d) (R (I 1) u) (Ls e A λH=>eG e (ae f 0) λt=>fu 171 #[H.val,I t] u λv E=>e E/\cond v (R (I 1) E) (z (La A s a b i (i64.wrap (k+1)) (ag j 0 6 (I k::jp (ae f 0)::ag j 8 53 (U (k<i)::I k::jp B::r.val::I k::U (k>0)::U false::bQ 10 [U false,U false,jp (ae f 1),ah q,U d,U (!d),U (!d),U false,H.val,jp (ae f 0),I t,U v,U v,I (i64.wrap (k+1))])))) E)))) (W prog (sb f124 [1,1,1,1,1,1,1,1]) (ae1  (aW j 0::jp A::ag j 1 60 (ad s a b::I i::I k::U (k<i)::ag j 62 30 []))) (c3 f124 R) w)):=by kernel_rfl
theorem ayH:W prog (sb f124 [1,1,1,1,1,1,1,1]) (ae1  j) (c3 f124 R) w=(R (I 0) w):=by kernel_rfl
def DF (s2:bh) (a:ax) (b c:Nat) (d f:Int) (j:aB):aB:=ag j 0 2 (.pointer (some s2)::ag j 2 39 (ad a b c::I d::I f::ag j 41 41 []))
def ae2 (a:bh) (j:aB):aB:=ag j 0 2 (.pointer (some a)::ag j 2 83 [])
def PN (a:ax) (b c:Nat) (d f:Int) (j:aB):aB:=ag j 0 65 (ad a b c::I d::I f::ag j 65 18 [])
def ae4  (j:aB):aB:=ag j 0 86 []
theorem aCt (v:c0):bS prog f167 [v.val,I i] R w=(bb w v.cells.toArray 271 λj z=>bb z #[I i] 3 λt y=>cQ y (ae t 0) λx=>fu 203 #[I x] y λa s=>cond (!a) (R (I 18) s) (cQ s (ae j 0) λb=>cond (b<1) (R (I 1) s) (cQ s (ae j 0) λc=>cond (c>=1073741824) (R (I 1) s) (de s (ae j 1) λd f g=>cond ((f:Int)<1) (R (I 1) s) (de s (ae j 1) λh e k=>cond ((e:Int)>12) (R (I 1) s) (de s (ae j 1) λl m n=>fu 204 #[ad l m n,.func (.func 205) #[] #[bM t]] s λo u=>cond o (R (I 2) u) (de u (ae j 1) λp q r=>dT prog (e0 f167 [1,1,0,1,0,0]) (DF (ae j 0) p q r (q:Nat) 0 (v.val::I i::jp (ae t 0)::I 0::bQ 6 (U (!a)::I x::U a::U (!a)::U ((e:Int)>12)::jp (ae j 0)::I b::U (b<1)::U false::jp (ae j 0)::I c::U (c>=1073741824)::U (c>=1073741824)::U false::jp (ae j 1)::ad d f g::eZ f::U ((f:Int)<1)::U ((f:Int)<1)::U false::jp (ae j 1)::ad h e k::eZ e::U ((e:Int)>12)::U ((e:Int)>12)::U o::jp (ae j 1)::ad l m n::.func (.func 205) #[] #[bM t]::U o::jp (ae j 1)::bQ 41 []))) (a8 1 (ba f167 [1,1,1] R)) u))))))):=by kernel_rfl
theorem axb (f:aB->aV):W prog (sb f167 [1,1,0,1,0,0]) (DF A s a b i k j) (bk f (a8 1 (ba f167 [1,1,1] R))) w=(cond (k<i) (cb s a k 9 λn=>mS w n λr=>bb w #[I 0,ah 0,ah 0,ah 0,ah 0,ah 0,ah 0,ah 0,ah 0] 73 λd t=>bJ t (ae d 0) 0 r.cells λq=>dP q λo e=>cond (k>0) (eG e (ae d 0) λg=>iE e (cX A 1) λh c p=>cb h c (i64.wrap (k - 1)) 9 λm=>eG e m λl=>cond (g<=l) (R (I 1) o) (f (DF A s a b i (i64.wrap (k+1)) (ag j 0 4 (I k::jp (ae d 0)::ag j 6 35 (U (k<i)::I k::jp n::r.val::I k::U (k>0)::U true::jp (ae d 0)::I g::cz A 1::ad h c p::I k::I (i64.wrap (k - 1))::jp m::jp m::I l::U (g<=l)::U (g<=l)::I (i64.wrap (k+1))::ag j 60 22 [])))) o)) (f (DF A s a b i (i64.wrap (k+1)) (ag j 0 4 (I k::jp (ae d 0)::ag j 6 35 (U (k<i)::I k::jp n::r.val::I k::U (k>0)::U false::bQ 10 (U false::I (i64.wrap (k+1))::ag j 60 22 []))))) o)) (W prog (sb f167 [1,1,1]) (ae2 A (ag j 0 41 (ad s a b::I i::I k::U (k<i)::ag j 42 40 []))) (c3 f167 R) w)):=by kernel_rfl
theorem ayI:W prog (sb f167 [1,1,1]) (ae2 A j) (c3 f167 R) w=(de w (cX A 1) λb c d=>dT prog (e0 f167 [1,1,1,0,1,0,0]) (PN b c d (c:Nat) 0 (aW j 0::aW j 1::jp A::ag j 2 61 (cz A 1::ag j 67 18 []))) (a8 3 (ba f167 [1,1,1,1] R)) w):=by kernel_rfl
theorem axc (m:aB->aV):W prog (sb f167 [1,1,1,0,1,0,0]) (PN s a b i k j) (bk m (a8 3 (ba f167 [1,1,1,1] R))) w=(cond (k<i) (cb s a k 9 λn=>mS w n λr=>bb w #[I 0,ah 0,ah 0,ah 0,ah 0,ah 0,ah 0,ah 0,ah 0] 73 λd q=>bJ q (ae d 0) 0 r.cells λp=>fR p (ae d 1) λg=>mR 206 #[ah g] p λh c f=>cond (c != 0) (R (I 1) f) (fR f (ae d 1) λe=>fu 170 #[ah e] f λl o=>cond (!l) (R (I 1) o) (m (PN s a b i (i64.wrap (k+1)) (ag j 0 8 (jp (ae d 0)::ah h::I c::ag j 11 54 [U (k<i),jp n,r.val,.tuple #[ah h,I c],jp (ae d 1),ah g,.tuple #[ah h,I c],ah h,I c,I c,U ((c:Int) != 0),U false,jp (ae d 1),ah e,U l,U (!l),U (!l),I (i64.wrap (k+1))]))) o))) (W prog (sb f167 [1,1,1,1]) (ae4  (ag j 0 65 (ad s a b::I i::I k::U (k<i)::ag j 66 17 []))) (c3 f167 R) w)):=by kernel_rfl
theorem ayJ:W prog (sb f167 [1,1,1,1]) (ae4  j) (c3 f167 R) w=(R (I 0) w):=by kernel_rfl
theorem ayK (j:fW):bS prog f168 [j.val] R w=(bb w j.cells.toArray 39 λi k=>bb k #[I 0,bC] 271 λh g=>cQ g (ae i 1) λa=>de g (ae i 6) λb c d=>bJ g (ae h 0) 0 [I a,ad b c d] λe=>nq e (ae h 0) λf=>e=e/\R f.val e):=by kernel_rfl
def N6 (s1:Int) (s8:ax) (a b:Nat) (rz c:Int) (j:aB):aB:=ag j 0 1 (I s1::ag j 1 6 (ad s8 a b::I rz::I c::ag j 7 8 []))
def ael  (j:aB):aB:=ag j 0 19 []
theorem ayL (e:fW):bS prog f171 [e.val,I i] R w=(bb w e.cells.toArray 39 λd f=>de f (ae d 6) λa b c=>dT prog (e0 f171 [1,0,1,0,0]) (N6 i a b c (b:Nat) 0 (e.val::jp (ae d 0)::undef::U false::bQ 2 (jp (ae d 6)::bQ 8 []))) (a8 0 (ba f171 [1,1] R)) f):=by kernel_rfl
theorem avU (f:aB->aV):W prog (sb f171 [1,0,1,0,0]) (N6 i s a b k l j) (bk f (a8 0 (ba f171 [1,1] R))) w=(cond (l<k) (cb s a l 9 λg=>mS w g λr=>bb w #[I 0,ah 0,ah 0,ah 0,ah 0,ah 0,ah 0,ah 0,ah 0] 73 λc h=>bJ h (ae c 0) 0 r.cells λe=>cQ e (ae c 0) λd=>cond (d == i) (R (U true) e) (f (N6 i s a b k (i64.wrap (l+1)) (ag j 0 5 [jp (ae c 0),aW j 6,U (l<k),jp g,r.val,jp (ae c 0),I d,I i,U ((d:Int) == i),I (i64.wrap (l+1))])) e)) (W prog (sb f171 [1,1]) (ael  (aW j 0::I i::ag j 1 6 (ad s a b::I k::I l::U (l<k)::ag j 8 7 []))) (c3 f171 R) w)):=by kernel_rfl
theorem axa:W prog (sb f171 [1,1]) (ael  j) (c3 f171 R) w=(R (U false) w):=by kernel_rfl
theorem ae5:bS prog f203 [I i] R w=(cond (i>=98) (R (U (i<=256)) w) (R (U false) w)):=by kernel_rfl
theorem aug:bS prog f204 [ad s a b,X] R w=(dI 235 #[ad s a b,X] w λc d=>R (U (c>=0)) d):=by kernel_rfl
theorem azt (f:a6):bS prog f205 [f.val,bM a] R w=(bb w f.cells.toArray 73 λe d=>cQ d (ae e 0) λc=>cond (c<96) (R (U true) d) (cQ d (ae e 0) λb=>cQ d (ae a 0) λx=>R (U (b>=x)) d)):=by kernel_rfl
def Nw (cJ:ax) (a b:Nat) (s1:bx) (dE s8:Int) (j:aB):aB:=ad cJ a b::s1::ag j 0 5 (I dE::I s8::ag j 5 10 [])
def aa4  (j:aB):aB:=ag j 0 19 []
theorem auw:bS prog f235 [ad s a b,X] R w=(dT prog (e0 f235 [1,0,1,0,0]) (Nw s a b X (a:Nat) 0 (bQ 2 (I 0::undef::ad s a b::bQ 10 []))) (a8 0 (ba f235 [1,1] R)) w):=by kernel_rfl
theorem apW (d:aB->aV):W prog (sb f235 [1,0,1,0,0]) (Nw s a b X i k j) (bk d (a8 0 (ba f235 [1,1] R))) w=(cond (k<i) (cb s a k 9 λf=>mS w f λr=>px prog X #[r.val] w λe g=>∃ c,e=.returned (U c)/\cond c (R (I k) g) (d (Nw s a b X i (i64.wrap (k+1)) [aW j 0,aW j 1,aW j 2,I k,aW j 4,U (k<i),I k,X,ad s a b,I k,jp f,r.val,U c,aW j 13,I (i64.wrap (k+1))]) g)) (W prog (sb f235 [1,1]) (aa4  (ad s a b::X::ag j 0 5 (I i::I k::U (k<i)::ag j 6 9 []))) (c3 f235 R) w)):=by kernel_rfl
theorem auk:W prog (sb f235 [1,1]) (aa4  j) (c3 f235 R) w=(R (I (-1)) w):=by kernel_rfl
end
section
abbrev hs:TypeId:=73
def nR (l:List a6):List aH:=l.map a6.cells
def nf:a6:=⟨0,0,0,0,0,0,0,0,0⟩
def vf (h:Int):Bool:=jC .u64 h 255 == 0
def sF (h:Int):Bool:=decide (1<=fr .u64 h 8/\fr .u64 h 8<=281474976710654)
def rq (p:a6):Bool:=sF p.Head && vf p.Head
def qZ (l:List a6) (i:Nat):Bool:=decide (i=0) || decide ((l.getD (i - 1) nf).b5<(l.getD i nf).b5)
def jD (seq:Int) (W:List a6) (lines:Int):Int:=
 if ¬ (98<=lines/\lines<=256) then 18 else if seq<1\/1073741824<=seq\/W.length<1\/12<W.length then 1
 else if W.all (λp=>oR p.b5 lines)=false then 2 else if (List.range W.length).all (λi=>qZ W i && rq (W.getD i nf))=false then 1 else 0
theorem alF {h:Int} (aN:dp h):0<=fr .u64 h 8/\fr .u64 h 8<18446744073709551615:=by
 have e:fr .u64 h 8=h / 256:=by show Int.fdiv h 256=_;rw [Mb _ (by decide)]
 have:=aN.1;have:=aN.2;omega
theorem Nb (w:av) (h:Int):bK 170 [.int .u64 h] w λv w'=>v=.bool (vf h)/\w'=w:=by refine bO Tryz.func170 ?_;rw [aBJ];exact ⟨rfl,rfl⟩
theorem Zh (w:av) (h:Int):bK 236 [.int .u64 h] w λv w'=>v=.tuple #[.int .u64 (fr .u64 h 8),.int .i64 (IntKind.i64.wrap (jC .u64 h 255))]/\w'=w:=by refine bO Tryz.func236 ?_;rw [ay1];exact ⟨rfl,rfl⟩
theorem aaj {a b c:Int} (h:b=c):∃ x,Value.tuple #[.int .u64 a,.int .i64 b]=.tuple #[.int .u64 x,.int .i64 c]/\w=w:=⟨a,by rw [h],rfl⟩
theorem alG (w:av) (h:Int):bK 206 [.int .u64 h] w λv w'=>∃ x,v=.tuple #[.int .u64 x,.int .i64 (if sF h=true then 0 else 2)]/\w'=w:=by
 refine bO Tryz.func206 ?_;rw [agq];refine aR (Zh w h) ?_;rintro v w1 ⟨rfl,rfl⟩;refine ⟨_,_,rfl,?_⟩;refine aR (WC w1 _ 1 281474976710654) ?_;rintro v aS ⟨rfl,rfl⟩;refine ⟨_,rfl,ht (λaJ=>aaj ?_) (λaZ=>aaj ?_)⟩
 ·rw [if_neg (by unfold sF;rw [aJ];simp)]
 ·rw [if_pos (by unfold sF;exact aZ)]
structure jd (w:av) (a:ax) (n:Nat) (W:List a6):Prop where
 rd:bW w a (nR W).flatten
 len:n=W.length
 hH:W.length<=1000000
 u64:∀ p ∈ W,dp p.Head
theorem jd.new {w w':av} {a:ax} {n:Nat} {W:List a6} (h:jd w a n W) (aj:ai w w'):jd w' a n W:=⟨h.rd.new aj,h.len,h.hH,h.u64⟩
theorem awB:oq prog 205=true:=by kernel_rfl
theorem aoE (w:av) (p:a6) {lines:Int} (ab:w.cell? ⟨d9,0,none⟩=some (.int .i64 lines)):bK 205 [p.val,.pointer (some ⟨d9,0,none⟩)] w λv w'=>v=.bool (decide (p.b5<96) || decide (lines<=p.b5))/\ai w w':=by
 refine bO Tryz.func205 ?_;rw [azt];rintro b1 w1 bA br;obtain ⟨aE,aj⟩:=b4 bA br;have aE:aF w1 b1 p.cells hs:=aE;clear br;refine ⟨_,aE.cell (i:=0) rfl,bL (λh=>⟨?_,aj⟩) (λh=>⟨_,aE.cell (i:=0) rfl,_,qn aj ab id,?_,aj⟩)⟩
 ·rw [decide_eq_true h];rfl
 ·rw [decide_eq_false h];rfl
section
attribute [local irreducible] oq px xI
theorem ajj {lines:Int} {W:List a6} (h:jd w a n W) (ab:w.cell? ⟨d9,0,none⟩=some (.int .i64 lines)) :
  bK 235 [.slice a n c,.func (.func 205) #[] #[.pointer (some ⟨d9,0,none⟩)]] w λv w'=>∃ z:Int,v=.int .i64 z/\(decide (z>=0)=W.any λp=>decide (p.b5<96) || decide (lines<=p.b5))/\ai w w':=by
 have au:=h.len;subst au;have m6:=h.hH;refine bO Tryz.func235 ?_;rw [auw];refine e2 mix (λm env u=>∃ (i:Nat) (aT:aH),m=W.length - i/\i<=W.length/\env=Nw a W.length c (.func (.func 205) #[] #[.pointer (some ⟨d9,0,none⟩)]) W.length i aT/\ai w u/\((W.take i).any λp=>decide (p.b5<96) || decide (lines<=p.b5))=false) W.length
  ⟨0,_,by omega,by omega,rfl,ay.refl _ _,rfl⟩ ?_
 rintro m env u ⟨i,aT,rfl,aD,rfl,aj,fp⟩;rw [apW];refine bL (λar=>?_) (λar=>?_)
 ·have aK:i<W.length:=by omega
  have a':W[i]?=some W[i]:=cp aK;refine hq (cells:=a6.cells) a6.len (by omega) (h.rd.new aj) a' rfl rfl λb o gD _=>a6.bd W[i] ⟨gD,?_⟩
  refine EW awB (xs:=#[W[i].val,.pointer (some ⟨d9,0,none⟩)]) (by simp) ?_;refine aR (aoE u W[i] (qn aj ab id)) ?_;rintro v ct ⟨rfl,a1⟩;refine ⟨_,rfl,kk (λaJ=>⟨i,rfl,?_,aj.new a1⟩) (λaJ=>?_)⟩
  ·have af:(W.any λp=>decide (p.b5<96) || decide (lines<=p.b5))=true:=CX.2 ⟨W[i],qS aK,aJ⟩;rw [af];simp
  ·rw [cn (by omega) (by omega)];refine ⟨W.length - (i+1),by omega,i+1,_,rfl,by omega,rfl,aj.new a1,?_⟩;rw [iW,a',List.any_append,fp];simpa using aJ
 ·rw [auk];have:W.take i=W:=ny (by omega);rw [this] at fp;exact ⟨-1,rfl,by rw [fp];decide,aj⟩
end
theorem ahk {lines:Int} {W:List a6} (h:jd w a n W) (ab:w.cell? ⟨d9,0,none⟩=some (.int .i64 lines)) :
  bK 204 [.slice a n c,.func (.func 205) #[] #[.pointer (some ⟨d9,0,none⟩)]] w λv w'=>v=.bool (W.any λp=>decide (p.b5<96) || decide (lines<=p.b5))/\ai w w':=by
 refine bO Tryz.func204 ?_;rw [aug];refine aR (ajj h ab) ?_;rintro v w1 ⟨z,rfl,aE,aj⟩;exact ⟨_,rfl,by rw [aE],aj⟩
theorem akF {W:List a6} {lines:Int} (au:98<=lines/\lines<=256):(W.any λp=>decide (p.b5<96) || decide (lines<=p.b5))=!(W.all λp=>oR p.b5 lines):=by
 induction W with
 |nil=>rfl
 |cons p W c5=>rw [List.any_cons,List.all_cons,c5,Bool.not_and];congr 1;unfold oR;rw [Bool.eq_iff_iff];simp;omega
theorem Rw {p q:Nat->Bool}:((List.range n).all λi=>p i && q i)=false↔(List.range n).all p=false\/(List.range n).all q=false:=by
 have:((List.range n).all λi=>p i && q i)=((List.range n).all p && (List.range n).all q):=by rw [Bool.eq_iff_iff];simp only [lM,iz];exact ⟨λh=>⟨λx ao=>(h x ao).1,λx ao=>(h x ao).2⟩,λh x ao=>⟨h.1 x ao,h.2 x ao⟩⟩
 rw [this,Bool.and_eq_false_iff]
theorem QN {r:c0} {W:List a6} (h:jd w r.hO r.gO W) (lines:Int):bK 167 [r.val,.int .i64 lines] w λx w'=>x=.int .i64 (jD r.Seq W lines)/\ai w w':=by
 refine bO Tryz.func167 ?_;rw [aCt];rintro b1 w1 bA br;obtain ⟨bm,a1⟩:=b4 bA br;have bm:aF w1 b1 r.cells 271:=bm;clear br;rintro aP aS cv cG;obtain ⟨bP,a5⟩:=b4 cv cG;have bP:aF aS aP [.int .i64 lines] 3:=bP;clear cG;have gM:=ai.an a5 bm;have aj:=a1.new a5;have hlen:=h.len;have m6:=h.hH;refine ⟨_,bP.cell (i:=0) rfl,?_⟩;have g2:bK 203 [.int .i64 lines] aS λv w'=>v=.bool (decide (98<=lines/\lines<=256))/\w'=aS:=by
  refine bO Tryz.func203 ?_;rw [ae5];refine bL (λh=>⟨?_,rfl⟩) (λh=>⟨?_,rfl⟩)
  ·have h:98<=lines:=h;congr 1;simp [h]
  ·have h:¬ 98<=lines:=h;congr 1;simp [h]
 refine aR g2 ?_;rintro x aY ⟨rfl,rfl⟩;unfold jD;refine ⟨_,rfl,ht (λaJ=>?_) (λaZ=>?_)⟩
 ·rw [if_pos (by simpa using aJ)];exact ⟨rfl,aj⟩
 have au:98<=lines/\lines<=256:=by simpa using aZ
 rw [if_neg (λe=>e au)];refine ⟨_,gM.cell (i:=0) rfl,bL (λar=>?_) (λar=>⟨_,gM.cell (i:=0) rfl,bL (λmI=>?_) (λmI=>⟨_,_,_,gM.cell (i:=1) rfl,bL (λg'=>?_) (λg'=>⟨_,_,_,gM.cell (i:=1) rfl,bL (λoO=>?_) (λoO=>⟨_,_,_,gM.cell (i:=1) rfl,?_⟩)⟩)⟩)⟩)⟩
 ·rw [if_pos (by omega)];exact ⟨rfl,aj⟩
 ·rw [if_pos (by omega)];exact ⟨rfl,aj⟩
 ·rw [if_pos (by omega)];exact ⟨rfl,aj⟩
 ·rw [if_pos (by omega)];exact ⟨rfl,aj⟩
 rw [if_neg (by omega)];refine aR (ahk (h.new aj) (bP.cell (i:=0) rfl)) ?_;rintro x bZ ⟨rfl,bz⟩;rw [akF au];refine ⟨_,rfl,ht (λaJ=>?_) (λaZ=>?_)⟩
 ·rw [if_pos aJ];exact ⟨rfl,aj.new bz⟩
 rw [if_neg (by rw [aZ];simp)];have oQ:=ai.an bz gM;have iP:=aj.new bz;refine ⟨_,_,_,oQ.cell (i:=1) rfl,?_⟩;refine e2 mix (λm env u=>∃ (i:Nat) (aT:aH),m=W.length - i/\i<=W.length/\env=DF ⟨b1,0,none⟩ r.hO r.gO r.mC r.gO i aT/\ai bZ u/\∀ k,k<i->qZ W k=true) W.length
  ⟨0,_,by omega,by omega,rfl,ay.refl _ _,λk J=>by omega⟩ ?_
 rintro m env u ⟨i,aT,rfl,aD,rfl,dN,b3⟩;rw [axb];refine bL (λaM=>?_) (λaM=>?_)
 ·have aK:i<W.length:=by omega
  have a':W[i]?=some W[i]:=cp aK;have hz:=Aw (d:=nf) a';refine hq (cells:=a6.cells) a6.len (by omega) (h.rd.new (iP.new dN)) a' rfl hlen λb o ab _=>a6.bd W[i] ⟨ab,?_⟩
  refine g0 (vs:=W[i].cells) rfl (a6.single _) λbT cS ej cx bf=>?_
  rintro b2 oi;have acM:ai cS b2:=by rw [oi];exact eh _
  clear oi;have at0:=ai.an acM cx;have oN:=(dN.new bf).new acM;have go:qZ W i=true->∀ nU,∃ cW,cW<W.length - i/\∃ (kJ:Nat) (aT:aH),cW=W.length - kJ/\kJ<=W.length/\DF ⟨b1,0,none⟩ r.hO r.gO r.mC r.gO (IntKind.i64.wrap ((i:Int)+1)) nU=DF ⟨b1,0,none⟩ r.hO r.gO r.mC r.gO kJ aT/\ai bZ b2/\∀ k,k<kJ->qZ W k=true:=by
   intro bc nU;rw [cn (by omega) (by omega)];refine ⟨W.length - (i+1),by omega,i+1,nU,rfl,by omega,rfl,oN,λk J=>?_⟩;rcases CV.1 J with J | rfl
   ·exact b3 k J
   ·exact bc
  refine ⟨λy=>ai b2 y,ay.refl _ _,bL (λaN=>⟨_,λy az=>(ai.an az at0).cell (i:=0) rfl,_,_,_,λy az=>(ai.an (oN.new az) oQ).cell (i:=1) rfl,?_⟩) (λaN=>go (by unfold qZ;simp;omega) _)⟩;have yr:W[i - 1]?=some W[i - 1]:=cp (by omega);have BP:=Aw (d:=nf) yr;refine pw (cells:=a6.cells) a6.len (by omega) (h.rd.new (iP.new oN)) yr (by rw [cn (by omega) (by omega)];omega) hlen λb' gk kd=>⟨_,λy az=>kd y az 0 _ rfl,bL (λjI=>?_) (λjI=>go (by unfold qZ;rw [hz,BP];simp;omega) _)⟩
  rw [if_pos (Rw.2 (.inl (P7 aK (by unfold qZ;rw [hz,BP];simp;omega))))];exact ⟨rfl,iP.new oN⟩
 have k_:(List.range W.length).all (qZ W)=true:=by rw [lM];intro k J;exact b3 k (by have:=jT.1 J;omega)
 rw [ayI];refine ⟨_,_,_,(ai.an dN oQ).cell (i:=1) rfl,?_⟩;clear aM aD b3;refine e2 mix (λm env z=>∃ (i:Nat) (aT:aH),m=W.length - i/\i<=W.length/\env=PN r.hO r.gO r.mC r.gO i aT/\ai u z/\∀ k,k<i->rq (W.getD k nf)=true) W.length
  ⟨0,_,by omega,by omega,rfl,ay.refl _ _,λk J=>by omega⟩ ?_
 rintro m env z ⟨i,aT,rfl,aD,rfl,da,b3⟩;have og:=(iP.new dN).new da;rw [axc];refine bL (λaM=>?_) (λaM=>?_)
 ·have aK:i<W.length:=by omega
  have a':W[i]?=some W[i]:=cp aK;have hz:=Aw (d:=nf) a';have bad:rq W[i]=false->(if ((List.range W.length).all λi=>qZ W i && rq (W.getD i nf))=false then 1 else (0:Int))=1:=λe=>by rw [if_pos (Rw.2 (.inr (P7 aK (by rw [hz];exact e))))]
  refine hq (cells:=a6.cells) a6.len (by omega) (h.rd.new og) a' rfl hlen λb o ab _=>a6.bd W[i] ⟨ab,?_⟩
  refine g0 (vs:=W[i].cells) rfl (a6.single _) λbT dq ej cx bf=>?_
  refine ⟨_,cx.cell (i:=1) rfl,?_⟩;refine aR (alG dq W[i].Head) ?_;rintro x h5 ⟨y,rfl,rfl⟩;refine ⟨_,_,rfl,fX (λcj=>?_) (λhe=>⟨_,cx.cell (i:=1) rfl,?_⟩)⟩
  ·rw [bad (by unfold rq;cases hS:sF W[i].Head with
    |true=>rw [hS] at cj;simp at cj
    |false=>rfl)]
   exact ⟨rfl,og.new bf⟩
  have hS:sF W[i].Head=true:=by
   cases hS:sF W[i].Head with
   |true=>rfl
   |false=>rw [hS] at he;simp at he
  refine aR (Nb h5 W[i].Head) ?_;rintro x hh ⟨rfl,rfl⟩;refine ⟨_,rfl,ht (λaJ=>?_) (λaZ=>?_)⟩
  ·rw [bad (by unfold rq;rw [aJ,Bool.and_false])];exact ⟨rfl,og.new bf⟩
  ·rw [cn (by omega) (by omega)];refine ⟨W.length - (i+1),by omega,i+1,_,rfl,by omega,rfl,da.new bf,λk J=>?_⟩;rcases CV.1 J with J | rfl
   ·exact b3 k J
   ·rw [hz];unfold rq;rw [hS,aZ];rfl
 ·rw [ayJ];have aqm:(List.range W.length).all (λi=>rq (W.getD i nf))=true:=by rw [lM];intro k J;exact b3 k (by have:=jT.1 J;omega)
  rw [if_neg (λe=>by
   rcases Rw.1 e with e | e
   ·rw [k_] at e;cases e
   ·rw [aqm] at e;cases e)]
  exact ⟨rfl,og⟩
end
section
def ZR (l:List h3):List aH:=l.map h3.cells
def Co:h3:=⟨0,0⟩
def Dt (R:List h3) (i:Nat):Bool:=decide (i=0) || decide ((R.getD (i - 1) Co).b5<(R.getD i Co).b5)
def has (W:List a6) (line:Int):Bool:=W.any λp=>decide (p.b5=line)
def wR (R:List h3) (W:List a6) (i:Nat):Bool:=(Dt R i && vf (R.getD i Co).Head) && !has W (R.getD i Co).b5
structure eP where
 bw:Int
 seq:Int
 lines:Int
 v:pH
 reads:List h3
 writes:List a6
def eP.valid (j:eP):Int:=
 if j.bw<0\/6<=j.bw then 1 else if j.v.valid 5≠0 then j.v.valid 5 else if j.lines<98\/256<j.lines then 18
 else if 0<j.writes.length/\jD j.seq j.writes j.lines≠0 then jD j.seq j.writes j.lines else if 24<j.reads.length then 18
 else if j.reads.all (λs=>oR s.b5 j.lines)=false then 2 else if (List.range j.reads.length).all (wR j.reads j.writes)=false then 1 else 0
structure CR (w:av) (r:fW) (j:eP):Prop where
 bw:r.Client=j.bw
 seq:r.Seq=j.seq
 lines:r.mB=j.lines
 view:∃ M,ky M w r.View j.v
 rd:bW w r.Reads (ZR j.reads).flatten
 len:r.s5=j.reads.length
 hH:j.reads.length<=1000000
 cO:jd w r.hO r.gO j.writes
theorem CR.new {w w':av} {r:fW} {j:eP} (h:CR w r j) (aj:ai w w'):CR w' r j:=⟨h.bw,h.seq,h.lines,h.view.imp λ_ h=>h.new aj,h.rd.new aj,h.len,h.hH,h.cO.new aj⟩
theorem Yo (w:av) (r:fW):bK 168 [r.val] w λx w'=>x=c0.val ⟨r.Seq,r.hO,r.gO,r.mC⟩/\ai w w':=by
 refine bO Tryz.func168 ?_;rw [ayK];rintro b1 w1 bA br;obtain ⟨bm,a1⟩:=b4 bA br;have bm:aF w1 b1 r.cells 39:=bm;clear br;rintro aP aS cv cG;obtain ⟨bP,a5⟩:=b4 cv cG;have bP:aF aS aP (c0.cells ⟨0,none,0,0⟩) 271:=bP;clear cG;have gM:=ai.an a5 bm;have aX:=a1.size;refine ⟨_,gM.cell (i:=1) rfl,_,_,_,gM.cell (i:=6) rfl,?_⟩;refine gL (vs:=c0.cells ⟨r.Seq,r.hO,r.gO,r.mC⟩) bP rfl (c0.single _) λaY cx ek=>?_
 refine c0.bd ⟨r.Seq,r.hO,r.gO,r.mC⟩ ⟨cD cx rfl,rfl,rfl,?_⟩;exact (a1.new a5).trans ek λk aK e=>by omega
theorem XN {W:List a6} (h:jd w r.hO r.gO W) (line:Int):bK 171 [r.val,.int .i64 line] w λx w'=>x=.bool (has W line)/\ai w w':=by
 refine bO Tryz.func171 ?_;rw [ayL];rintro b1 w1 bA br;obtain ⟨bm,a1⟩:=b4 bA br;have bm:aF w1 b1 r.cells 39:=bm;clear br;have hlen:=h.len;have m6:=h.hH;refine ⟨_,_,_,bm.cell (i:=6) rfl,?_⟩;refine e2 mix (λm env u=>∃ (i:Nat) (aT:aH),m=W.length - i/\i<=W.length/\env=N6 line r.hO r.gO r.mC r.gO i aT/\ai w u/\has (W.take i) line=false) W.length
  ⟨0,_,by omega,by omega,rfl,a1,rfl⟩ ?_
 rintro m env u ⟨i,aT,rfl,aD,rfl,dN,fp⟩;rw [avU];refine bL (λaM=>?_) (λaM=>?_)
 ·have aK:i<W.length:=by omega
  have a':W[i]?=some W[i]:=cp aK;refine hq (cells:=a6.cells) a6.len (by omega) (h.rd.new dN) a' rfl hlen λb o ab _=>a6.bd W[i] ⟨ab,?_⟩
  refine g0 (vs:=W[i].cells) rfl (a6.single _) λbT cS ej cx bf=>?_
  refine ⟨_,cx.cell (i:=0) rfl,gX (λhe=>⟨?_,dN.new bf⟩) (λhe=>?_)⟩
  ·have:has W line=true:=CX.2 ⟨W[i],qS aK,by simpa using he⟩;rw [this]
  ·rw [cn (by omega) (by omega)];refine ⟨W.length - (i+1),by omega,i+1,_,rfl,by omega,rfl,dN.new bf,?_⟩;unfold has;rw [iW,a',List.any_append];have:=fp;unfold has at this;rw [this];simpa using he
 ·rw [axa];have aZ:W.take i=W:=ny (by omega);rw [aZ] at fp;exact ⟨by rw [fp],dN⟩
end
section
def eP.tail (j:eP):Int:=if j.reads.all (λs=>oR s.b5 j.lines)=false then 2 else if (List.range j.reads.length).all (wR j.reads j.writes)=false then 1 else 0
theorem qr {R:List h3} {W:List a6} {i:Nat} (h:Dt R i=false\/vf (R.getD i Co).Head=false\/has W (R.getD i Co).b5=true):wR R W i=false:=by
 unfold wR;rcases h with h | h | h
 ·rw [h];rfl
 ·rw [h,Bool.and_false];rfl
 ·rw [h];simp
theorem ZS {u:av} {j:eP} {b1:Nat} (h:CR w r j) (aE:aF u b1 r.cells 39) (aj:ai w u) (aT:aH) {R:dW} (cC:∀ w',ai w w'->R (.int .i64 j.tail) w') :
  dT prog (.loop (sub (b6 f124) [1,1,1,1,1,1,0,1,0,0])) (Gw ⟨b1,0,none⟩ r.Reads r.s5 r.Bi r.s5 0 aT) (a8 0 (bk (λenv w=>W prog (sub (b6 f124) [1,1,1,1,1,1,1]) env (ga prog f124 R) w) (ga prog f124 R))) u:=by
 have hlen:=h.len;have m6:=h.hH;have Kk:=h.lines;unfold eP.tail at cC;refine e2 mix (λm env z=>∃ (i:Nat) (aT:aH),m=j.reads.length - i/\i<=j.reads.length/\env=Gw ⟨b1,0,none⟩ r.Reads r.s5 r.Bi r.s5 i aT/\ai u z/\(j.reads.take i).all (λs=>oR s.b5 j.lines)=true) j.reads.length
  ⟨0,_,by omega,by omega,rfl,ay.refl _ _,rfl⟩ ?_
 rintro m env z ⟨i,aT,rfl,aD,rfl,da,b3⟩;have og:=aj.new da;rw [axj];refine bL (λaM=>?_) (λaM=>?_)
 ·have aK:i<j.reads.length:=by omega
  have a':j.reads[i]?=some j.reads[i]:=cp aK;refine hq (cells:=h3.cells) h3.len (by omega) (h.rd.new og) a' rfl hlen λb o ab _=>h3.bd j.reads[i] ⟨ab,?_⟩
  refine g0 (vs:=j.reads[i].cells) rfl (h3.single _) λbT cS ej cx bf=>?_
  refine ⟨_,cx.cell (i:=0) rfl,_,(ai.an (da.new bf) aE).cell (i:=2) rfl,?_⟩;refine aR (akE _ _ _) ?_;rintro x aY ⟨rfl,rfl⟩;refine ⟨_,rfl,ht (λaJ=>?_) (λaZ=>?_)⟩
  ·rw [if_pos (by rw [Q5];exact ⟨_,qS aK,by rw [<-Kk,aJ];simp⟩)] at cC
   exact cC _ (og.new bf)
  ·rw [cn (by omega) (by omega)];refine ⟨j.reads.length - (i+1),by omega,i+1,_,rfl,by omega,rfl,da.new bf,?_⟩;rw [iW,a',List.all_append,b3];simp [<-Kk,aZ]
 have aZ:j.reads.take i=j.reads:=ny (by omega);rw [aZ] at b3;rw [if_neg (by rw [b3];simp)] at cC;rw [ayG];clear b3 aD aM aZ;have pv:=ai.an da aE;refine ⟨_,_,_,pv.cell (i:=5) rfl,?_⟩;refine e2 mix (λm env x=>∃ (i:Nat) (aT:aH),m=j.reads.length - i/\i<=j.reads.length/\env=La ⟨b1,0,none⟩ r.Reads r.s5 r.Bi r.s5 i aT/\ai z x/\∀ k,k<i->wR j.reads j.writes k=true) j.reads.length
  ⟨0,_,by omega,by omega,rfl,ay.refl _ _,λk J=>by omega⟩ ?_
 rintro m env x ⟨i,aT,rfl,aD,rfl,hS,b3⟩;have Uc:=og.new hS;rw [axk];refine bL (λaM=>?_) (λaM=>?_)
 ·have aK:i<j.reads.length:=by omega
  have a':j.reads[i]?=some j.reads[i]:=cp aK;have hz:=Aw (d:=Co) a';have bad:wR j.reads j.writes i=false->∀ w',ai w w'->R (.int .i64 1) w':=λe w' hw=>by rw [if_pos (P7 aK e)] at cC;exact cC w' hw
  refine hq (cells:=h3.cells) h3.len (by omega) (h.rd.new Uc) a' rfl hlen λb o ab _=>h3.bd j.reads[i] ⟨ab,?_⟩
  refine g0 (vs:=j.reads[i].cells) rfl (h3.single _) λbT cS ej cx bf=>?_
  rintro b2 oi;have bz:ai cS b2:=by rw [oi];exact eh _
  clear oi;have yw:=bf.new bz;have dk:=ai.an bz cx;have Vi:=ai.an (hS.new yw) pv;have iP:=Uc.new yw;refine ⟨λy=>ai b2 y,ay.refl _ _,bL (λaN=>⟨_,λy az=>(ai.an az dk).cell (i:=0) rfl,_,_,_,λy az=>(ai.an az Vi).cell (i:=5) rfl,?_⟩) (λaN=>⟨_,λy az=>(ai.an az dk).cell (i:=1) rfl,?_⟩)⟩
  ·have yr:j.reads[i - 1]?=some j.reads[i - 1]:=cp (by omega);have BP:=Aw (d:=Co) yr;refine pw (cells:=h3.cells) h3.len (by omega) (h.rd.new iP) yr (by rw [cn (by omega) (by omega)];omega) hlen λb' gk kd=>⟨_,λy az=>kd y az 0 _ rfl,bL (λjI=>?_) (λjI=>⟨_,λy az=>(ai.an az dk).cell (i:=1) rfl,?_⟩)⟩
   ·exact bad (qr (.inl (by unfold Dt;rw [hz,BP];simp;omega))) _ iP
   have bc:Dt j.reads i=true:=by unfold Dt;rw [hz,BP];simp;omega
   refine aR (Nb b2 j.reads[i].Head) ?_;rintro v c6 ⟨rfl,rfl⟩;refine ⟨_,rfl,ay.refl _ _,ht (λaJ=>?_) (λKS=>fW.bd r ⟨λy az=>cD (ai.an az Vi) rfl,_,λy az=>(ai.an az dk).cell (i:=0) rfl,?_⟩)⟩
   ·exact bad (qr (.inr (.inl (by rw [hz];exact aJ)))) _ iP
   refine aR (XN (h.cO.new iP) j.reads[i].b5) ?_;rintro v ff ⟨rfl,bH⟩;refine ⟨_,rfl,bH,kk (λhw=>?_) (λhw=>?_)⟩
   ·exact bad (qr (.inr (.inr (by rw [hz];exact hw)))) _ (iP.new bH)
   ·rw [cn (by omega) (by omega)];refine ⟨j.reads.length - (i+1),by omega,i+1,_,rfl,by omega,rfl,(hS.new yw).new bH,λk J=>?_⟩;rcases CV.1 J with J | rfl
    ·exact b3 k J
    ·unfold wR;rw [hz,bc,KS,hw];rfl
  ·have bc:Dt j.reads i=true:=by unfold Dt;simp;omega
   refine aR (Nb b2 j.reads[i].Head) ?_;rintro v c6 ⟨rfl,rfl⟩;refine ⟨_,rfl,ay.refl _ _,ht (λaJ=>?_) (λKS=>fW.bd r ⟨λy az=>cD (ai.an az Vi) rfl,_,λy az=>(ai.an az dk).cell (i:=0) rfl,?_⟩)⟩
   ·exact bad (qr (.inr (.inl (by rw [hz];exact aJ)))) _ iP
   refine aR (XN (h.cO.new iP) j.reads[i].b5) ?_;rintro v ff ⟨rfl,bH⟩;refine ⟨_,rfl,bH,kk (λhw=>?_) (λhw=>?_)⟩
   ·exact bad (qr (.inr (.inr (by rw [hz];exact hw)))) _ (iP.new bH)
   ·rw [cn (by omega) (by omega)];refine ⟨j.reads.length - (i+1),by omega,i+1,_,rfl,by omega,rfl,(hS.new yw).new bH,λk J=>?_⟩;rcases CV.1 J with J | rfl
    ·exact b3 k J
    ·unfold wR;rw [hz,bc,KS,hw];rfl
 ·rw [ayH];rw [if_neg (by rw [Ie,lM];intro k J;exact b3 k (by have:=jT.1 J;omega))] at cC
  exact cC _ Uc
theorem akG {j:eP} (h:CR w r j):bK 124 [r.val] w λx w'=>x=.int .i64 j.valid/\ai w w':=by
 refine bO Tryz.func124 ?_;rw [aCs];rintro b1 w1 bA br;obtain ⟨aE,aj⟩:=b4 bA br;have aE:aF w1 b1 r.cells 39:=aE;clear br;have hlen:=h.len;have m6:=h.hH;have c7:=h.bw;have pr:=h.seq;have Kk:=h.lines;have gw:=h.cO.len;obtain ⟨al',kX⟩:=h.view;unfold eP.valid;refine ⟨_,aE.cell (i:=0) rfl,bL (λar=>?_) (λar=>⟨_,aE.cell (i:=0) rfl,bL (λkh=>?_) (λkh=>?_)⟩)⟩
 ·rw [if_pos (by omega)];exact ⟨rfl,aj⟩
 ·rw [if_pos (by omega)];exact ⟨rfl,aj⟩
 rw [if_neg (by omega)];refine e3.bd r.View ⟨cD aE rfl,?_⟩;refine aR (Yk (kX.new aj) 5) ?_;rintro x aS ⟨rfl,a5⟩;have bP:=ai.an a5 aE;have ja:=aj.new a5;refine ⟨_,rfl,fX (λaw=>?_) (λaw=>?_)⟩
 ·rw [if_pos aw];exact ⟨rfl,ja⟩
 rw [if_neg (by omega)];refine ⟨_,bP.cell (i:=2) rfl,bL (λmI=>?_) (λmI=>⟨_,bP.cell (i:=2) rfl,bL (λg'=>?_) (λg'=>⟨_,_,_,bP.cell (i:=6) rfl,bL (λoO=>?_) (λoO=>⟨_,_,_,bP.cell (i:=5) rfl,bL (λiw=>?_) (λiw=>⟨_,_,_,bP.cell (i:=5) rfl,?_⟩)⟩)⟩)⟩)⟩
 ·rw [if_pos (by omega)];exact ⟨rfl,ja⟩
 ·rw [if_pos (by omega)];exact ⟨rfl,ja⟩
 ·rw [if_neg (by omega)];rintro aY dY;have bf:ai aS aY:=by rw [dY];exact eh _
  clear dY;have cx:=ai.an bf bP;refine ⟨λy=>ai aY y,ay.refl _ _,fW.bd r ⟨λy az=>cD (ai.an az cx) rfl,_,λy az=>(ai.an az cx).cell (i:=2) rfl,?_⟩⟩;refine aR (Yo aY r) ?_;rintro x bZ ⟨rfl,bz⟩;refine c0.bd ⟨r.Seq,r.hO,r.gO,r.mC⟩ ⟨rfl,bz,?_⟩;refine aR (QN (r:=⟨r.Seq,r.hO,r.gO,r.mC⟩) (h.cO.new (ja.new (bf.new bz))) r.mB) ?_;rintro x u ⟨rfl,bH⟩;have dN:=ja.new (bf.new (bz.new bH));have tD:=ai.an (bz.new bH) cx;rw [<-pr,<-Kk];refine ⟨_,rfl,bz.new bH,fX (λaA=>?_) (λaA=>⟨_,_,_,tD.cell (i:=5) rfl,bL (λiw=>?_) (λiw=>⟨_,_,_,tD.cell (i:=5) rfl,?_⟩)⟩)⟩
  ·rw [if_pos ⟨by omega,aA⟩];exact ⟨rfl,dN⟩
  ·rw [if_neg (λe=>e.2 aA),if_pos (by omega)];exact ⟨rfl,dN⟩
  ·rw [if_neg (λe=>e.2 aA),if_neg (by omega),Kk];exact ZS h tD dN _ λw' hw=>⟨rfl,hw⟩
 ·rw [if_neg (by omega),if_neg (by omega),if_pos (by omega)];exact ⟨rfl,ja⟩
 ·rw [if_neg (by omega),if_neg (by omega),if_neg (by omega)];exact ZS h bP ja _ λw' hw=>⟨rfl,hw⟩
end
end Go.Proofs.YtmkljjbioomepaaGreat
