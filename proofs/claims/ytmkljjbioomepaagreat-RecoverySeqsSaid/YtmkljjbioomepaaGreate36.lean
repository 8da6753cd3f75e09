import Derived.Test.YtmkljjbioomepaaGreatProg
import Derived.Test.YtmkljjbioomepaaGreate03
import Derived.Test.YtmkljjbioomepaaGreate24
import Derived.Test.YtmkljjbioomepaaGreate35
set_option linter.all false
set_option maxHeartbeats 4000000
set_option maxRecDepth 100000
namespace Go.Proofs.YtmkljjbioomepaaGreat
open Go.Proofs.Tryz Go.bn
section
open IntKind
variable (w:al) (R:cp) {a b c d e f g h:Nat} {s t u v:an} {i k l:Int} {A:aV} {j:aq}
def vr (e:aV) (s1:an) (a b:Nat) (s2:an) (c d:Nat) (n:an) (f g:Nat) (o:Int) (h:an) (i k:Nat) (l:Int) (j:aq):aq:=.pointer (some e)::ae s1 a b::ae s2 c d::ae n f g::ab o::ag j 0 6 (ae h i k::ab l::ag j 6 82 [])
def En (a:aV) (s1:an) (b c:Nat) (s2:an) (d f:Nat) (e:an) (g h:Nat) (n:Int) (i:an) (k l:Nat) (j:aq):aq:=.pointer (some a)::ae s1 b c::ae s2 d f::ae e g h::ab n::ag j 0 6 (ae i k l::ag j 6 83 [])
def vt (e:aV) (s1:an) (a b:Nat) (s2:an) (c d:Nat) (n:an) (f g:Nat) (o:Int) (h:an) (i k:Nat) (l:Int) (j:aq):aq:=.pointer (some e)::ae s1 a b::ae s2 c d::ae n f g::ab o::ag j 0 6 (ae h i k::ag j 6 1 (ab l::ag j 7 81 []))
def vu (a:aV) (s1:an) (b c:Nat) (j:aq):aq:=.pointer (some a)::ae s1 b c::ag j 0 93 []
def sQ (e:aV) (s1:an) (a b:Nat) (s2:an) (c d:Nat) (n:an) (f g:Nat) (o:Int) (h:an) (i k:Nat) (l m:Int) (j:aq):aq:=.pointer (some e)::ae s1 a b::ae s2 c d::ae n f g::ab o::ag j 0 6 (ae h i k::ag j 6 1 (ab l::ab m::ag j 7 80 []))
def Eo (a:aV) (s1:an) (b c:Nat) (s2:an) (d f:Nat) (e:an) (g h:Nat) (n:Int) (i:an) (k l:Nat) (m:Int) (j:aq):aq:=.pointer (some a)::ae s1 b c::ae s2 d f::ae e g h::ab n::ag j 0 6 (ae i k l::ag j 6 1 (ab m::ag j 7 81 []))
def vv (d:aV) (s1:an) (a b:Nat) (c:Int) (j:aq):aq:=.pointer (some d)::ae s1 a b::ag j 0 14 (ab c::ag j 14 78 [])
def Ep (s1:an) (a b:Nat) (j:aq):aq:=ag j 0 1 (ae s1 a b::ag j 1 93 [])
def vw (e:aV) (s1:an) (a b:Nat) (s2:an) (c d:Nat) (n:an) (f g:Nat) (o:Int) (h:an) (i k:Nat) (l m:Int) (j:aq):aq:=.pointer (some e)::ae s1 a b::ae s2 c d::ae n f g::ab o::ag j 0 6 (ae h i k::ag j 6 1 (ab l::ag j 7 1 (ab m::ag j 8 79 [])))
def Er (a:aV) (s1:an) (b c:Nat) (s2:an) (d f:Nat) (e:an) (g h:Nat) (n:Int) (i:an) (k l:Nat) (m:Int) (j:aq):aq:=.pointer (some a)::ae s1 b c::ae s2 d f::ae e g h::ab n::ag j 0 6 (ae i k l::ag j 6 1 (ab m::ag j 7 81 []))
theorem SD:bd prog f15 [a' a,ae s b c,ae t d e,ae u f g,ab i] R w=(cZ 46 (a3) (ae s b c) w λk h j l=>cx prog (cY f15 [1,1,1,0,1,0,0]) (vr (af a 0) k h j t d e u f g i none 0 0 0 (bx 5 (a3::bx 4 (ae s b c::ae k h j::bx 76 [])))) (aW 0 (aZ f15 [1,1,1,1] R)) l):=by kernel_rfl
theorem Qg (q:aq->aE):W prog (sb f15 [1,1,1,0,1,0,0]) (vr A s a b t c d u e f i v g h k j) (a1 q (aW 0 (aZ f15 [1,1,1,1] R))) w=(cond (k<(a:Nat)) (bB s a k 36 λp=>bG w (bS p 1) λm=>aQ w #[ab m] 3 λr y=>cZ 22 (ae v g h) (ae (bj r) 1 1) y λl n o x=>q (vr A s a b t c d u e f i l n o (i64.wrap (k+1)) (ag j 0 12 (ab k::ae s a b::du a::ad (k<(a:Nat))::ab k::ab (i64.wrap (k+1))::ae v g h::ae s a b::ab k::jp p::bE p 1::ab m::ae (bj r) 1 1::ae l n o::ag j 26 62 []))) x) (W prog (sb f15 [1,1,1,1]) (En A s a b t c d u e f i v g h (ag j 0 6 (ab k::ag j 6 6 (ab k::ae s a b::du a::ad (k<(a:Nat))::ag j 16 72 [])))) (bW f15 R) w)):=by kernel_rfl
theorem QW:W prog (sb f15 [1,1,1,1]) (En A s a b t c d u e f i v g h j) (bW f15 R) w=(cx prog (cY f15 [1,1,1,1,0,1,0,0]) (vt A s a b t c d u e f i v g h 0 (ag j 0 7 (ag j 8 81 []))) (aW 2 (aZ f15 [1,1,1,1,1] R)) w):=by kernel_rfl
theorem Qh (l:aq->aE):W prog (sb f15 [1,1,1,1,0,1,0,0]) (vt A s a b t c d u e f i v g h k j) (a1 l (aW 2 (aZ f15 [1,1,1,1,1] R))) w=(cond (k<i) (cx prog (cY f15 [1,1,1,1,0,1,0,0,1,0,0,0,1,0,0]) (sQ A s a b t c d u e f i v g h k 0 (ag j 0 7 (ag j 8 18 (ab k::ab i::ad (k<i)::ag j 29 59 [])))) (aW 4 (a1 (λm w=>W prog (sb f15 [1,1,1,1,0,1,0,0,1,0,0,1]) m (aW 3 (a1 (λm w=>W prog (sb f15 [1,1,1,1,0,1,0,0,1,1]) m (a1 l (aW 2 (aZ f15 [1,1,1,1,1] R))) w) (a1 l (aW 2 (aZ f15 [1,1,1,1,1] R))))) w) (aW 3 (a1 (λm w=>W prog (sb f15 [1,1,1,1,0,1,0,0,1,1]) m (a1 l (aW 2 (aZ f15 [1,1,1,1,1] R))) w) (a1 l (aW 2 (aZ f15 [1,1,1,1,1] R))))))) w) (W prog (sb f15 [1,1,1,1,1]) (vu A s a b (ae t c d::ae u e f::ab i::ag j 0 6 (ae v g h::aN j 6::ab k::ag j 7 19 (ab k::ab i::ad (k<i)::ag j 29 59 [])))) (bW f15 R) w)):=by kernel_rfl
theorem QY:W prog (sb f15 [1,1,1,1,1]) (vu A s a b j) (bW f15 R) w=(cx prog (cY f15 [1,1,1,1,1,0,1,0,0]) (vv A s a b 0 (ag j 0 14 (ag j 15 78 []))) (aW 8 (aZ f15 [1,1,1,1,1,1] R)) w):=by kernel_rfl
theorem Qi (p:aq->aE) (x:aq->aE):W prog (sb f15 [1,1,1,1,0,1,0,0,1,0,0,0,1,0,0]) (sQ A s a b t c d u e f i v g h k l j) (a1 x (aW 4 (a1 (λm w=>W prog (sb f15 [1,1,1,1,0,1,0,0,1,0,0,1]) m (aW 3 (a1 (λm w=>W prog (sb f15 [1,1,1,1,0,1,0,0,1,1]) m (a1 p (aW 2 (aZ f15 [1,1,1,1,1] R))) w) (a1 p (aW 2 (aZ f15 [1,1,1,1,1] R))))) w) (aW 3 (a1 (λm w=>W prog (sb f15 [1,1,1,1,0,1,0,0,1,1]) m (a1 p (aW 2 (aZ f15 [1,1,1,1,1] R))) w) (a1 p (aW 2 (aZ f15 [1,1,1,1,1] R)))))))) w=(cond (l<(e:Nat)) (bB u e l 3 λq=>bG w q λy=>cm 12 #[ab y,ab 60] w λn z=>cond (n == k) (bB u e l 3 λo=>RH z o λr=>td 33 #[.pointer (some A),ae v g h,r.val] z λB=>x (sQ A s a b t c d u e f i v g h k (i64.wrap (l+1)) (ag j 0 30 (ab l::ae u e f::du e::ad (l<(e:Nat))::ab l::ab (i64.wrap (l+1))::ae u e f::ab l::jp q::jp q::ab y::ab n::ab k::ad ((n:Int) == k)::jp A::ae v g h::ae u e f::ab l::jp o::r.val::.tuple #[]::ag j 51 36 []))) B) (x (sQ A s a b t c d u e f i v g h k (i64.wrap (l+1)) (ag j 0 30 (ab l::ae u e f::du e::ad (l<(e:Nat))::ab l::ab (i64.wrap (l+1))::ae u e f::ab l::jp q::jp q::ab y::ab n::ab k::ad ((n:Int) == k)::ag j 44 43 []))) z)) (W prog (sb f15 [1,1,1,1,0,1,0,0,1,0,0,1]) (Eo A s a b t c d u e f i v g h k (ag j 0 7 (ab l::ag j 7 23 (ab l::ae u e f::du e::ad (l<(e:Nat))::ag j 34 53 [])))) (aW 3 (a1 (λm w=>W prog (sb f15 [1,1,1,1,0,1,0,0,1,1]) m (a1 p (aW 2 (aZ f15 [1,1,1,1,1] R))) w) (a1 p (aW 2 (aZ f15 [1,1,1,1,1] R))))) w)):=by kernel_rfl
theorem QZ (m:aq->aE):W prog (sb f15 [1,1,1,1,0,1,0,0,1,0,0,1]) (Eo A s a b t c d u e f i v g h k j) (aW 3 (a1 (λl w=>W prog (sb f15 [1,1,1,1,0,1,0,0,1,1]) l (a1 m (aW 2 (aZ f15 [1,1,1,1,1] R))) w) (a1 m (aW 2 (aZ f15 [1,1,1,1,1] R))))) w=(cx prog (cY f15 [1,1,1,1,0,1,0,0,1,0,0,1,0,1,0,0]) (vw A s a b t c d u e f i v g h k 0 (ag j 0 8 (ag j 9 79 []))) (aW 6 (a1 (λl w=>W prog (sb f15 [1,1,1,1,0,1,0,0,1,0,0,1,1]) l (aW 3 (a1 (λl w=>W prog (sb f15 [1,1,1,1,0,1,0,0,1,1]) l (a1 m (aW 2 (aZ f15 [1,1,1,1,1] R))) w) (a1 m (aW 2 (aZ f15 [1,1,1,1,1] R))))) w) (aW 3 (a1 (λl w=>W prog (sb f15 [1,1,1,1,0,1,0,0,1,1]) l (a1 m (aW 2 (aZ f15 [1,1,1,1,1] R))) w) (a1 m (aW 2 (aZ f15 [1,1,1,1,1] R))))))) w):=by kernel_rfl
theorem Qj (e:aq->aE):W prog (sb f15 [1,1,1,1,1,0,1,0,0]) (vv A s a b i j) (a1 e (aW 8 (aZ f15 [1,1,1,1,1,1] R))) w=(cond (i<(a:Nat)) (bB s a i 36 λc=>ey w c λr=>pV 34 #[.pointer (some A),r.val] w λd h=>bB s a i 36 λf=>a_ h f 0 d.cells λg=>e (vv A s a b (i64.wrap (i+1)) (ag j 0 76 [ab i,ae s a b,du a,ad (i<(a:Nat)),ab i,ab (i64.wrap (i+1)),ae s a b,ab i,jp A,ae s a b,ab i,jp c,r.val,d.val,jp f,aN j 91])) g) (W prog (sb f15 [1,1,1,1,1,1]) (Ep s a b (jp A::ag j 0 14 (ab i::ag j 14 62 (ab i::ae s a b::du a::ad (i<(a:Nat))::ag j 80 12 [])))) (bW f15 R) w)):=by kernel_rfl
theorem Q0:W prog (sb f15 [1,1,1,1,1,1]) (Ep s a b j) (bW f15 R) w=(R (ae s a b) w):=by kernel_rfl
theorem Qk (p:aq->aE) (q:aq->aE):W prog (sb f15 [1,1,1,1,0,1,0,0,1,0,0,1,0,1,0,0]) (vw A s a b t c d u e f i v g h k l j) (a1 q (aW 6 (a1 (λm w=>W prog (sb f15 [1,1,1,1,0,1,0,0,1,0,0,1,1]) m (aW 3 (a1 (λm w=>W prog (sb f15 [1,1,1,1,0,1,0,0,1,1]) m (a1 p (aW 2 (aZ f15 [1,1,1,1,1] R))) w) (a1 p (aW 2 (aZ f15 [1,1,1,1,1] R))))) w) (aW 3 (a1 (λm w=>W prog (sb f15 [1,1,1,1,0,1,0,0,1,1]) m (a1 p (aW 2 (aZ f15 [1,1,1,1,1] R))) w) (a1 p (aW 2 (aZ f15 [1,1,1,1,1] R)))))))) w=(cond (l<(a:Nat)) (bB s a l 36 λx=>ey w x λr=>pV 34 #[.pointer (some A),r.val] w λn z=>bB s a l 36 λo=>a_ z o 0 n.cells λy=>q (vw A s a b t c d u e f i v g h k (i64.wrap (l+1)) (ag j 0 51 (ab l::ae s a b::du a::ad (l<(a:Nat))::ab l::ab (i64.wrap (l+1))::ae s a b::ab l::jp A::ae s a b::ab l::jp x::r.val::n.val::jp o::ag j 66 21 []))) y) (W prog (sb f15 [1,1,1,1,0,1,0,0,1,0,0,1,1]) (Er A s a b t c d u e f i v g h k (ag j 0 8 (ab l::ag j 8 43 (ab l::ae s a b::du a::ad (l<(a:Nat))::ag j 55 32 [])))) (aW 3 (a1 (λm w=>W prog (sb f15 [1,1,1,1,0,1,0,0,1,1]) m (a1 p (aW 2 (aZ f15 [1,1,1,1,1] R))) w) (a1 p (aW 2 (aZ f15 [1,1,1,1,1] R))))) w)):=by kernel_rfl
theorem Q1 (l:aq->aE):W prog (sb f15 [1,1,1,1,0,1,0,0,1,0,0,1,1]) (Er A s a b t c d u e f i v g h k j) (aW 3 (a1 (λo w=>W prog (sb f15 [1,1,1,1,0,1,0,0,1,1]) o (a1 l (aW 2 (aZ f15 [1,1,1,1,1] R))) w) (a1 l (aW 2 (aZ f15 [1,1,1,1,1] R))))) w=(dm 35 #[.pointer (some A),ae t c d,ab k] w λn m=>cond (!n) (W prog (sb f15 [1,1,1,1,1]) (vu A s a b (ae t c d::ae u e f::ab i::ag j 0 6 (ae v g h::aN j 6::ab k::ag j 7 60 (jp A::ae t c d::ab k::ad n::ad (!n)::ag j 72 16 [])))) (bW f15 R) m) (l (vt A s a b t c d u e f i v g h (i64.wrap (k+1)) (ag j 0 29 (ab k::ab (i64.wrap (k+1))::ag j 31 36 (jp A::ae t c d::ab k::ad n::ad (!n)::ag j 72 16 [])))) m)):=by kernel_rfl
theorem SE (i:cf):bd prog f26 [a' a,i.val] R w=(aQ w i.cells.toArray 45 λk p=>aQ p #[ab 0,ab 0,ab 0,ab 0,ab 0,ab 0,ab 0,ah 0,ab 0,ab 0,ab 0,ab 0,a3,a3,a3,ab 0,ab 0,ab 0,ab 0,a3,ab 0,ab 0,ah 0,a3,ad false,ad false,ab 0,ab 0,a3,ab 0,a3,ah 0,ab 0,ab 0,ab 0,ab 0] 45 λg j=>ey j (af k 0) λr=>aQ j r.cells.toArray 45 λm o=>eF 15 #[a' a,ae (bj m) 1 1,a3,a3,ab 20000] o λe b c h=>bB e b 0 36 λn=>ey h n λl=>a_ h (af g 0) 0 l.cells λf=>ey f (af g 0) λd=>f=f/\R d.val f):=by kernel_rfl
theorem Tc (UY:cf):bd prog f34 [a' a,UY.val] R w=(aQ w UY.cells.toArray 45 λu UT=>aQ UT #[ab 0,ab 0,ab 0,ab 0,ab 0,ab 0,ab 0,ah 0,ab 0,ab 0,ab 0,ab 0,a3,a3,a3,ab 0,ab 0,ab 0,ab 0,a3,ab 0,ab 0,ah 0,a3,ad false,ad false,ab 0,ab 0,a3,ab 0,a3,ah 0,ab 0,ab 0,ab 0,ab 0] 45 λA D=>jM D (af u 24) λj=>cond j (ey D (af u 0) λr=>a_ D (af A 0) 0 r.cells λP=>ey P (af A 0) λUH=>P=P/\R UH.val P) (bG D (af u 1) λb=>dm 43 #[a' a,ab b] D λc K=>cond (!c) (ey K (af u 0) λUx=>a_ K (af A 0) 0 Ux.cells λM=>ey M (af A 0) λUv=>M=M/\R Uv.val M) (bG K (af u 1) λd=>cm 63 #[a' a,ab d] K λf a8=>cond (f>0) (ey a8 (af u 0) λUD=>a_ a8 (af A 0) 0 UD.cells λH=>ey H (af A 0) λUN=>H=H/\R UN.val H) (bG a8 (af u 1) λg=>iX 64 #[a' a,ab g] a8 λh i k l C=>cond l (b0 C (af u 23) λm n o=>cZ 42 (a3) (ae m n o) C λUU p q UB=>aQ UB #[ae h i k] 100 λUR Um=>cZ 42 (ae UU p q) (ae (bj UR) 1 1) Um λs t v UP=>cE UP (af u 23) (ae s t v) λI=>b0 I (af u 23) λx y z=>cond ((y:Int)>200) (cE I (af u 24) (ad true) λU3=>cE U3 (af u 25) (ad true) λU1=>ey U1 (af u 0) λUC=>a_ U1 (af A 0) 0 UC.cells λL=>ey L (af A 0) λUz=>L=L/\R Uz.val L) (ey I (af u 0) λUy=>Calls prog 65 #[Uy.val] I λe U=>∃ (U2:an) (UZ UW:Nat),cf.ex λUV=>e=.returned (.tuple #[ae U2 UZ UW,UV.val])/\a_ U (af u 0) 0 UV.cells λE=>jM E (af u 24) λUI=>cond (!UI) (bG E (af u 1) λUj=>cm 66 #[a' a,ab Uj,ae U2 UZ UW] E λUs W=>cond (Us != 0) (cE W (af u 24) (ad true) λUJ=>cE UJ (af u 25) (ad true) λiB=>ey iB (af u 0) λUL=>a_ iB (af A 0) 0 UL.cells λa5=>ey a5 (af A 0) λUk=>a5=a5/\R Uk.val a5) (ey W (af u 0) λUl=>a_ W (af A 0) 0 Ul.cells λN=>ey N (af A 0) λUu=>N=N/\R Uu.val N)) (ey E (af u 0) λUA=>a_ E (af A 0) 0 UA.cells λS=>ey S (af A 0) λUt=>S=S/\R Ut.val S))) (b0 C (af u 23) λU5 Un U4=>cond ((Un:Int)>200) (cE C (af u 24) (ad true) λUi=>cE Ui (af u 25) (ad true) λX=>ey X (af u 0) λUG=>a_ X (af A 0) 0 UG.cells λG=>ey G (af A 0) λUK=>G=G/\R UK.val G) (ey C (af u 0) λUQ=>Calls prog 65 #[UQ.val] C λe Uw=>∃ (UX:an) (Y B:Nat),cf.ex λU0=>e=.returned (.tuple #[ae UX Y B,U0.val])/\a_ Uw (af u 0) 0 U0.cells λF=>jM F (af u 24) λUE=>cond (!UE) (bG F (af u 1) λUo=>cm 66 #[a' a,ab Uo,ae UX Y B] F λUp V=>cond (Up != 0) (cE V (af u 24) (ad true) λUr=>cE Ur (af u 25) (ad true) λZ=>ey Z (af u 0) λJ=>a_ Z (af A 0) 0 J.cells λO=>ey O (af A 0) λUq=>O=O/\R Uq.val O) (ey V (af u 0) λUS=>a_ V (af A 0) 0 US.cells λQ=>ey Q (af A 0) λUM=>Q=Q/\R UM.val Q)) (ey F (af u 0) λUO=>a_ F (af A 0) 0 UO.cells λT=>ey T (af A 0) λUF=>T=T/\R UF.val T))))))):=by kernel_rfl
theorem SU (Vj:cf):bd prog f65 [Vj.val] R w=(aQ w Vj.cells.toArray 45 λu Va=>aQ Va #[ab 0,ab 0,ab 0,ab 0,ab 0,ab 0,ab 0,ah 0,ab 0,ab 0,ab 0,ab 0,a3,a3,a3,ab 0,ab 0,ab 0,ab 0,a3,ab 0,ab 0,ah 0,a3,ad false,ad false,ab 0,ab 0,a3,ab 0,a3,ah 0,ab 0,ab 0,ab 0,ab 0] 45 λD B=>bG B (af u 0) λa=>cond (a == 1) (RI B (af u 2) λU8=>b0 B (af u 23) λb c d=>Calls prog 90 #[U8.val,ae b c d] B λe UZ=>∃ (f:an) (g h:Nat),pB.ex λUl=>∃ (i:Bool),e=.returned (.tuple #[ae f g h,Ul.val,ad i])/\aQ UZ #[ab 0,ab 0,ab 0,a3,ab 0,ad false,ah 0,a3,a3,a3] 163 λG UB=>a_ UB (af G 0) 0 Ul.cells λUS=>cu US λUu j=>cP j (af G 0) λk=>y_ j (af G 2) λY=>cP j (af G 4) λl=>e1 j (af G 9) λm n o=>cE Uu (af u 24) (ad i) λS=>j S/\cE S (af u 26) (ab k) λJ=>j J/\a_ J (af u 27) 0 Y.cells λVn=>j Vn/\cE Vn (af u 29) (ab l) λU=>j U/\cE U (af u 30) (ae m n o) λUG=>cu UG λUQ U6=>rh U6 (af u 0) λr=>a_ UQ (af D 0) 0 r.cells λH=>ey H (af D 0) λUA=>H=H/\R (.tuple #[ae f g h,UA.val]) H) (cond (a == 2) (RJ B (af u 3) λU0=>b0 B (af u 23) λp q s=>Calls prog 91 #[U0.val,ae p q s] B λe UW=>∃ (t:an) (v x:Nat),pJ.ex λI=>∃ (y:Bool),e=.returned (.tuple #[ae t v x,I.val,ad y])/\aQ UW #[ab 0,ah 0,ab 0] 167 λP Vc=>a_ Vc (af P 0) 0 I.cells λUq=>cu Uq λUr M=>cP M (af P 0) λz=>js M (af P 1) λU9=>cE Ur (af u 24) (ad y) λVm=>M Vm/\cE Vm (af u 26) (ab z) λVh=>M Vh/\cE Vh (af u 31) (ah U9) λU4=>cu U4 λUI UD=>rh UD (af u 0) λUO=>a_ UI (af D 0) 0 UO.cells λa5=>ey a5 (af D 0) λUs=>a5=a5/\R (.tuple #[ae t v x,Us.val]) a5) (cond (a == 3) (y' B (af u 8) λUn=>b0 B (af u 23) λVb UM UC=>Calls prog 92 #[Un.val,ae Vb UM UC] B λe U1=>∃ (Vg:an) (Q Z:Nat),bq.ex λVi=>∃ (W:Bool),e=.returned (.tuple #[ae Vg Q Z,Vi.val,ad W])/\aQ U1 #[ab 0,ab 0] 171 λO UR=>a_ UR (af O 0) 0 Vi.cells λU2=>cu U2 λUt N=>cP N (af O 0) λUy=>cP N (af O 1) λUz=>cE Ut (af u 24) (ad W) λX=>N X/\cE X (af u 26) (ab Uy) λT=>N T/\cE T (af u 32) (ab Uz) λVe=>cu Ve λUT Um=>rh Um (af u 0) λUV=>a_ UT (af D 0) 0 UV.cells λa8=>ey a8 (af D 0) λU_=>a8=a8/\R (.tuple #[ae Vg Q Z,U_.val]) a8) (cond (a == 4) (EU B (af u 15) λU3=>b0 B (af u 23) λUF Uv A=>Calls prog 93 #[U3.val,ae UF Uv A] B λe U5=>∃ (Vo:an) (Vf V:Nat),dj.ex λUi=>∃ (Uk:Bool),e=.returned (.tuple #[ae Vo Vf V,Ui.val,ad Uk])/\aQ U5 #[ab 0,ab 0,ab 0,ab 0,ah 0] 175 λF Vd=>a_ Vd (af F 0) 0 Ui.cells λUX=>cu UX λUH E=>cP E (af F 0) λUY=>cP E (af F 1) λUL=>cP E (af F 2) λU7=>cP E (af F 3) λUx=>cE UH (af u 24) (ad Uk) λUj=>E Uj/\cE Uj (af u 26) (ab UY) λVl=>E Vl/\cE Vl (af u 33) (ab UL) λiB=>E iB/\cE iB (af u 34) (ab U7) λVk=>E Vk/\cE Vk (af u 35) (ab Ux) λUK=>cu UK λUE U'=>rh U' (af u 0) λUU=>a_ UE (af D 0) 0 UU.cells λK=>ey K (af D 0) λUN=>K=K/\R (.tuple #[ae Vo Vf V,UN.val]) K) (cE B (af u 24) (ad true) λUw=>cE Uw (af u 25) (ad true) λC=>cu C λUJ Up=>rh Up (af u 0) λUP=>a_ UJ (af D 0) 0 UP.cells λL=>ey L (af D 0) λUo=>L=L/\R (.tuple #[a3,Uo.val]) L))))):=by kernel_rfl
end
namespace dr
def conv:Conv:=⟨b_ ⊕ bz,(Int×Int) ⊕ dj,λj G=>match j with
 | .inl j=>((cX j G).1,.inl (cX j G).2.1,(cX j G).2.2)
 | .inr j=>((gp j G).1,.inr (gp j G).2.1,(gp j G).2.2)⟩
def KT (j:conv.a8):Int:=match j with
 | .inl _=>3
 | .inr _=>4
structure pj (A:a2) (w:al) (r:cN) (j:bz):Prop where
 at_:p6 w r j
 view:fG A w r.View j.v
theorem pj.ax {A A':a2} {w w':al} {r:cN} {j:bz} (h:pj A w r j) (d:ao A w w') (c:∀ k,k<w.heap.size->A' k->A k):pj A' w' r j:=by obtain ⟨a,aj⟩:=h;have b:=dq.fG.ax aj d c;exact ⟨⟨a.aP,a.inc,a.lines,⟨A',b⟩,a.dead,a.dL,a.prev,a.u64⟩,b⟩
def uN (A:a2) (w:al) (r:cf) (j:conv.a8):Prop:=match j with
 | .inl j=>dq.ph A w r.ie j
 | .inr j=>pj A w r.Recover j
def uU (A:a2) (w:al) (r:cf) (o:conv.O):Prop:=match o with
 | .inl o=>r.Code=o.1/\r.pg=o.2
 | .inr o=>r.Code=o.Code/\r.iH=o.iH/\r.Seq=o.Seq/\r.j1=o.j1
theorem uN.ax {A A':a2} {w w':al} {r:cf} {j:conv.a8} (h:uN A w r j) (b:ao A w w') (a:∀ k,k<w.heap.size->A' k->A k):uN A' w' r j:=by
 cases j with
 |inl j=>exact dq.ph.ax h b a
 |inr j=>exact pj.ax h b a
theorem uU.ax {A A':a2} {w w':al} {r:cf} {o:conv.O} (h:uU A w r o) (b:ao A w w') (a:∀ k,k<w.heap.size->A' k->A k):uU A' w' r o:=by
 cases o with
 |inl o=>exact h
 |inr o=>exact h
end dr
section
open dq
structure lC where
 bK:Nat
 cq:Nat->Option aC
end
section
open dq
theorem H1 {α:Type} {k:Nat} (g:0<k):∀ {gW:List (List α)} {q:Nat} {v:α},(∀ b ∈ gW,b.length=k)->gW.flatten[q]?=some v->∃ (i:Nat) (b:List α),gW[i]?=some b/\i * k<=q/\b[q - i * k]?=some v
 | [],q,v,_,h=>by simp at h
 |b::gW,q,v,a,h=>by
  have n:=a b d_;rw [hr] at h;by_cases j:q<b.length
  ·rw [jd j] at h;exact ⟨0,b,rfl,by omega,by simpa using h⟩
  ·rw [jv (by omega)] at h;obtain ⟨i,c,d,l,e⟩:=H1 g (λc f=>a c (e2 _ f)) h;refine ⟨i+1,c,by simpa using d,by rw [hK];omega,?_⟩;rw [hK,<-e];congr 1;omega
theorem uf {α:Type} {k:Nat}:∀ {gW:List (List α)} {i r:Nat} {b:List α} {v:α},(∀ b ∈ gW,b.length=k)->gW[i]?=some b->b[r]?=some v->gW.flatten[i * k+r]?=some v
 | [],i,r,b,v,_,h,_=>by simp at h
 |c::gW,0,r,b,v,d,h,a=>by simp at h;subst h;rw [hr,jd (by have:=cz a;omega),tQ,gG];exact a
 |c::gW,i+1,r,b,v,d,h,a=>by have f:=d c d_;rw [hr,jv (by rw [hK];omega),f,hK,show i * k+k+r - k=i * k+r by omega];exact uf (λc e=>d c (e2 _ e)) (by simpa using h) a
section
variable {E:Env} {l:List aR}
theorem Df {q:Nat} {v:aG} (h:(j3 E l)[q]?=some v):∃ m,m+1<E.n/\v.node=((m+1:Nat):Int)/\((∃ p ∈ l,v=ep (m+1) p)\/(v=b5 (m+1) 32 [gP E]/\∀ p ∈ l,∃ q',q'<q/\(j3 E l)[q']?=some (ep (m+1) p))):=by
 have e:∀ b ∈ (List.range (E.n - 1)).map (λm=>l.map (ep (m+1))++[b5 (m+1) 32 [gP E]]),b.length=l.length+1:=λb e=>by obtain ⟨m,_,rfl⟩:=cD.1 e;simp
 obtain ⟨i,b,c,t,a⟩:=H1 (by omega) e h;have k:=cz c;simp only [fc,mj] at k;have f:=c;rw [eL,lA k] at c;simp only [nX,e7] at c;subst c;refine ⟨i,by omega,?_⟩;by_cases o:q - i * (l.length+1)<l.length
 ·rw [jd (by simpa using o),eL] at a;obtain ⟨p,g,rfl⟩:=nW.1 a;exact ⟨rfl,.inl ⟨p,cj g,rfl⟩⟩
 ·rw [jv (by simpa using o)] at a;have:=cz a;simp only [fc,List.length_singleton] at this;have s:q - i * (l.length+1) - (l.map (ep (i+1))).length=0:=by simp only [fc];omega
  rw [s] at a;simp only [qd,e7] at a;subst a;refine ⟨rfl,.inr ⟨rfl,λp g=>?_⟩⟩;obtain ⟨r,d⟩:=gh.1 g;have j:=cz d;refine ⟨i * (l.length+1)+r,by omega,uf e f ?_⟩;rw [jd (by simpa using j),eL,d];rfl
theorem Dg {q:Nat} {v:aG} (h:(lY E l)[q]?=some v):v.node=0/\((q=0/\v=b5 0 32 [gP E])\/(0<q/\∃ p ∈ l,v=ep 0 p)):=by
 cases q with
 |zero=>simp [lY] at h;subst h;exact ⟨rfl,.inl ⟨rfl,rfl⟩⟩
 |succ q=>unfold lY at h;rw [qc,eL] at h;obtain ⟨p,a,rfl⟩:=nW.1 h;exact ⟨rfl,.inr ⟨by omega,p,cj a,rfl⟩⟩
theorem C5 (aJ:dP E) {m:Nat} (hm:m<E.n) {p:aR} (b:p ∈ gu E):et E.n E.L (ep m p):=by have d:=aJ.pl b;have a:=aJ.e.n;have c:=aJ.e.L;exact ng a.2 hm (by omega) (by omega) (by show 1<=8;omega) (by show 8<=1000;omega) (by show p.bm * 8+(8:Int)<=_;omega)
theorem C6 (aJ:dP E) {m:Nat} (hm:m<E.n):et E.n E.L (b5 m 32 [gP E]):=by have a:=aJ.e.n;have b:=aJ.e.L;exact ng a.2 hm (by omega) (by omega) (by simp) (by simp) (by simp;omega)
end
theorem Ob {p:cF} {x:aH} {hJ:List aG} {m a:Nat} {ws:a4} (i:gk p) (d:p.a6=b5 m a ws::hJ) (l:p.refusal (b5 m a ws) x=0) (j:a % 8=0) (aA:p.words=[]) (k:a+ws.length<=x.words.length) (h:ws.length<=8):p.step x=(p.done,x.write a ws,some ⟨0,[]⟩):=by
 obtain ⟨n,b,_,_,c⟩:=Dh i d l j aA k;have e:p.bO=0:=by omega
 rw [e] at b c;rcases c with c | ⟨_,f,g⟩
 ·omega
 ·have hw:(ws.drop (8 * 0)).take 8=ws:=by rw [Nat.mul_zero,tS,gb h]
  rw [hw] at b;exact Prod.ext f (Prod.ext b g)
section
variable {E:Env} {ns:List aH} {l:List aR}
end
end
section
open dq
section
variable {E:Env} {ns:List aH} {i m:Nat} {x jc:aH}
end
end
section
open dq
theorem db.pl {E:Env} {i:Nat} {j:b_} (h:db E i j) {p:aR} (c:p ∈ j.writes):p.bm=((p.bm.toNat:Nat):Int)/\96<=p.bm.toNat/\p.bm.toNat<E.L:=by obtain ⟨l,e,a,b⟩:=h.line p c;rw [e,fT];exact ⟨rfl,a,b⟩
end
section
open dq
section
variable {E:Env} {i:Nat} {j:b_}
end
end
section
open dq
section
variable {n L:Nat} {p:cF} {x:aH} {hJ:List aG}
end
section
variable {E:Env} {i:Nat} {j:b_}
theorem B3 (aJ:gN E) (h:db E i j) {m:Nat} (hm:m<E.n):et E.n E.L (b5 m (56+120 * (i:Int)) (eD j.seq j.writes))/\et E.n E.L (b5 m (48+120 * (i:Int)) [eg j.seq]):=by have a:=h.i6;have c:=h.dM;have b:=aJ.L;have e:=aJ.n;have d:=kE j.seq j.writes;exact ⟨ng (by omega) hm (by omega) (by omega) (by omega) (by omega) (by omega),ng (by omega) hm (by omega) (by omega) (by simp) (by simp) (by simp;omega)⟩
theorem w7 (p:aR):(hc p).length=8:=rfl
theorem MJ (aJ:gN E) (h:db E i j) {m:Nat} (hm:m<E.n) {p:aR} (a:p ∈ j.writes):et E.n E.L (ep m p):=by obtain ⟨e,b6,l2⟩:=h.pl a;have b:=aJ.L;have c:=aJ.n;exact ng (by omega) hm (by omega) (by omega) (by rw [w7];omega) (by rw [w7];omega) (by rw [w7];omega)
theorem NR (aJ:gN E) (h:db E i j) {m:Nat} (hm:m<E.n) (seq:Int):et E.n E.L (jC i seq m):=by have a:=h.i6;have b:=aJ.L;have c:=aJ.n;exact ng (by omega) hm (by omega) (by omega) (by simp) (by simp) (by simp;omega)
theorem L_ (aJ:gN E) (h:db E i j) {p:aR} (a:p ∈ j.writes) (o w:Int):et E.n E.L (mz (p.bm * 8) o w):=by obtain ⟨e,b6,l2⟩:=h.pl a;have b:=aJ.L;have c:=aJ.n;exact Nl (by omega) (by omega) (by omega) (by omega)
end
end
section
open dq
section
variable {E:Env} {ns:List aH} {i m q:Nat} {p:cF} {x:aH} {v:aG} {cq:Nat->Option aC} {D:List aC}
end
end
section
open dq
def mN (l:cH):Nat:=(l.pair.a6.map λv=>v.v.pieces.length).sum - l.pair.bO
def lX (C:bf):Nat:=(C.ay.map mN).sum
theorem B4:∀ {l:d9} {i:Nat} {a b:Nat},l[i]?=some a->(l.set i b).sum+a=l.sum+b
 | [],i,a,b,h=>by simp at h
 |x::l,0,a,b,h=>by simp only [qd,e7] at h;subst h;simp only [tM,m2];omega
 |x::l,i+1,a,b,h=>by have:=B4 (l:=l) (i:=i) (a:=a) (b:=b) (by simpa using h);simp only [zV,m2];omega
def ux (p:cF):Prop:=∀ v hJ,p.a6=v::hJ->v.kind=2->p.words=[]
theorem KV {p:cF} {n:aH} (aA:ux p):ux (p.step n).1:=by
 unfold cF.step;cases aj:p.a6 with
 |nil=>exact aA
 |cons x xs=>
  simp only;split
  ·exact λ_ _ _ _=>rfl
  ·split
   ·intro v hJ e a;have e:x::xs=v::hJ:=e;cases e;show p.words++(exec x _ n).2=[];rw [aA x xs aj a];unfold exec;rw [if_neg (by omega),if_pos a];rfl
   ·exact λ_ _ _ _=>rfl
def t7 (C:bf):Prop:=∀ (k:Nat) (l:cH),C.ay[k]?=some l->l.pair.a6=[]
end
section
open dq
def cost (vs:List aG):Nat:=(vs.map λv=>v.v.pieces.length).sum
theorem tX {k:Nat}:∀ {vs:List aG},(∀ v ∈ vs,v.v.count.toNat<=k)->cost vs<=vs.length * k
 | [],_=>by simp [cost]
 |v::vs,h=>by
  have a:=tX λu hu=>h u (e2 _ hu)
  have b:=h v d_;have c:v.v.pieces.length<=v.v.count.toNat:=pI _ _ _;unfold cost at a ⊢;simp only [g',m2,fU];rw [hK];omega
section
variable {E:Env} {i:Nat} {j:b_}
theorem w8 (a b:List aG):cost (a++b)=cost a+cost b:=by simp [cost]
variable (aJ:gN E) (h:db E i j)
include aJ h
end
end
section
open dq
theorem KW {α:Type} {l:List α} {i:Nat} {a:α} (h:l[i]?=some a):l.set i a=l:=by
 apply kr;intro k;by_cases e:i=k
 ·subst e;rw [ei (cz h),h]
 ·rw [gg e]
def mP (F:aB) (i:Nat) (C:bf):aB:={ F with aU:=F.aU.set i C }
theorem B5 {F:aB} {i:Nat} {C:bf} (a:F.aU[i]?=some C) (b:C.alive=true) (hw:C.waiting=0):F.take (i:Int)=(C.batch,mP F i { C with batch:=none }):=by
 unfold aB.take;rw [iw,a];simp only;rw [if_neg (by rw [b];simp)];cases c:C.batch with
 |none=>
  have e:({ C with batch:=none }:bf)=C:=by rw [<-c]
  simp only;rw [e];unfold mP;rw [KW a]
 |some ds=>simp only;rw [if_neg (by omega)];rfl
theorem kw {n L:Nat} {N:Int} (a:(n:Int)=N) (b:n<=5):∀ {vs:List aG},(∀ v ∈ vs,et n L v)->gy N L vs=0
 | [],_=>rfl
 |v::vs,h=>by unfold gy;rw [if_neg (by rw [(h v d_).valid N (by omega) (by omega)];simp)];exact kw a b λu hu=>h u (e2 _ hu)
theorem L' {F:aB} {i n L:Nat} {C:bf} {vs:List aG} (b:F.aU[i]?=some C) (d:C.alive=true) (f:C.batch=none) (aj:vs≠[]) (j:vs.length<=1024) (h:F.nodes.length=n) (a:n<=5) (c:F.lines=L) (g:∀ v ∈ vs,et n L v):F.post (i:Int) vs=(0,mP F i (C.jL vs)):=by
 unfold aB.post;rw [iw,b];simp only;rw [if_neg (by rw [d];simp),if_neg (by rw [f];simp),if_neg (λe=>aj (nY.1 e)),if_neg (by omega),if_neg]
 ·rfl
 ·rw [c,kw (n:=n) (by rw [h]) a g];simp
def g5 {cv:Conv} (t:bL cv) (C:bf):List (List aC):=match C.batch with
 |none=>t.a7
 |some ds=>t.a7++[ds]
theorem B6 {cv:Conv} (t:bL cv) (C:bf):t.qU C.batch={ t with a7:=g5 t C }:=by unfold g5 bL.qU;cases C.batch<;>rfl
theorem I2 {cv:Conv} {F:aB} {i n L:Nat} {C:bf} {t:bL cv} (a:F.aU[i]?=some C) (d:C.alive=true) (hw:C.waiting=0) (b:t.aP=(i:Int)) (r:t.e0=false) (l:(g5 t C).length<=200) {vs:List aG} {o:cv.O} (h:cv.next t.bs (g5 t C)=(vs,o,false)) (aj:vs≠[]) (p:vs.length<=1024) (q:F.nodes.length=n) (f:n<=5) (j:F.lines=L) (k:∀ v ∈ vs,et n L v) :
  b4 F t=(mP F i (({ C with batch:=none }:bf).jL vs),{ t with a7:=g5 t C,e0:=false,out:=o }):=by
 have e:F.alive t.aP=true:=by unfold aB.alive;rw [b,iw,a];exact d
 have g:F.waiting t.aP=0:=by unfold aB.waiting;rw [b,iw,a];exact hw
 unfold b4;rw [if_neg (by rw [r,e,g];simp),b,B5 a d hw];simp only;rw [B6];unfold hE;simp only;rw [if_neg (by omega),h];simp only;rw [if_neg (by simp),b];have c:(mP F i { C with batch:=none }).aU[i]?=some { C with batch:=none }:=ei (cz a);rw [L' (F:=mP F i { C with batch:=none }) c d rfl aj p q f j k];rw [if_neg (by simp)];unfold bL.told;simp only;rw [h];unfold mP;simp only [mi]
theorem I3 {cv:Conv} {F:aB} {i:Nat} {C:bf} {t:bL cv} (b:F.aU[i]?=some C) (e:C.alive=true) (hw:C.waiting=0) (a:t.aP=(i:Int)) (h:t.e0=false) (g:(g5 t C).length<=200) {o:cv.O} (f:cv.next t.bs (g5 t C)=([],o,true)) :
  b4 F t=(mP F i { C with batch:=none },{ t with a7:=g5 t C,e0:=true,out:=o }):=by
 have c:F.alive t.aP=true:=by unfold aB.alive;rw [a,iw,b];exact e
 have d:F.waiting t.aP=0:=by unfold aB.waiting;rw [a,iw,b];exact hw
 unfold b4;rw [if_neg (by rw [h,c,d];simp),a,B5 b e hw];simp only;rw [B6];unfold hE;simp only;rw [if_neg (by omega),f];simp only;rw [if_pos trivial];unfold bL.told;simp only;rw [f,a]
theorem Ma {C:bf} {k:Nat} {v:aG} (he:∀ (m:Nat) (l:cH),C.ay[m]?=some l->l.pair.bO=0) (h:v.node.toNat<C.ay.length):lX (C.eK k v)=lX C+v.v.pieces.length/\∀ (m:Nat) (l:cH),(C.eK k v).ay[m]?=some l->l.pair.bO=0:=by
 have c:∀ m,(C.eK k v).ay[m]?=(C.ay[m]?).map λl=>if v.node.toNat=m then (⟨{ l.pair with a6:=l.pair.a6++[v] },l.bt++[k]⟩:cH) else l:=λm=>by
  unfold bf.eK;simp only [qf];cases C.ay[m]? with
  |none=>rfl
  |some l=>by_cases e:v.node.toNat=m<;>simp [e]
 obtain ⟨c3,d⟩:∃ l,C.ay[v.node.toNat]?=some l:=⟨_,bM h⟩;have f:(C.eK k v).ay.map mN=(C.ay.map mN).set v.node.toNat (mN c3+v.v.pieces.length):=by
  apply kr;intro m;rw [eL,c];by_cases e:v.node.toNat=m
  ·subst e;rw [ei (by simpa using h),d];simp only [nX,if_true];congr 1;have:=he _ c3 d;unfold mN;simp [this]
  ·rw [gg e,eL];cases C.ay[m]? with
   |none=>rfl
   |some l=>simp [e]
 refine ⟨?_,λm l hm=>?_⟩
 ·unfold lX;rw [f];have:=B4 (l:=C.ay.map mN) (i:=v.node.toNat) (a:=mN c3) (b:=mN c3+v.v.pieces.length) (by rw [eL,d];rfl);omega
 ·rw [c] at hm;cases g:C.ay[m]? with
  |none=>rw [g] at hm;cases hm
  |some b6=>
   rw [g] at hm;simp only [nX,e7] at hm;subst hm;have:=he m b6 g;split
   ·exact this
   ·exact this
theorem Bf:∀ (vs:List aG) {C:bf} {k:Nat},(∀ (m:Nat) (l:cH),C.ay[m]?=some l->l.pair.bO=0)->(∀ v ∈ vs,v.node.toNat<C.ay.length)->lX (C.eS k vs)=lX C+cost vs
 | [],C,k,he,a=>by simp [bf.eS,cost]
 |v::vs,C,k,he,a=>by
  obtain ⟨b,c⟩:=Ma (k:=k) he (a v d_);have d:(C.eK k v).ay.length=C.ay.length:=by simp [bf.eK]
  have:=Bf vs (k:=k+1) c (λu hu=>by rw [d];exact a u (e2 _ hu));show lX ((C.eK k v).eS (k+1) vs)=_;rw [this,b];unfold cost;simp only [g',m2];omega
theorem z5:∀ (vs:List aG) (C:bf) (k:Nat),(C.eS k vs).ay.length=C.ay.length/\(C.eS k vs).inc=C.inc
 | [],C,k=>⟨rfl,rfl⟩
 |v::vs,C,k=>by obtain ⟨a,b⟩:=z5 vs (C.eK k v) (k+1);exact ⟨a.trans (by simp [bf.eK]),b⟩
theorem I4 {C:bf} (h:t7 C):lX C=0:=by
 unfold lX;have:∀ ls:List cH,(∀ l ∈ ls,l.pair.a6=[])->(ls.map mN).sum=0:=λls=>by
  induction ls with
  |nil=>intro _;rfl
  |cons l ls d=>intro a;rw [g',m2,d λx c=>a x (e2 _ c)];unfold mN;rw [a l d_];simp
 exact this C.ay λl a=>by obtain ⟨k,b⟩:=gh.1 a;exact h k l b
end
section
open dq
structure Jl (E:Env) (ns:List aH) (i j:Nat) (C:bf) (vs:List aG) (cq:Nat->Option aC) (l:cH) (x:aH) (v:aG) (hJ:List aG) (q:Nat) (cn:d9):Prop where
 lane:C.ay[j]?=some l
 node:ns[j]?=some x
 iU:l.pair.a6=v::hJ
 pl:l.bt=q::cn
 at_:vs[q]?=some v
 nd:v.node.toNat=j
 cq:cq q=none
 pc:l.pair.aP=(i:Int)
 pi:l.pair.inc=1
 ca:gk l.pair
 pA:ux l.pair
theorem Hk {C:bf} {j:Nat} {l:cH} (h:C.ay[j]?=some l) (p:cF) (d:Option aC):∃ l',(C.comes j l p d).ay[j]?=some l'/\l'.pair=p:=by
 have a:=cz h;cases d with
 |none=>exact ⟨{ l with pair:=p },by simp [bf.comes,a],rfl⟩
 |some d=>exact ⟨⟨p,l.bt.tail⟩,by simp [bf.comes,a],rfl⟩
theorem xf {cq:Nat->Option aC} {q q':Nat} {d a:aC} (h:mY cq q d q'=some a):(q'=q/\a=d)\/(q'≠q/\cq q'=some a):=by
 by_cases e:q'=q
 ·subst e;rw [wK] at h;cases h;exact .inl ⟨rfl,rfl⟩
 ·rw [rV e] at h;exact .inr ⟨e,h⟩
theorem KZ {cq:Nat->Option aC} {q q':Nat} {d:aC} (h:mY cq q d q'=none):q'≠q/\cq q'=none:=by
 by_cases e:q'=q
 ·subst e;rw [wK] at h;cases h
 ·rw [rV e] at h;exact ⟨e,h⟩
section
variable {E:Env} {g:lC}
theorem Cx (aJ:dP E) {bK q:Nat} {v:aG} (h:(eG E bK)[q]?=some v):et E.n E.L v/\v.v.Kind≠1:=by
 have b:=aJ.e.n;have d:=aJ.e.L;have c:=aJ.yx
 match bK,h with
 | 0,h=>simp only [eG,eL] at h;obtain ⟨m,hm,rfl⟩:=nW.1 h;have:=dS.1 (cj hm);exact ⟨ng b.2 this (by omega) (by omega) (by omega) (by omega) (by rw [c.1];omega),by show (2:Int)≠1;omega⟩
 | 1,h=>simp only [eG,eL] at h;obtain ⟨p,a,rfl⟩:=nW.1 h;have f:=aJ.pl (cj a);exact ⟨sg b.2 (by omega) (by omega) (by omega) (by omega),by show (3:Int)≠1;omega⟩
 | 2,h=>simp only [eG,eL] at h;obtain ⟨m,hm,rfl⟩:=nW.1 h;have:=dS.1 (cj hm);exact ⟨ng b.2 this (by omega) (by omega) (by simp) (by simp) (by simp;omega),by show (2:Int)≠1;omega⟩
 | 3,h=>
  obtain ⟨m,hm,_,⟨p,a,rfl⟩ | ⟨rfl,_⟩⟩:=Df h
  ·exact ⟨C5 aJ hm a,by show (2:Int)≠1;omega⟩
  ·exact ⟨C6 aJ hm,by show (2:Int)≠1;omega⟩
 |n+4,h=>
  obtain ⟨_,⟨_,rfl⟩ | ⟨_,p,a,rfl⟩⟩:=Dg (show (lY E (gu E))[q]?=some v from h)
  ·exact ⟨C6 aJ (by omega),by show (2:Int)≠1;omega⟩
  ·exact ⟨C5 aJ (by omega) a,by show (2:Int)≠1;omega⟩
end
end
section
open dq
theorem tk {α:Type} {k:Nat}:∀ {gW:List (List α)},(∀ b ∈ gW,b.length=k)->gW.flatten.length=gW.length * k
 | [],_=>by simp
 |b::gW,h=>by rw [hr,c8,h b d_,tk λc a=>h c (e2 _ a),fU,hK,Nat.add_comm]
section
variable {E:Env} {rs:d9} {c:Nat}
end
end
section
open dq
structure ni (n:Nat) (C:bf):Prop where
 inc:C.inc=1
 live:C.alive=true
 ay:C.ay.length=n
 pA:∀ (k:Nat) (l:cH),C.ay[k]?=some l->ux l.pair
theorem ni.comes {n:Nat} {C:bf} (h:ni n C) {m:Nat} {l:cH} (b:C.ay[m]?=some l) (x:aH):ni n (C.comes m l (l.pair.step x).1 (l.pair.step x).2.2):=by
 refine ⟨?_,(HA C m l _ _).trans h.live,?_,λk l' a=>?_⟩
 ·cases (l.pair.step x).2.2<;>exact h.inc
 ·cases (l.pair.step x).2.2<;>simp [bf.comes,h.ay]
 ·by_cases e:k=m
  ·subst e;obtain ⟨l2,c,d⟩:=Hk b (l.pair.step x).1 (l.pair.step x).2.2;rw [c] at a;cases a;rw [d];exact KV (h.pA k l b)
  ·rw [ld e] at a;exact h.pA k l' a
theorem Oc {E:Env} {F:aB} (p:cb F) {i j:Nat} {C:bf} {l:cH} {x:aH} (k:F.aU[i]?=some C) (o:ni E.n C) (b:C.ay[j]?=some l) (r:F.nodes[j]?=some x) (aj:l.pair.a6≠[]) {vs:List aG} {cq:Nat->Option aC} (e:iE C vs cq):∃ v hJ q cn,Jl E F.nodes i j C vs cq l x v hJ q cn:=by obtain ⟨v,hJ,d⟩:=zX aj;obtain ⟨q,cn,g,h,a,f⟩:=(e.lane j l b).head d;have c:=(p.ca.ok.aP i C k).lane j l b;exact ⟨v,hJ,q,cn,b,r,d,g,h,a,f,c.aP,c.inc.trans o.inc,p.ca.cC C (cj k) l (cj b),o.pA j l b⟩
section
variable {E:Env} {rs:d9} {F cw:aB} {g:lC}
end
end
end Go.Proofs.YtmkljjbioomepaaGreat
