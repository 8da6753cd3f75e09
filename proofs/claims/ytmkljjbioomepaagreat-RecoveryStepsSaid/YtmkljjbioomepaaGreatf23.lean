import Derived.Test.YtmkljjbioomepaaGreatProg
import Derived.Test.YtmkljjbioomepaaGreatf02
import Derived.Test.YtmkljjbioomepaaGreatf16
import Derived.Test.YtmkljjbioomepaaGreatf22
set_option linter.all false
set_option maxHeartbeats 4000000
set_option maxRecDepth 100000
namespace Go.Proofs.YtmkljjbioomepaaGreat
open Go.Proofs.Tryz Go.bd
section
open IntKind
variable (w:aj)(R:bg){a b c d e f g h:Nat}{s t u v:an}{i k l:Int}{A:aw}{j:al}
def ya (e:aw)(s1:an)(a b:Nat)(s2:an)(c d:Nat)(n:an)(f g:Nat)(o:Int)(h:an)(i k:Nat)(l:Int)(j:al):al:=.pointer (some e)::af s1 a b::af s2 c d::af n f g::ab o::ae j 0 6 (af h i k::ab l::ae j 6 82 [])
def HV (a:aw)(s1:an)(b c:Nat)(s2:an)(d f:Nat)(e:an)(g h:Nat)(n:Int)(i:an)(k l:Nat)(j:al):al:=.pointer (some a)::af s1 b c::af s2 d f::af e g h::ab n::ae j 0 6 (af i k l::ae j 6 83 [])
def yb (e:aw)(s1:an)(a b:Nat)(s2:an)(c d:Nat)(n:an)(f g:Nat)(o:Int)(h:an)(i k:Nat)(l:Int)(j:al):al:=.pointer (some e)::af s1 a b::af s2 c d::af n f g::ab o::ae j 0 6 (af h i k::ae j 6 1 (ab l::ae j 7 81 []))
def yc (a:aw)(s1:an)(b c:Nat)(j:al):al:=.pointer (some a)::af s1 b c::ae j 0 93 []
def ve (e:aw)(s1:an)(a b:Nat)(s2:an)(c d:Nat)(n:an)(f g:Nat)(o:Int)(h:an)(i k:Nat)(l m:Int)(j:al):al:=.pointer (some e)::af s1 a b::af s2 c d::af n f g::ab o::ae j 0 6 (af h i k::ae j 6 1 (ab l::ab m::ae j 7 80 []))
def HW (a:aw)(s1:an)(b c:Nat)(s2:an)(d f:Nat)(e:an)(g h:Nat)(n:Int)(i:an)(k l:Nat)(m:Int)(j:al):al:=.pointer (some a)::af s1 b c::af s2 d f::af e g h::ab n::ae j 0 6 (af i k l::ae j 6 1 (ab m::ae j 7 81 []))
def yd (d:aw)(s1:an)(a b:Nat)(c:Int)(j:al):al:=.pointer (some d)::af s1 a b::ae j 0 14 (ab c::ae j 14 78 [])
def HX (s1:an)(a b:Nat)(j:al):al:=ae j 0 1 (af s1 a b::ae j 1 93 [])
def ye (e:aw)(s1:an)(a b:Nat)(s2:an)(c d:Nat)(n:an)(f g:Nat)(o:Int)(h:an)(i k:Nat)(l m:Int)(j:al):al:=.pointer (some e)::af s1 a b::af s2 c d::af n f g::ab o::ae j 0 6 (af h i k::ae j 6 1 (ab l::ae j 7 1 (ab m::ae j 8 79 [])))
def HY (a:aw)(s1:an)(b c:Nat)(s2:an)(d f:Nat)(e:an)(g h:Nat)(n:Int)(i:an)(k l:Nat)(m:Int)(j:al):al:=.pointer (some a)::af s1 b c::af s2 d f::af e g h::ab n::ae j 0 6 (af i k l::ae j 6 1 (ab m::ae j 7 81 []))
theorem ZS:bc prog f15 [bb a,af s b c,af t d e,af u f g,ab i] R w=(da 46 (a4) (af s b c) w λk h j l=>cj prog (cN f15 [1,1,1,0,1,0,0]) (ya (ah a 0) k h j t d e u f g i none 0 0 0 (a1 5 (a4::a1 4 (af s b c::af k h j::a1 76 [])))) (aL 0 (aS f15 [1,1,1,1] R)) l):=by kernel_rfl
theorem V_ (q:al->aK):W prog (sb f15 [1,1,1,0,1,0,0]) (ya A s a b t c d u e f i v g h k j) (aM q (aL 0 (aS f15 [1,1,1,1] R))) w=(cond (k<(a:Nat)) (bk s a k 36 λp=>bN w (br p 1) λm=>aR w #[ab m] 3 λr x=>da 22 (af v g h) (af (bs r) 1 1) x λl n o y=>q (ya A s a b t c d u e f i l n o (i64.wrap (k+1)) (ae j 0 12 (ab k::af s a b::cd a::ad (k<(a:Nat))::ab k::ab (i64.wrap (k+1))::af v g h::af s a b::ab k::jp p::a7 p 1::ab m::af (bs r) 1 1::af l n o::ae j 26 62 []))) y) (W prog (sb f15 [1,1,1,1]) (HV A s a b t c d u e f i v g h (ae j 0 6 (ab k::ae j 6 6 (ab k::af s a b::cd a::ad (k<(a:Nat))::ae j 16 72 [])))) (bV f15 R) w)):=by kernel_rfl
theorem XO:W prog (sb f15 [1,1,1,1]) (HV A s a b t c d u e f i v g h j) (bV f15 R) w=(cj prog (cN f15 [1,1,1,1,0,1,0,0]) (yb A s a b t c d u e f i v g h 0 (ae j 0 7 (ae j 8 81 []))) (aL 2 (aS f15 [1,1,1,1,1] R)) w):=by kernel_rfl
theorem V' (m:al->aK):W prog (sb f15 [1,1,1,1,0,1,0,0]) (yb A s a b t c d u e f i v g h k j) (aM m (aL 2 (aS f15 [1,1,1,1,1] R))) w=(cond (k<i) (cj prog (cN f15 [1,1,1,1,0,1,0,0,1,0,0,0,1,0,0]) (ve A s a b t c d u e f i v g h k 0 (ae j 0 7 (ae j 8 18 (ab k::ab i::ad (k<i)::ae j 29 59 [])))) (aL 4 (aM (λl w=>W prog (sb f15 [1,1,1,1,0,1,0,0,1,0,0,1]) l (aL 3 (aM (λl w=>W prog (sb f15 [1,1,1,1,0,1,0,0,1,1]) l (aM m (aL 2 (aS f15 [1,1,1,1,1] R))) w) (aM m (aL 2 (aS f15 [1,1,1,1,1] R))))) w) (aL 3 (aM (λl w=>W prog (sb f15 [1,1,1,1,0,1,0,0,1,1]) l (aM m (aL 2 (aS f15 [1,1,1,1,1] R))) w) (aM m (aL 2 (aS f15 [1,1,1,1,1] R))))))) w) (W prog (sb f15 [1,1,1,1,1]) (yc A s a b (af t c d::af u e f::ab i::ae j 0 6 (af v g h::aB j 6::ab k::ae j 7 19 (ab k::ab i::ad (k<i)::ae j 29 59 [])))) (bV f15 R) w)):=by kernel_rfl
theorem XP:W prog (sb f15 [1,1,1,1,1]) (yc A s a b j) (bV f15 R) w=(cj prog (cN f15 [1,1,1,1,1,0,1,0,0]) (yd A s a b 0 (ae j 0 14 (ae j 15 78 []))) (aL 8 (aS f15 [1,1,1,1,1,1] R)) w):=by kernel_rfl
theorem Wa (p:al->aK)(x:al->aK):W prog (sb f15 [1,1,1,1,0,1,0,0,1,0,0,0,1,0,0]) (ve A s a b t c d u e f i v g h k l j) (aM x (aL 4 (aM (λm w=>W prog (sb f15 [1,1,1,1,0,1,0,0,1,0,0,1]) m (aL 3 (aM (λm w=>W prog (sb f15 [1,1,1,1,0,1,0,0,1,1]) m (aM p (aL 2 (aS f15 [1,1,1,1,1] R))) w) (aM p (aL 2 (aS f15 [1,1,1,1,1] R))))) w) (aL 3 (aM (λm w=>W prog (sb f15 [1,1,1,1,0,1,0,0,1,1]) m (aM p (aL 2 (aS f15 [1,1,1,1,1] R))) w) (aM p (aL 2 (aS f15 [1,1,1,1,1] R)))))))) w=(cond (l<(e:Nat)) (bk u e l 3 λq=>bN w q λy=>cx 12 #[ab y,ab 60] w λn z=>cond (n == k) (bk u e l 3 λo=>WB z o λr=>vy 33 #[.pointer (some A),af v g h,r.val] z λB=>x (ve A s a b t c d u e f i v g h k (i64.wrap (l+1)) (ae j 0 30 (ab l::af u e f::cd e::ad (l<(e:Nat))::ab l::ab (i64.wrap (l+1))::af u e f::ab l::jp q::jp q::ab y::ab n::ab k::ad ((n:Int) == k)::jp A::af v g h::af u e f::ab l::jp o::r.val::.tuple #[]::ae j 51 36 []))) B) (x (ve A s a b t c d u e f i v g h k (i64.wrap (l+1)) (ae j 0 30 (ab l::af u e f::cd e::ad (l<(e:Nat))::ab l::ab (i64.wrap (l+1))::af u e f::ab l::jp q::jp q::ab y::ab n::ab k::ad ((n:Int) == k)::ae j 44 43 []))) z)) (W prog (sb f15 [1,1,1,1,0,1,0,0,1,0,0,1]) (HW A s a b t c d u e f i v g h k (ae j 0 7 (ab l::ae j 7 23 (ab l::af u e f::cd e::ad (l<(e:Nat))::ae j 34 53 [])))) (aL 3 (aM (λm w=>W prog (sb f15 [1,1,1,1,0,1,0,0,1,1]) m (aM p (aL 2 (aS f15 [1,1,1,1,1] R))) w) (aM p (aL 2 (aS f15 [1,1,1,1,1] R))))) w)):=by kernel_rfl
theorem XQ (m:al->aK):W prog (sb f15 [1,1,1,1,0,1,0,0,1,0,0,1]) (HW A s a b t c d u e f i v g h k j) (aL 3 (aM (λl w=>W prog (sb f15 [1,1,1,1,0,1,0,0,1,1]) l (aM m (aL 2 (aS f15 [1,1,1,1,1] R))) w) (aM m (aL 2 (aS f15 [1,1,1,1,1] R))))) w=(cj prog (cN f15 [1,1,1,1,0,1,0,0,1,0,0,1,0,1,0,0]) (ye A s a b t c d u e f i v g h k 0 (ae j 0 8 (ae j 9 79 []))) (aL 6 (aM (λl w=>W prog (sb f15 [1,1,1,1,0,1,0,0,1,0,0,1,1]) l (aL 3 (aM (λl w=>W prog (sb f15 [1,1,1,1,0,1,0,0,1,1]) l (aM m (aL 2 (aS f15 [1,1,1,1,1] R))) w) (aM m (aL 2 (aS f15 [1,1,1,1,1] R))))) w) (aL 3 (aM (λl w=>W prog (sb f15 [1,1,1,1,0,1,0,0,1,1]) l (aM m (aL 2 (aS f15 [1,1,1,1,1] R))) w) (aM m (aL 2 (aS f15 [1,1,1,1,1] R))))))) w):=by kernel_rfl
theorem Wb (e:al->aK):W prog (sb f15 [1,1,1,1,1,0,1,0,0]) (yd A s a b i j) (aM e (aL 8 (aS f15 [1,1,1,1,1,1] R))) w=(cond (i<(a:Nat)) (bk s a i 36 λc=>eN w c λr=>pV 34 #[.pointer (some A),r.val] w λd g=>bk s a i 36 λf=>a8 g f 0 d.cells λh=>e (yd A s a b (i64.wrap (i+1)) (ae j 0 76 [ab i,af s a b,cd a,ad (i<(a:Nat)),ab i,ab (i64.wrap (i+1)),af s a b,ab i,jp A,af s a b,ab i,jp c,r.val,d.val,jp f,aB j 91])) h) (W prog (sb f15 [1,1,1,1,1,1]) (HX s a b (jp A::ae j 0 14 (ab i::ae j 14 62 (ab i::af s a b::cd a::ad (i<(a:Nat))::ae j 80 12 [])))) (bV f15 R) w)):=by kernel_rfl
theorem XR:W prog (sb f15 [1,1,1,1,1,1]) (HX s a b j) (bV f15 R) w=(R (af s a b) w):=by kernel_rfl
theorem Wc (p:al->aK)(q:al->aK):W prog (sb f15 [1,1,1,1,0,1,0,0,1,0,0,1,0,1,0,0]) (ye A s a b t c d u e f i v g h k l j) (aM q (aL 6 (aM (λm w=>W prog (sb f15 [1,1,1,1,0,1,0,0,1,0,0,1,1]) m (aL 3 (aM (λm w=>W prog (sb f15 [1,1,1,1,0,1,0,0,1,1]) m (aM p (aL 2 (aS f15 [1,1,1,1,1] R))) w) (aM p (aL 2 (aS f15 [1,1,1,1,1] R))))) w) (aL 3 (aM (λm w=>W prog (sb f15 [1,1,1,1,0,1,0,0,1,1]) m (aM p (aL 2 (aS f15 [1,1,1,1,1] R))) w) (aM p (aL 2 (aS f15 [1,1,1,1,1] R)))))))) w=(cond (l<(a:Nat)) (bk s a l 36 λx=>eN w x λr=>pV 34 #[.pointer (some A),r.val] w λn y=>bk s a l 36 λo=>a8 y o 0 n.cells λz=>q (ye A s a b t c d u e f i v g h k (i64.wrap (l+1)) (ae j 0 51 (ab l::af s a b::cd a::ad (l<(a:Nat))::ab l::ab (i64.wrap (l+1))::af s a b::ab l::jp A::af s a b::ab l::jp x::r.val::n.val::jp o::ae j 66 21 []))) z) (W prog (sb f15 [1,1,1,1,0,1,0,0,1,0,0,1,1]) (HY A s a b t c d u e f i v g h k (ae j 0 8 (ab l::ae j 8 43 (ab l::af s a b::cd a::ad (l<(a:Nat))::ae j 55 32 [])))) (aL 3 (aM (λm w=>W prog (sb f15 [1,1,1,1,0,1,0,0,1,1]) m (aM p (aL 2 (aS f15 [1,1,1,1,1] R))) w) (aM p (aL 2 (aS f15 [1,1,1,1,1] R))))) w)):=by kernel_rfl
theorem XS (l:al->aK):W prog (sb f15 [1,1,1,1,0,1,0,0,1,0,0,1,1]) (HY A s a b t c d u e f i v g h k j) (aL 3 (aM (λo w=>W prog (sb f15 [1,1,1,1,0,1,0,0,1,1]) o (aM l (aL 2 (aS f15 [1,1,1,1,1] R))) w) (aM l (aL 2 (aS f15 [1,1,1,1,1] R))))) w=(c6 35 #[.pointer (some A),af t c d,ab k] w λn m=>cond (!n) (W prog (sb f15 [1,1,1,1,1]) (yc A s a b (af t c d::af u e f::ab i::ae j 0 6 (af v g h::aB j 6::ab k::ae j 7 60 (jp A::af t c d::ab k::ad n::ad (!n)::ae j 72 16 [])))) (bV f15 R) m) (l (yb A s a b t c d u e f i v g h (i64.wrap (k+1)) (ae j 0 29 (ab k::ab (i64.wrap (k+1))::ae j 31 36 (jp A::af t c d::ab k::ad n::ad (!n)::ae j 72 16 [])))) m)):=by kernel_rfl
theorem ZT (g:cr):bc prog f26 [bb a,g.val] R w=(aR w g.cells.toArray 45 λk n=>aR n #[ab 0,ab 0,ab 0,ab 0,ab 0,ab 0,ab 0,ag 0,ab 0,ab 0,ab 0,ab 0,a4,a4,a4,ab 0,ab 0,ab 0,ab 0,a4,ab 0,ab 0,ag 0,a4,ad false,ad false,ab 0,ab 0,a4,ab 0,a4,ag 0,ab 0,ab 0,ab 0,ab 0] 45 λi j=>eN j (ah k 0) λr=>aR j r.cells.toArray 45 λl m=>eV 15 #[bb a,af (bs l) 1 1,a4,a4,ab 20000] m λe b c h=>bk e b 0 36 λo=>eN h o λp=>a8 h (ah i 0) 0 p.cells λf=>eN f (ah i 0) λd=>f=f/\R d.val f):=by kernel_rfl
theorem Z8 (Y:cr):bc prog f34 [bb a,Y.val] R w=(aR w Y.cells.toArray 45 λu bR=>aR bR #[ab 0,ab 0,ab 0,ab 0,ab 0,ab 0,ab 0,ag 0,ab 0,ab 0,ab 0,ab 0,a4,a4,a4,ab 0,ab 0,ab 0,ab 0,a4,ab 0,ab 0,ag 0,a4,ad false,ad false,ab 0,ab 0,a4,ab 0,a4,ag 0,ab 0,ab 0,ab 0,ab 0] 45 λB E=>js E (ah u 24) λj=>cond j (eN E (ah u 0) λr=>a8 E (ah B 0) 0 r.cells λP=>eN P (ah B 0) λbW=>P=P/\R bW.val P) (bN E (ah u 1) λb=>c6 43 #[bb a,ab b] E λc L=>cond (!c) (eN L (ah u 0) λbo=>a8 L (ah B 0) 0 bo.cells λK=>eN K (ah B 0) λbJ=>K=K/\R bJ.val K) (bN L (ah u 1) λd=>cx 63 #[bb a,ab d] L λf T=>cond (f>0) (eN T (ah u 0) λbL=>a8 T (ah B 0) 0 bL.cells λN=>eN N (ah B 0) λb6=>N=N/\R b6.val N) (bN T (ah u 1) λg=>h4 64 #[bb a,ab g] T λh i k l C=>cond l (bY C (ah u 23) λm n o=>da 42 (a4) (af m n o) C λa7 p q br=>aR br #[af h i k] 100 λaM a'=>da 42 (af a7 p q) (af (bs aM) 1 1) a' λs t v bq=>cM bq (ah u 23) (af s t v) λS=>bY S (ah u 23) λx y z=>cond ((y:Int)>200) (cM S (ah u 24) (ad true) λcl=>cM cl (ah u 25) (ad true) λcb=>eN cb (ah u 0) λbV=>a8 cb (ah B 0) 0 bV.cells λQ=>eN Q (ah B 0) λaL=>Q=Q/\R aL.val Q) (eN S (ah u 0) λaE=>Calls prog 65 #[aE.val] S λe bX=>∃ (ch:an) (iN b9:Nat),cr.ex λcd=>e=.returned (.tuple #[af ch iN b9,cd.val])/\a8 bX (ah u 0) 0 cd.cells λF=>js F (ah u 24) λbQ=>cond (!bQ) (bN F (ah u 1) λb4=>cx 66 #[bb a,ab b4,af ch iN b9] F λbh V=>cond (bh != 0) (cM V (ah u 24) (ad true) λbH=>cM bH (ah u 25) (ad true) λZ=>eN Z (ah u 0) λao=>a8 Z (ah B 0) 0 ao.cells λbf=>eN bf (ah B 0) λaW=>bf=bf/\R aW.val bf) (eN V (ah u 0) λaV=>a8 V (ah B 0) 0 aV.cells λI=>eN I (ah B 0) λa9=>I=I/\R a9.val I)) (eN F (ah u 0) λbG=>a8 F (ah B 0) 0 bG.cells λO=>eN O (ah B 0) λb5=>O=O/\R b5.val O))) (bY C (ah u 23) λcj bD ck=>cond ((bD:Int)>200) (cM C (ah u 24) (ad true) λaI=>cM aI (ah u 25) (ad true) λca=>eN ca (ah u 0) λaT=>a8 ca (ah B 0) 0 aT.cells λJ=>eN J (ah B 0) λaZ=>J=J/\R aZ.val J) (eN C (ah u 0) λa1=>Calls prog 65 #[a1.val] C λe bk=>∃ (cf:an) (X A:Nat),cr.ex λb7=>e=.returned (.tuple #[af cf X A,b7.val])/\a8 bk (ah u 0) 0 b7.cells λD=>js D (ah u 24) λbx=>cond (!bx) (bN D (ah u 1) λbO=>cx 66 #[bb a,ab bO,af cf X A] D λaP W=>cond (aP != 0) (cM W (ah u 24) (ad true) λae=>cM ae (ah u 25) (ad true) λb_=>eN b_ (ah u 0) λa5=>a8 b_ (ah B 0) 0 a5.cells λG=>eN G (ah B 0) λbK=>G=G/\R bK.val G) (eN W (ah u 0) λaq=>a8 W (ah B 0) 0 aq.cells λM=>eN M (ah B 0) λbm=>M=M/\R bm.val M)) (eN D (ah u 0) λU=>a8 D (ah B 0) 0 U.cells λH=>eN H (ah B 0) λaB=>H=H/\R aB.val H))))))):=by kernel_rfl
theorem Z9 (U:cr):bc prog f65 [U.val] R w=(aR w U.cells.toArray 45 λu cf=>aR cf #[ab 0,ab 0,ab 0,ab 0,ab 0,ab 0,ab 0,ag 0,ab 0,ab 0,ab 0,ab 0,a4,a4,a4,ab 0,ab 0,ab 0,ab 0,a4,ab 0,ab 0,ag 0,a4,ad false,ad false,ab 0,ab 0,a4,ab 0,a4,ag 0,ab 0,ab 0,ab 0,ab 0] 45 λD B=>bN B (ah u 0) λa=>cond (a == 1) (WC B (ah u 2) λb4=>bY B (ah u 23) λb c d=>Calls prog 90 #[b4.val,af b c d] B λe cb=>∃ (f:an) (g h:Nat),q1.ex λI=>∃ (i:Bool),e=.returned (.tuple #[af f g h,I.val,ad i])/\aR cb #[ab 0,ab 0,ab 0,a4,ab 0,ad false,ag 0,a4,a4,a4] 163 λG bR=>a8 bR (ah G 0) 0 I.cells λbH=>ck bH λcl j=>cA j (ah G 0) λk=>B0 j (ah G 2) λiN=>cA j (ah G 4) λl=>dS j (ah G 9) λm n o=>cM cl (ah u 24) (ad i) λcS=>j cS/\cM cS (ah u 26) (ab k) λc1=>j c1/\a8 c1 (ah u 27) 0 iN.cells λcP=>j cP/\cM cP (ah u 29) (ab l) λW=>j W/\cM W (ah u 30) (af m n o) λcd=>ck cd λa7 aM=>s6 aM (ah u 0) λr=>a8 a7 (ah D 0) 0 r.cells λN=>eN N (ah D 0) λbQ=>N=N/\R (.tuple #[af f g h,bQ.val]) N) (cond (a == 2) (WD B (ah u 3) λcu=>bY B (ah u 23) λp q s=>Calls prog 91 #[cu.val,af p q s] B λe bK=>∃ (t:an) (v x:Nat),q2.ex λcX=>∃ (y:Bool),e=.returned (.tuple #[af t v x,cX.val,ad y])/\aR bK #[ab 0,ag 0,ab 0] 167 λP bh=>a8 bh (ah P 0) 0 cX.cells λbr=>ck br λbs aE=>cA aE (ah P 0) λz=>hd aE (ah P 1) λbk=>cM bs (ah u 24) (ad y) λV=>aE V/\cM V (ah u 26) (ab z) λZ=>aE Z/\cM Z (ah u 31) (ag bk) λb9=>ck b9 λcD bx=>s6 bx (ah u 0) λbX=>a8 cD (ah D 0) 0 bX.cells λbf=>eN bf (ah D 0) λbq=>bf=bf/\R (.tuple #[af t v x,bq.val]) bf) (cond (a == 3) (s7 B (ah u 8) λcH=>bY B (ah u 23) λcy cG bm=>Calls prog 92 #[cH.val,af cy cG bm] B λe bD=>∃ (cZ:an) (ao cN:Nat),bG.ex λcO=>∃ (J:Bool),e=.returned (.tuple #[af cZ ao cN,cO.val,ad J])/\aR bD #[ab 0,ab 0] 171 λO bo=>a8 bo (ah O 0) 0 cO.cells λaI=>ck aI λcm K=>cA K (ah O 0) λb6=>cA K (ah O 1) λcC=>cM cm (ah u 24) (ad J) λS=>K S/\cM S (ah u 26) (ab b6) λcL=>K cL/\cM cL (ah u 32) (ab cC) λbJ=>ck bJ λaZ b7=>s6 b7 (ah u 0) λca=>a8 aZ (ah D 0) 0 ca.cells λL=>eN L (ah D 0) λaP=>L=L/\R (.tuple #[af cZ ao cN,aP.val]) L) (cond (a == 4) (Ik B (ah u 15) λb5=>bY B (ah u 23) λcq a5 A=>Calls prog 93 #[b5.val,af cq a5 A] B λe bW=>∃ (cQ:an) (cY T:Nat),dA.ex λQ=>∃ (Y:Bool),e=.returned (.tuple #[af cQ cY T,Q.val,ad Y])/\aR bW #[ab 0,ab 0,ab 0,ab 0,ag 0] 175 λF a9=>a8 a9 (ah F 0) 0 Q.cells λaT=>ck aT λa' E=>cA E (ah F 0) λcv=>cA E (ah F 1) λb_=>cA E (ah F 2) λcK=>cA E (ah F 3) λbV=>cM a' (ah u 24) (ad Y) λaq=>E aq/\cM aq (ah u 26) (ab cv) λae=>E ae/\cM ae (ah u 33) (ab b_) λaB=>E aB/\cM aB (ah u 34) (ab cK) λX=>E X/\cM X (ah u 35) (ab bV) λbL=>ck bL λbO ch=>s6 ch (ah u 0) λcx=>a8 bO (ah D 0) 0 cx.cells λM=>eN M (ah D 0) λaL=>M=M/\R (.tuple #[af cQ cY T,aL.val]) M) (cM B (ah u 24) (ad true) λbb=>cM bb (ah u 25) (ad true) λC=>ck C λaW cj=>s6 cj (ah u 0) λa1=>a8 aW (ah D 0) 0 a1.cells λH=>eN H (ah D 0) λaV=>H=H/\R (.tuple #[a4,aV.val]) H))))):=by kernel_rfl
end
namespace gW
def conv:Conv:=⟨cJ ⊕ bM,(Int×Int) ⊕ dA,λj G=>match j with
 |.inl j=>((ea j G).1,.inl (ea j G).2.1,(ea j G).2.2)
 |.inr j=>((fz j G).1,.inr (fz j G).2.1,(fz j G).2.2)⟩
def MA (j:conv.ed):Int:=match j with
 |.inl _=>3
 |.inr _=>4
structure qA (A:a6)(w:aj)(r:c3)(j:bM):Prop where
 at_:qj w r j
 view:gi A w r.View j.v
theorem qA.aC {A A':a6}{w w':aj}{r:c3}{j:bM}(h:qA A w r j)(d:ao A w w')(c:∀ k,k<w.heap.size->A' k->A k):qA A' w' r j:=by obtain⟨a,ar⟩:=h;have b:=e2.gi.aC ar d c;exact⟨⟨a.a3,a.inc,a.lines,⟨A',b⟩,a.dead,a.fk,a.prev,a.u64⟩,b⟩
def w7 (A:a6)(w:aj)(r:cr)(j:conv.ed):Prop:=match j with
 |.inl j=>e2.qz A w r.iQ j
 |.inr j=>qA A w r.Recover j
def xh (A:a6)(w:aj)(r:cr)(o:conv.O):Prop:=match o with
 |.inl o=>r.Code=o.1/\r.qp=o.2
 |.inr o=>r.Code=o.Code/\r.k4=o.k4/\r.Seq=o.Seq/\r.k2=o.k2
theorem w7.aC {A A':a6}{w w':aj}{r:cr}{j:conv.ed}(h:w7 A w r j)(b:ao A w w')(a:∀ k,k<w.heap.size->A' k->A k):w7 A' w' r j:=by
 cases j with
 |inl j=>exact e2.qz.aC h b a
 |inr j=>exact qA.aC h b a
theorem xh.aC {A A':a6}{w w':aj}{r:cr}{o:conv.O}(h:xh A w r o)(b:ao A w w')(a:∀ k,k<w.heap.size->A' k->A k):xh A' w' r o:=by
 cases o with
 |inl o=>exact h
 |inr o=>exact h
end gW
section
open e2
structure gd where
 aF:Nat
 bC:Nat->Option cW
def mj (E:Env)(A:bA)(v:bE):Prop:=(∀ m p,p ∈ bL E->v=fD m p->A.bT m (bx p)=2)/\∀ m,v=cH m 32 [dv E]->A.dL m=true
def nb (E:Env)(A:bA)(vs:bu)(bC:Nat->Option cW):Prop:=∀ (q:Nat) (v:bE) (d:cW),vs[q]?=some v->bC q=some d->d.code=0->mj E A v
theorem mj.mono {E:Env}{A A':bA}{v:bE}(h:mj E A v)(hm:dU E A A'):mj E A' v:=⟨λm p a e=>hm.bT m _ (h.1 m p a e),λm e=>hm.dL m (h.2 m e)⟩
theorem nb.mono {E:Env}{A A':bA}{vs:bu}{bC:Nat->Option cW}(h:nb E A vs bC)(hm:dU E A A'):nb E A' vs bC:=λq v d a b c=>(h q v d a b c).mono hm
def e' (E:Env)(A:bA)(g:gd):Prop:=match g.aF with
 | 0=>gh E A/\(∀ m,m<E.n->A.dL m=false)/\(∀ m,m<E.n->∀ p ∈ bL E,A.bT m (bx p)=0)/\∀ m,m<E.n->∀ d,g.bC m=some d->d.code=0->A.fi m=true
 | 1=>hT E A/\gh E A/\∀ (q:Nat) (p:aD),(bL E)[q]?=some p->(g.bC q=none->A.bT 0 (bx p)=0)/\∀ d,g.bC q=some d->d.code=0->d_ d=p.Head/\(A.bT 0 (bx p)=1\/jf E A)
 | 2=>hT E A/\(gh E A->(∀ p ∈ bL E,A.bT 0 (bx p)=1)\/jf E A)/\∀ m,m<E.n->∀ d,g.bC m=some d->d.code=0->A.c2 m=true
 | 3=>h' E A/\nb E A (fH E (bL E)) g.bC
 | 4=>h' E A/\qf E A/\nb E A (f' E (bL E)) g.bC
 | 6=>oe E A
 | _=>True
def np (E:Env)(A:bA)(g:gd):Prop:=∀ (q:Nat) (d:cW),g.bC q=some d->∃ v,(dZ E g.aF)[q]?=some v/\((d.code=0/\(d.words.length:Int)=v.v.iK)\/(d.code=5/\d.words=[]/\A.dO v.node.toNat=true))
structure c8 where
 aF:Nat
 bC:Nat->Option cW
 eO:cV
 aX:fO
 cU:Int
 sp:cV
 l:List aD
 mS:List aD
 di:Int×Int
def cZ (E:Env)(c:Nat)(g:c8):bu:=match g.aF with
 | 0=>iB E.n
 | 1=>hg g.eO
 | 2=>gZ c
 | 3=>gP E.n
 | 4=>gK E g.sp
 | 5=>gQ (bL E)
 | 6=>fH E g.l
 | 7=>f' E g.l
 | 8=>ix g.mS
 | 9=>gN c
 | _=>[]
def ez (E:Env)(c:Nat)(g:c8):bn->cq×dA:=match g.aF with
 | 0=>qX E c
 | 1=>mz E c g.eO
 | 2=>k6 E c
 | 3=>oC E c
 | 4=>λX=>fv E c g.aX g.cU g.di (kx E g.sp X)
 | 5=>λX=>fv E c g.aX g.cU g.di (kv E X)
 | 6=>λX=>fv E c g.aX g.cU g.di (jZ E g.l X)
 | 7=>λX=>fv E c g.aX g.cU g.di (mA E g.l X)
 | 8=>λX=>fv E c g.aX g.cU g.di (nD g.mS X)
 | _=>nz E c g.aX g.cU g.di
def Own (E:Env)(A:bA)(c:Nat):Prop:=jf E A/\A.dY=gJ c
def w8 (E:Env)(A:bA)(l:List aD):Prop:=(∀ p ∈ l,p ∈ bL E)/\l.length<=12/\∀ p ∈ bL E,p ∈ l\/A.bT 0 (bx p)=2
def Fin (E:Env)(A:bA)(g:c8):Prop:=(oe E A/\g.di.1=2/\jI E.L g.cU g.aX=dv E+1)\/(r_ E A/\g.di.1≠2)
def gM (g:c8):Prop:=(g.aF=2/\∃ d,g.bC 0=some d/\d_ d=0)\/(3<=g.aF/\g.aF<=10)
def rW (ns:List aO)(v:bE):ba:=match ns[v.node.toNat]? with
 |none=>[]
 |some x=>(x.words.drop v.at_.toNat).take v.n.toNat
def cO (E:Env)(rs:cV)(A:bA)(ns:List aO)(gr:Nat->c8)(c:Nat):Prop:=match (gr c).aF with
 | 0=>∀ m,m<E.n->∀ d,(gr c).bC m=some d->d_ d=1\/(d_ d=2/\A.dO m=true)
 | 1=>(∀ m,m<E.n->m ∉ (gr c).eO->A.dO m=true)/\(∀ m ∈ (gr c).eO,m<E.n)/\∀ (q m:Nat) (d:cW),(gr c).eO[q]?=some m->(gr c).bC q=some d->A.dO m=true/\(d_ d=1\/d_ d=2)
 | 2=>jf E A/\∀ d,(gr c).bC 0=some d->(d_ d=0/\A.dY=gJ c)\/∃ c' ∈ rs,c'≠c/\d_ d=gJ c'/\gM (gr c')
 | 3=>Own E A c/\∀ (q:Nat) (v:bE) (d:cW),(gP E.n)[q]?=some v->(gr c).bC q=some d->d.words=rW ns v
 | 4=>Own E A c/\hT E A/\(∃ m,m<E.n/\A.c2 m=true)/\(∀ p ∈ bL E,A.bT 0 (bx p)≠0)/\(∀ m,m<E.n->m ∉ (gr c).sp->A.c2 m=true)/\(∀ m ∈ (gr c).sp,m<E.n)/\(gr c).sp.Nodup/\(∀ (k m:Nat),(gr c).sp[k]?=some m->(gr c).bC (k*3)=none->A.c2 m=false)/\∀ (q m:Nat) (d:cW),(gK E (gr c).sp)[q]?=some (cH m 48 [hQ E])->(gr c).bC q=some d->A.c2 m=true
 | 5=>Own E A c/\h' E A/\∀ (q:Nat) (p:aD) (d:cW),(bL E)[q]?=some p->(gr c).bC q=some d->(d_ d=ew p.Head 0↔A.bT 0 (bx p)=1)
 | 6=>Own E A c/\h' E A/\w8 E A (gr c).l/\nb E A (fH E (gr c).l) (gr c).bC
 | 7=>Own E A c/\h' E A/\qf E A/\w8 E A (gr c).l/\nb E A (f' E (gr c).l) (gr c).bC
 | 8=>Own E A c/\gh E A/\((gr c).mS=bL E\/∀ p ∈ bL E,A.bT 0 (bx p)=0)/\(gr c).mS.length<=12/\(∀ p ∈ (gr c).mS,96<=p.bw/\p.bw<E.L)/\∀ (q:Nat) (p:aD) (d:cW),(gr c).mS[q]?=some p->(gr c).bC q=some d->p ∈ bL E->A.bT 0 (bx p)=0
 | 9=>jf E A/\((gr c).bC 0=none->A.dY=gJ c)/\Fin E A (gr c)
 | 10=>jf E A/\Fin E A (gr c)
 | 11=>∃ c' ∈ rs,c'≠c/\gM (gr c')
 | _=>True
def lM (E:Env)(g:c8):Prop:=(4<=g.aF/\g.aF<=7->g.di.1=2/\jI E.L g.cU g.aX=dv E+1)/\(g.aF=8->g.di.1≠2)
def mm (E:Env)(c:Nat)(g:c8):Prop:=∀ (q:Nat) (d:cW),g.bC q=some d->∃ v,(cZ E c g)[q]?=some v/\d.code=0/\(d.words.length:Int)=v.v.iK
def h8 (g:c8):Prop:=(g.aF=2/\∃ d,g.bC 0=some d/\d_ d=0)\/(3<=g.aF/\g.aF<=8)\/(g.aF=9/\g.bC 0=none)
def uO (rs:cV)(A:bA)(gr:Nat->c8):Prop:=A.dY=0\/∃ c ∈ rs,A.dY=gJ c/\h8 (gr c)
theorem Et {c c':Nat}(h:gJ c=gJ c'):c=c':=by grind[gJ]
theorem Ar (c:Nat):gJ c≠0:=by grind[gJ]
theorem cO.own {E:Env}{rs:cV}{A:bA}{ns:List aO}{gr:Nat->c8}{c:Nat}(h:cO E rs A ns gr c)(b:h8 (gr c)):Own E A c:=by
 unfold cO at h;rcases b with⟨e,d,a,j⟩ | ⟨f,i⟩ | ⟨e,a⟩
 ·rw[e]at h;rcases h.2 d a with g | ⟨c',_,_,g,_⟩
  ·exact⟨h.1,g.2⟩
  grind[Ar]
 ·grind
 ·rw[e]at h;exact⟨h.1,h.2.1 a⟩
structure oj (E:Env)(A A':bA):Prop where
 mono:dU E A A'
 q9:jf E A->gh E A->gh E A'
 s4:jf E A->gh E A->∀ p ∈ bL E,A.bT 0 (bx p)=0->A'.bT 0 (bx p)=0
theorem oj.TE {E:Env}{A A':bA}(h:oj E A A')(g:r_ E A):r_ E A':=⟨h.mono.bC g.1,h.q9 g.1 g.2.1,λp a=>h.s4 g.1 g.2.1 p a (g.2.2 p a)⟩
theorem oj.fin {E:Env}{A A':bA}(h:oj E A A'){g:c8}(c:Fin E A g):Fin E A' g:=by
 rcases c with⟨a,b⟩ | ⟨a,b⟩
 ·exact .inl ⟨h.mono.G9 a,b⟩
 ·exact .inr ⟨h.TE a,b⟩
theorem Own.one {E:Env}{A:bA}{c c':Nat}(h:Own E A c)(a:Own E A c'):c=c':=Et (h.2.symm.trans a.2)
theorem cO.gI {E:Env}{rs:cV}{A A':bA}{ns j:List aO}{gr f:Nat->c8}{c:Nat}(h:cO E rs A ns gr c)(r:f c=gr c)(a:¬ h8 (gr c))(b:oj E A A')(hw:∀ c',gM (gr c')->gM (f c')):cO E rs A' j f c:=by
 unfold cO at h ⊢;rw[r];split at h
 ·exact λm hm d i=>by
   rcases h m hm d i with g | ⟨k,l⟩
   ·grind
   ·exact .inr ⟨k,b.mono.dO m l⟩
 ·exact⟨λm hm p=>b.mono.dO m (h.1 m hm p),h.2.1,λq m d n o=>⟨b.mono.dO m (h.2.2 q m d n o).1,(h.2.2 q m d n o).2⟩⟩
 ·rename_i e;refine⟨b.mono.bC h.1,λd i=>?_⟩;rcases h.2 d i with g | ⟨c',k,l,s,t⟩
  ·exact b_ (.inl ⟨e,d,i,g.1⟩) a
  grind
 ·rename_i e;exact b_ (.inr (.inl ⟨by omega,by omega⟩)) a
 ·rename_i e;exact b_ (.inr (.inl ⟨by omega,by omega⟩)) a
 ·rename_i e;exact b_ (.inr (.inl ⟨by omega,by omega⟩)) a
 ·rename_i e;exact b_ (.inr (.inl ⟨by omega,by omega⟩)) a
 ·rename_i e;exact b_ (.inr (.inl ⟨by omega,by omega⟩)) a
 ·rename_i e;exact b_ (.inr (.inl ⟨by omega,by omega⟩)) a
 ·rename_i e;refine⟨b.mono.bC h.1,λi=>b_ (.inr (.inr ⟨e,i⟩)) a,b.fin h.2.2⟩
 ·exact⟨b.mono.bC h.1,b.fin h.2⟩
 ·grind
 grind
theorem cO.stay {E:Env}{rs:cV}{A:bA}{ns:List aO}{gr a:Nat->c8}{c:Nat}(h:cO E rs A ns gr c)(b:a c=gr c)(hw:∀ c',gM (gr c')->gM (a c')):cO E rs A ns a c:=by
 unfold cO at h ⊢;rw[b]
 grind
structure oq (E:Env)(A A':bA):Prop where
 mono:dU E A A'
 q9:gh E A->gh E A'
 some_:gh E A'->gh E A
 dL:gh E A->∀ m,m<E.n->A.dL m=false->A'.dL m=false
 vr:gh E A->∀ m,m<E.n->∀ p ∈ bL E,A.bT m (bx p)=0->A'.bT m (bx p)=0
 H7:gh E A->∀ p ∈ bL E,A.bT 0 (bx p)=1->A'.bT 0 (bx p)=1\/jf E A
theorem e'.rec {E:Env}(s:1<=E.n){A A':bA}{g:gd}(h:e' E A g)(e:oq E A A'):e' E A' g:=by
 unfold e' at h ⊢;split at h
 ·obtain⟨a,b,c,d⟩:=h;exact⟨e.q9 a,λm hm=>e.dL a m hm (b m hm),λm hm p f=>e.vr a m hm p f (c m hm p f),λm hm x o r=>e.mono.fi m (d m hm x o r)⟩
 ·obtain⟨a,b,c⟩:=h;refine⟨e.mono.lb a,e.q9 b,λq p f=>⟨λk=>?_,λd k u=>?_⟩⟩
  ·exact e.vr b 0 s p (cu f) ((c q p f).1 k)
  ·obtain⟨t,i⟩:=(c q p f).2 d k u;refine⟨t,?_⟩;rcases i with i | i
   ·rcases e.H7 b p (cu f) i with j | j
    ·grind
    ·exact .inr (e.mono.bC j)
   ·exact .inr (e.mono.bC i)
 ·obtain⟨a,b,c⟩:=h;refine⟨e.mono.lb a,λs=>?_,λm hm d o r=>e.mono.c2 m (c m hm d o r)⟩;have l:=e.some_ s;rcases b l with g | g
  ·by_cases k:jf E A
   ·exact .inr (e.mono.bC k)
   ·refine .inl λp f=>?_
    rcases e.H7 l p f (g p f)with j | j
    ·exact j
    grind
  ·exact .inr (e.mono.bC g)
 ·exact⟨e.mono.am h.1,h.2.mono e.mono⟩
 ·exact⟨e.mono.am h.1,e.mono.Bn h.2.1,h.2.2.mono e.mono⟩
 ·exact e.mono.G9 h
 grind
end
section
open e2
theorem wz {α:Type}{k:Nat}(e:0<k):∀ {hj:List (List α)} {q:Nat} {v:α},(∀ b ∈ hj,b.length=k)->hj.flatten[q]?=some v->∃ (i:Nat) (b:List α),hj[i]?=some b/\i*k<=q/\b[q-i*k]?=some v
 | [],q,v,_,h=>by grind
 |b::hj,q,v,a,h=>by
  have n:=a b g_;rw[kR]at h;by_cases f:q<b.length
  ·rw[zl f]at h;exact⟨0,b,rfl,by omega,by grind⟩
  ·rw[zm (by omega)]at h;obtain⟨i,c,g,j,l⟩:=wz e (λc d=>a c (gm _ d)) h;refine⟨i+1,c,by grind,by grind,?_⟩
   grind
theorem rS {α:Type}{k:Nat}:∀ {hj:List (List α)} {i r:Nat} {b:List α} {v:α},(∀ b ∈ hj,b.length=k)->hj[i]?=some b->b[r]?=some v->hj.flatten[i*k+r]?=some v
 | [],i,r,b,v,_,h,_=>by grind
 |c::hj,0,r,b,v,a,h,d=>by
  grind
 |c::hj,i+1,r,b,v,a,h,d=>by have f:=a c g_;rw[kR,zm (by rw[tE];omega),f,tE,show i*k+k+r-k=i*k+r by omega];exact rS (λc e=>a c (gm _ e)) (by simpa using h) d
theorem gL.before {C:bB}{vs:bu}{bC:Nat->Option cW}(h:gL C vs bC){j:Nat}{l:cL}(f:C.aG[j]?=some l){q:Nat}{cp:cV}(s:l.bZ=q::cp){b:Nat}{g:bE}(n:b<q)(ar:vs[b]?=some g)(o:g.node.toNat=j):∃ d,bC b=some d:=by
 cases k:bC b with
 |some d=>grind
 |none=>
  exfalso;obtain⟨r,l',a,hm⟩:=h.left b (dk ar) k;obtain⟨t,p⟩:=eP.1 hm;obtain⟨v,c,_,i,_⟩:=(h.lane r l' a).at_ t b p
  rw[ar]at c;cases c;rw[<-i,o]at a;rw[f]at a;cases a;have e:=(h.lane j l f).xw
  grind[List.pairwise_cons]
section
variable {E:Env}{l:List aD}
theorem xl {q:Nat}{v:bE}(h:(fH E l)[q]?=some v):∃ m,m+1<E.n/\v.node=((m+1:Nat):Int)/\((∃ p ∈ l,v=fD (m+1) p)\/(v=cH (m+1) 32 [dv E]/\∀ p ∈ l,∃ k,k<q/\(fH E l)[k]?=some (fD (m+1) p))):=by
 have e:∀ b ∈ (List.range (E.n-1)).map (λm=>l.map (fD (m+1))++[cH (m+1) 32 [dv E]]),b.length=l.length+1:=λb e=>by
  grind
 obtain⟨i,b,c,t,a⟩:=wz (by omega) e h;have j:=dk c;simp only[jc,rH]at j;have d:=c;rw[hS,zo j]at c;simp only[rD,hA]at c;subst c;refine⟨i,by omega,?_⟩;by_cases u:q-i*(l.length+1)<l.length
 ·rw[zl (by grind),hS]at a;obtain⟨p,f,rfl⟩:=kQ.1 a;exact⟨rfl,.inl ⟨p,cu f,rfl⟩⟩
 ·rw[zm (by grind)]at a;have:=dk a;simp only[jc,aab]at this;have o:q-i*(l.length+1)-(l.map (fD (i+1))).length=0:=by grind
  rw[o]at a;simp only[Jp,hA]at a;subst a;refine⟨rfl,.inr ⟨rfl,λp f=>?_⟩⟩;obtain⟨r,g⟩:=eP.1 f;have s:=dk g;refine⟨i*(l.length+1)+r,by omega,rS e d ?_⟩
  grind
theorem xm {q:Nat}{v:bE}(h:(f' E l)[q]?=some v):v.node=0/\((q=0/\v=cH 0 32 [dv E])\/(0<q/\∃ p ∈ l,v=fD 0 p)):=by
 cases q with
 |zero=>simp[f']at h;subst h;exact⟨rfl,.inl ⟨rfl,rfl⟩⟩
 |succ q=>unfold f' at h;rw[zn,hS]at h;obtain⟨p,a,rfl⟩:=kQ.1 h;exact⟨rfl,.inr ⟨by omega,p,cu a,rfl⟩⟩
theorem SR {m a:Nat}{p p':aD}(h:fD m p=fD a p')(e:0<=p.bw)(b:0<=p'.bw):m=a/\bx p=bx p':=by
 have c:(m:Int)=a:=eh bE.node h;have d:p.bw*8=p'.bw*8:=eh bE.at_ h
 grind
theorem FI {m a:Nat}{p:aD}(c:96<=p.bw):fD m p≠cH a 32 [dv E]:=λh=>by have b:p.bw*8=32:=eh bE.at_ h;omega
theorem Y1 {m b:Nat}{a:Int}{ws:ba}(h:cH m a ws=cH b a ws):m=b:=by have c:(m:Int)=b:=eh bE.node h;omega
theorem FJ (aA:cl E){A:bA}{m:Nat}{p:aD}(c:p ∈ bL E)(h:A.bT m (bx p)=2):mj E A (fD m p):=by
 have f:=aA.pl c;refine⟨λd p' a e=>?_,λd e=>b_ e (FI (by omega))⟩;have b:=aA.pl a
 grind[SR]
theorem FK (aA:cl E){A:bA}{m:Nat}(h:A.dL m=true):mj E A (cH m 32 [dv E]):=by
 refine⟨λb p' a e=>b_ e.symm (FI (by have:=aA.pl a;omega)),λb e=>?_⟩
 grind[Y1]
theorem r5 (aA:cl E){m:Nat}(hm:m<E.n){p:aD}(b:p ∈ bL E):ic E.n E.L (fD m p):=by have d:=aA.pl b;have a:=aA.e.n;have c:=aA.e.L;exact pd a.2 hm (by omega) (by omega) (by show 1<=8;omega) (by show 8<=1000;omega) (by show p.bw*8+(8:Int)<=_;omega)
theorem r6 (aA:cl E){m:Nat}(hm:m<E.n):ic E.n E.L (cH m 32 [dv E]):=by
 have b:=aA.e.n;have a:=aA.e.L
 grind[pd]
end
theorem GO {p:db}{x:aO}{e1:bu}{m a:Nat}{ws:ba}(g:fI p)(c:p.bj=cH m a ws::e1)(k:p.refusal (cH m a ws) x=0)(h:a % 8=0)(i:p.words=[])(j:a+ws.length<=x.words.length)(f:ws.length<=8):p.step x=(p.done,x.write a ws,some ⟨0,[]⟩):=by
 obtain⟨l,e,_,_,b⟩:=A3 g c k h i j;have d:p.b0=0:=by omega
 rw[d]at e b;rcases b with b | ⟨_,n,o⟩
 ·omega
 ·have hw:(ws.drop (8*0)).take 8=ws:=by rw[Nat.mul_zero,List.drop_zero,rM f]
  grind
section
variable {E:Env}{A:bA}{ns:List aO}{l:List aD}
theorem FL (aA:cl E)(o:jh E A ns)(B:e3 E A)(C:h' E A)(h:∀ p ∈ l,p ∈ bL E){q j:Nat}{v:bE}(ar:(fH E l)[q]?=some v)(M:v.node.toNat=j){x:aO}(u:ns[j]?=some x)(d:∀ (n:Nat) (z:bE),n<q->(fH E l)[n]?=some z->z.node.toNat=j->mj E A z)(H:∀ p ∈ bL E,p ∈ l\/A.bT j (bx p)=2) :
  ∃ (a:Nat) (ws:ba) (A':bA),v=cH j (a:Int) ws/\a % 8=0/\ws.length<=8/\a+ws.length<=x.words.length/\jh E A' (ns.set j (x.write a ws))/\e3 E A'/\mj E A' v/\dU E A A'/\(A'.dY,A'.dO)=(A.dY,A.dO)/\A'.c2=A.c2/\(∀ m l',A'.bT m l'=A.bT m l'\/1<=m):=by
 obtain⟨m,hm,t,G⟩:=xl ar;have r:j=m+1:=by grind
 subst r;have b:=o.mem _ x u;have K:=b.aS.len;have J:=aA.mC;rcases G with⟨p,i,rfl⟩ | ⟨rfl,f⟩
 ·have c:=h p i;have I:=aA.pl c;refine⟨bx p*8,ie p,A.gT (m+1) (bx p) 2,?_,by omega,by show 8<=8;omega,by show bx p*8+8<=_;omega,o.fp u (b.new aA c) λL s y w=>?_,B.s4 (by omega) (λ_=>by omega) (λe=>by omega) (λ_=>C) (λ_ e=>by omega) (λ_ _=>rfl),FJ aA c ?_,wI λ_=>rfl,rfl,rfl,λk l'=>?_⟩
  ·show cH (m+1) (p.bw*8) (ie p)=_
   grind
  ·exact w.same (λp' _=>by grind[bA.gT]) rfl rfl rfl rfl (λ_=>rfl)
  ·simp[bA.gT]
  grind[bA.gT]
 ·refine⟨32,[dv E],A.lo (m+1),rfl,by omega,by simp,by grind,o.fp u (b.uW aA) λL s y w=>?_,B.uW C (λe=>by omega) (λ_ p i=>?_),FK aA (by simp[bA.lo]),Fb,rfl,rfl,λk l'=>.inl rfl⟩
  ·exact w.same (λp' _=>rfl) rfl (by grind[bA.lo]) rfl rfl (λ_=>rfl)
  ·rcases H p i with g | g
   ·obtain⟨n,D,F⟩:=f p g;exact(d n _ D F (by simp[fD,cH])).1 _ p i rfl
   grind
theorem FM (aA:cl E)(g:jh E A ns)(t:e3 E A)(u:h' E A)(B:qf E A)(f:∀ p ∈ l,p ∈ bL E){q j:Nat}{v:bE}(ar:(f' E l)[q]?=some v)(J:v.node.toNat=j){x:aO}(o:ns[j]?=some x)(d:∀ (w:Nat) (s:bE),w<q->(f' E l)[w]?=some s->s.node.toNat=j->mj E A s) :
  ∃ (a:Nat) (ws:ba) (A':bA),j=0/\v=cH j (a:Int) ws/\a % 8=0/\ws.length<=8/\a+ws.length<=x.words.length/\jh E A' (ns.set j (x.write a ws))/\e3 E A'/\mj E A' v/\dU E A A'/\(A'.dY,A'.dO)=(A.dY,A.dO)/\A'.c2=A.c2:=by
 obtain⟨n,C⟩:=xm ar;have i:j=0:=by grind
 subst i;have b:=g.mem _ x o;have H:=b.aS.len;have F:=aA.mC;rcases C with⟨_,rfl⟩ | ⟨z,p,G,rfl⟩
 ·refine⟨32,[dv E],A.lo 0,rfl,rfl,by omega,by simp,by grind,g.fp o (b.uW aA) λI k y r=>?_,t.uW u (λ_=>B) (λe=>by omega),FK aA (by simp[bA.lo]),Fb,rfl,rfl⟩;exact r.same (λp' _=>rfl) rfl (by grind[bA.lo]) rfl rfl (λ_=>rfl)
 ·have c:=f p G;have D:=aA.pl c;have h:=(d 0 (cH 0 32 [dv E]) z rfl rfl).2 0 rfl;refine⟨bx p*8,ie p,A.gT 0 (bx p) 2,rfl,?_,by omega,by show 8<=8;omega,by show bx p*8+8<=_;omega,g.fp o (b.new aA c) λI k y r=>?_,t.s4 (by omega) (λe=>by omega) (λe=>by omega) (λ_=>u) (λ_ _=>h) (λe=>by omega),FJ aA c ?_,wI λ_=>rfl,rfl,rfl⟩
  ·show cH 0 (p.bw*8) (ie p)=_
   grind
  ·exact r.same (λp' _=>by grind[bA.gT]) rfl rfl rfl rfl (λ_=>rfl)
  grind[bA.gT]
end
end
section
open e2
section
variable {E:Env}{ns:List aO}{i m:Nat}{x fh:aO}
end
end
section
open e2
theorem ey.pl {E:Env}{i:Nat}{j:cJ}(h:ey E i j){p:aD}(a:p ∈ j.writes):p.bw=((p.bw.toNat:Nat):Int)/\96<=p.bw.toNat/\p.bw.toNat<E.L:=by
 obtain⟨l,e,b,c⟩:=h.line p a
 grind
end
section
open e2
section
variable {E:Env}{i:Nat}{j:cJ}
theorem QM (h:ey E i j)(a:1<=E.n){q:Nat}{v:bE}(ar:(dG j)[q]?=some v):(∃ p ∈ j.writes,j.writes[q]?=some p/\v=Bs (p.bw*8) p.Head (ew p.Head i))\/∃ s ∈ j.reads,v=B4 (s.bw*8):=by
 rw[h.HA a]at ar
 grind
end
end
section
open e2
section
variable {n L:Nat}{p:db}{x:aO}{e1:bu}
end
section
variable {E:Env}{i:Nat}{j:cJ}
end
end
section
open e2
section
variable {E:Env}{ns:List aO}{i m q:Nat}{p:db}{x:aO}{v:bE}{bC:Nat->Option cW}{D:cw}
end
end
section
open e2
def iI (l:cL):Nat:=(l.pair.bj.map λv=>v.v.pieces.length).sum-l.pair.b0
def iH (C:bB):Nat:=(C.aG.map iI).sum
theorem As:∀ {l:cV}{i:Nat}{a b:Nat},l[i]?=some a->(l.set i b).sum+a=l.sum+b
 | [],i,a,b,h=>by grind
 |x::l,0,a,b,h=>by
  grind
 |x::l,i+1,a,b,h=>by have:=As (l:=l) (i:=i) (a:=a) (b:=b) (by simpa using h);simp only[List.set_cons_succ,qe];omega
theorem NU {p:db}{n:aO}(c:fI p)(e:∀ v e1,p.bj=v::e1->p.refusal v n=0){l l':cL}(d:l.pair=p)(b:l'.pair=(p.step n).1)(ar:p.bj≠[]):iI l'<iI l:=by
 obtain⟨v,e1,a⟩:=rE ar;have f:=c.hL v e1 a;unfold iI;rw[d,b,tR a (e v e1 a),a];simp only[jT,qe];split
 ·grind
 ·show(p.bj.tail.map _).sum-0<_
  grind
def wy (p:db):Prop:=∀ v e1,p.bj=v::e1->v.kind=2->p.words=[]
theorem O2 {p:db}{n:aO}(a:wy p):wy (p.step n).1:=by
 unfold db.step;cases ar:p.bj with
 |nil=>exact a
 |cons x xs=>
  simp only;split
  ·exactλ_ _ _ _=>rfl
  ·split
   ·intro v e1 e b;have e:x::xs=v::e1:=e;cases e;show p.words++(exec x _ n).2=[];rw[a x xs ar b];unfold exec
    grind
   ·exactλ_ _ _ _=>rfl
def hs (C:bB):Prop:=∀ (k:Nat) (l:cL),C.aG[k]?=some l->l.pair.bj=[]
end
section
open e2
def rn:Nat->Nat
 | 0=>106
 | 1=>70
 | 2=>65
 | 3=>13
 | 8=>700
 | _=>0
def cost (vs:bu):Nat:=(vs.map λv=>v.v.pieces.length).sum
theorem lV {k:Nat}:∀ {vs:bu},(∀ v ∈ vs,v.v.count.toNat<=k)->cost vs<=vs.length*k
 | [],_=>by simp[cost]
 |v::vs,h=>by
  have a:=lV λu hu=>h u (gm _ hu)
  have b:=h v g_;have c:v.v.pieces.length<=v.v.count.toNat:=yQ _ _ _
  grind[cost,List.length_cons,Nat.succ_mul]
section
variable {E:Env}{i:Nat}{j:cJ}
theorem NV (aA:qt E)(h:ey E i j):cost (ni j)<=555:=by
 have d:=pT j.seq j.writes;have c:=h.ej;have a:cost (ni j)<=(ni j).length*111:=lV λv ar=>by rw[h.Bp]at ar;obtain⟨m,_,rfl⟩:=dD.1 ar;show((fe j.seq j.writes).length:Int).toNat<=111;omega
 have b:(ni j).length=E.n:=by rw[h.Bp];simp
 have:=aA.n
 grind
theorem NW (aA:qt E)(h:ey E i j):cost (m6 j)<=5:=by
 have a:cost (m6 j)<=(m6 j).length*1:=lV λv ar=>by rw[h.BT]at ar;obtain⟨m,_,rfl⟩:=dD.1 ar;exact dr _
 have b:(m6 j).length=E.n:=by rw[h.BT];simp
 have:=aA.n;omega
theorem NX (aA:qt E)(h:ey E i j):cost (dG j)<=36:=by
 have b:cost (dG j)<=(dG j).length*1:=lV λv ar=>by
  obtain⟨q,a⟩:=eP.1 ar;rcases QM h aA.n.1 a with⟨p,_,_,rfl⟩ | ⟨s,_,rfl⟩
  ·exact dr _
  ·exact dr _
 have c:(dG j).length=j.writes.length+j.reads.length:=by grind[dG]
 have:=h.ej;have:=h.yU;omega
theorem Eu (aA:qt E)(h:ey E i j):cost (hW j)<=13:=by
 have k:=h.ej;have c:∀ l:List aD,(∀ p ∈ l,p ∈ j.writes)->cost (l.map (fD 0))<=l.length:=λl a=>by
  induction l with
  |nil=>simp[cost]
  |cons p l f=>
   have:=f λq e=>a q (gm _ e)
   unfold cost at this ⊢;simp only[jT,qe,jB];have b:=h.pl (a p g_);have:(fD 0 p).v.pieces=[(p.bw*8,8)]:=q6 (v:=(fD 0 p).v) (by show(1:Int)<=8;omega) (by show p.bw*8 % 8+8<=8;omega) (by show 0<=p.bw*8;omega)
   grind
 have d:=c j.writes λp b=>b
 rw[h.G_ aA.n.1];unfold cost at d ⊢;simp only[jT,qe];have g:=h.i6;have:(oz i j.seq 0).v.pieces=[(32+(i:Int),1)]:=q6 (v:=(oz i j.seq 0).v) (by show(1:Int)<=1;omega) (by show(32+(i:Int)) % 8+1<=8;omega) (by show 0<=32+(i:Int);omega)
 grind
theorem oO (a b:bu):cost (a++b)=cost a+cost b:=by simp[cost]
theorem NY (aA:qt E)(h:ey E i j):cost (qy j)<=52:=by
 have o:=h.ej;have g:=h.i6;have e:∀ (m:Nat) (l:List aD),(∀ p ∈ l,p ∈ j.writes)->cost (l.map (fD m))<=l.length:=λm l b=>by
  induction l with
  |nil=>simp[cost]
  |cons p l c=>
   have:=c λq f=>b q (gm _ f)
   unfold cost at this ⊢;simp only[jT,qe,jB];have r:=h.pl (b p g_);have:(fD m p).v.pieces=[(p.bw*8,8)]:=q6 (v:=(fD m p).v) (by show(1:Int)<=8;omega) (by show p.bw*8 % 8+8<=8;omega) (by show 0<=p.bw*8;omega)
   grind
 have d:∀ m,cost [oz i j.seq m]=1:=λm=>by
  have:(oz i j.seq m).v.pieces=[(32+(i:Int),1)]:=q6 (v:=(oz i j.seq m).v) (by show(1:Int)<=1;omega) (by show(32+(i:Int)) % 8+1<=8;omega) (by show 0<=32+(i:Int);omega)
  grind[cost]
 have a:∀ k:Nat,cost ((List.range k).map λm=>j.writes.map (fD (m+1))++[oz i j.seq (m+1)]).flatten<=k*13:=λk=>by
  induction k with
  |zero=>simp[cost]
  |succ k c=>
   rw[o1,lG,Jo,oO];simp only[jT,List.map_nil,kR,List.flatten_nil,lE]
   grind[oO]
 rw[h.G1];have:=a (E.n-1);have:=aA.n;omega
variable (aA:qt E)(h:ey E i j)
include aA h
end
end
section
open e2
theorem O3 {α:Type}{l:List α}{i:Nat}{a:α}(h:l[i]?=some a):l.set i a=l:=by
 apply jb
 grind
def h2 (F:aH)(i:Nat)(C:bB):aH:={F with aY:=F.aY.set i C}
theorem FB {F:aH}{i:Nat}{C:bB}(a:F.aY[i]?=some C)(c:C.alive=true)(hw:C.waiting=0):F.take (i:Int)=(C.batch,h2 F i {C with batch:=none}):=by
 unfold aH.take;rw[ik,a];simp only;rw[aW (by grind)];cases b:C.batch with
 |none=>
  have e:({C with batch:=none}:bB)=C:=by rw[<-b]
  simp only;rw[e];unfold h2;rw[O3 a]
 |some ds=>simp only;rw[aW (by omega)];rfl
theorem CH {n L:Nat}{N:Int}(a:(n:Int)=N)(b:n<=5):∀ {vs:bu},(∀ v ∈ vs,ic n L v)->jH N L vs=0
 | [],_=>rfl
 |v::vs,h=>by unfold jH;rw[aW (by rw[(h v g_).valid N (by omega) (by omega)];simp)];exact CH a b λu hu=>h u (gm _ hu)
theorem QN {F:aH}{i n L:Nat}{C:bB}{vs:bu}(a:F.aY[i]?=some C)(d:C.alive=true)(f:C.batch=none)(ar:vs≠[])(h:vs.length<=1024)(j:F.nodes.length=n)(b:n<=5)(c:F.lines=L)(g:∀ v ∈ vs,ic n L v):F.post (i:Int) vs=(0,h2 F i (C.kE vs)):=by
 unfold aH.post;rw[ik,a];simp only;rw[aW (by grind),aW (by grind),aW (λe=>ar (tG.1 e)),aW (by omega),aW]
 ·rfl
 grind[CH]
def fg {hV:Conv}(t:ca hV)(C:bB):bn:=match C.batch with
 |none=>t.a_
 |some ds=>t.a_++[ds]
theorem FC {hV:Conv}(t:ca hV)(C:bB):t.Bw C.batch={t with a_:=fg t C}:=by unfold fg ca.Bw;cases C.batch<;>rfl
theorem GE {hV:Conv}{F:aH}{i n L:Nat}{C:bB}{t:ca hV}(c:F.aY[i]?=some C)(d:C.alive=true)(hw:C.waiting=0)(e:t.a3=(i:Int))(r:t.eU=false)(j:(fg t C).length<=200){vs:bu}{o:hV.O}(q:hV.next t.job (fg t C)=(vs,o,false))(ar:vs≠[])(k:vs.length<=1024)(l:F.nodes.length=n)(b:n<=5)(f:F.lines=L)(h:∀ v ∈ vs,ic n L v) :
  b5 F t=(h2 F i (({C with batch:=none}:bB).kE vs),{t with a_:=fg t C,eU:=false,out:=o}):=by
 have g:F.alive t.a3=true:=by grind[aH.alive,ik]
 have p:F.waiting t.a3=0:=by grind[aH.waiting,ik]
 unfold b5;rw[aW (by grind),e,FB c d hw];simp only;rw[FC];unfold kd;simp only;rw[aW (by omega),q];simp only;rw[aW (by simp),e];have a:(h2 F i {C with batch:=none}).aY[i]?=some {C with batch:=none}:=vW (dk c);rw[QN (F:=h2 F i {C with batch:=none}) a d rfl ar k l b f h];rw[aW (by simp)]
 grind[ca.told,h2,List.set_set]
theorem DJ {hV:Conv}{F:aH}{i:Nat}{C:bB}{t:ca hV}(a:F.aY[i]?=some C)(b:C.alive=true)(hw:C.waiting=0)(d:t.a3=(i:Int))(h:t.eU=false)(e:(fg t C).length<=200){o:hV.O}(g:hV.next t.job (fg t C)=([],o,true)) :
  b5 F t=(h2 F i {C with batch:=none},{t with a_:=fg t C,eU:=true,out:=o}):=by
 have c:F.alive t.a3=true:=by grind[aH.alive,ik]
 have f:F.waiting t.a3=0:=by grind[aH.waiting,ik]
 unfold b5;rw[aW (by grind),d,FB a b hw];simp only;rw[FC];unfold kd;simp only;rw[aW (by omega),g];simp only;rw[bm trivial]
 grind[ca.told]
theorem QO {C:bB}{k:Nat}{v:bE}(he:∀ (m:Nat) (l:cL),C.aG[m]?=some l->l.pair.b0=0)(h:v.node.toNat<C.aG.length):iH (C.gl k v)=iH C+v.v.pieces.length/\∀ (m:Nat) (l:cL),(C.gl k v).aG[m]?=some l->l.pair.b0=0:=by
 have c:∀ m,(C.gl k v).aG[m]?=(C.aG[m]?).map λl=>if v.node.toNat=m then(⟨{l.pair with bj:=l.pair.bj++[v]},l.bZ++[k]⟩:cL)else l:=λm=>by
  grind[bB.gl]
 obtain⟨g,f⟩:∃ l,C.aG[v.node.toNat]?=some l:=⟨_,bW h⟩;have d:(C.gl k v).aG.map iI=(C.aG.map iI).set v.node.toNat (iI g+v.v.pieces.length):=by
  apply jb;intro m;rw[hS,c];by_cases e:v.node.toNat=m
  ·subst e;rw[vW (by grind),f];simp only[rD,if_true]
   grind[iI]
  grind
 refine⟨?_,λm l hm=>?_⟩
 ·unfold iH;rw[d];have:=As (l:=C.aG.map iI) (i:=v.node.toNat) (a:=iI g) (b:=iI g+v.v.pieces.length) (by grind);omega
 grind
theorem IR:∀ (vs:bu){C:bB}{k:Nat},(∀ (m:Nat) (l:cL),C.aG[m]?=some l->l.pair.b0=0)->(∀ v ∈ vs,v.node.toNat<C.aG.length)->iH (C.gS k vs)=iH C+cost vs
 | [],C,k,he,a=>by simp[bB.gS,cost]
 |v::vs,C,k,he,a=>by
  obtain⟨c,b⟩:=QO (k:=k) he (a v g_);have d:(C.gl k v).aG.length=C.aG.length:=by simp[bB.gl]
  have:=IR vs (k:=k+1) b (λu hu=>by grind);show iH ((C.gl k v).gS (k+1) vs)=_
  grind[cost]
theorem Db:∀ (vs:bu)(C:bB)(k:Nat),(C.gS k vs).aG.length=C.aG.length/\(C.gS k vs).inc=C.inc
 | [],C,k=>⟨rfl,rfl⟩
 |v::vs,C,k=>by obtain⟨a,b⟩:=Db vs (C.gl k v) (k+1);exact⟨a.trans (by simp[bB.gl]),b⟩
theorem vJ {C:bB}(h:hs C):iH C=0:=by
 unfold iH;have:∀ ls:List cL,(∀ l ∈ ls,l.pair.bj=[])->(ls.map iI).sum=0:=λls=>by
  induction ls with
  |nil=>grind
  |cons l ls c=>
   grind[List.mem_cons_of_mem,iI,List.mem_cons_self]
 exact this C.aG λl b=>by obtain⟨k,a⟩:=eP.1 b;exact h k l a
def eB (F:aH)(i:Nat):Nat:=match F.aY[i]? with
 |some C=>iH C
 |none=>0
end
section
open e2
theorem lD {α:Type}{l:List α}{i:Nat}{a:α}(h:l[i]?=some a):l.set i a=l:=by
 apply jb
 grind
structure Aw (E:Env)(ns:List aO)(i j:Nat)(C:bB)(vs:bu)(bC:Nat->Option cW)(l:cL)(x:aO)(v:bE)(e1:bu)(q:Nat)(cp:cV):Prop where
 lane:C.aG[j]?=some l
 node:ns[j]?=some x
 h3:l.pair.bj=v::e1
 pl:l.bZ=q::cp
 at_:vs[q]?=some v
 nd:v.node.toNat=j
 bC:bC q=none
 pc:l.pair.a3=(i:Int)
 pi:l.pair.inc=1
 ct:fI l.pair
 ny:wy l.pair
def o' (E:Env)(C:bB)(ns:List aO):Prop:=∀ (k:Nat) (l:cL) (y:aO),C.aG[k]?=some l->ns[k]?=some y->∀ i,i<(fE E).length->i<8*l.pair.b0->y.get (56+i)=(fE E).getD i 0
theorem y2 {C:bB}{j:Nat}{l:cL}(h:C.aG[j]?=some l)(p:db)(d:Option cW):∃ l',(C.comes j l p d).aG[j]?=some l'/\l'.pair=p:=by
 have a:=dk h;cases d with
 |none=>grind[bB.comes]
 |some d=>grind[bB.comes]
theorem o'.step {E:Env}{C:bB}{ns:List aO}(h:o' E C ns){j:Nat}{l:cL}{x fh:aO}(g:C.aG[j]?=some l)(r:ns[j]?=some x){p:db}{d:Option cW}(q:∀ i,i<(fE E).length->i<8*p.b0->fh.get (56+i)=(fE E).getD i 0):o' E (C.comes j l p d) (ns.set j fh):=by
 intro k l' y a b i f he;by_cases e:k=j
 ·subst e;obtain⟨l2,n,o⟩:=y2 g p d
  grind
 ·rw[pL e]at a;rw[m3 (λc=>e c.symm)]at b;exact h k l' y a b i f he
theorem kz {bC:Nat->Option cW}{q a:Nat}{d b:cW}(h:fp bC q d a=some b):(a=q/\b=d)\/(a≠q/\bC a=some b):=by
 grind[tB,r4]
theorem wv {bC:Nat->Option cW}{q a:Nat}{d:cW}(h:fp bC q d a=none):a≠q/\bC a=none:=by
 grind[tB,r4]
section
variable {E:Env}{A:bA}{g:gd}
theorem e'.no (h:e' E A g){q:Nat}{d:cW}(i:d.code≠0):e' E A ⟨g.aF,fp g.bC q d⟩:=by
 have key:∀ {b a},fp g.bC q d b=some a->a.code=0->g.bC b=some a:=λ{b a} e f=>by
  grind[kz]
 unfold e' at h ⊢;simp only;split at h
 ·grind
 ·grind[wv]
 ·grind
 ·exact⟨h.1,λb v a e f c=>h.2 b v a e (key f c) c⟩
 ·exact⟨h.1,h.2.1,λb v a e f c=>h.2.2 b v a e (key f c) c⟩
 ·exact h
 grind
theorem nb.add {vs:bu}{bC:Nat->Option cW}(h:nb E A vs bC){q:Nat}{v:bE}(ar:vs[q]?=some v){d:cW}(j:mj E A v):nb E A vs (fp bC q d):=λg i a b c f=>by
 rcases kz c with⟨e,_⟩ | ⟨_,e⟩
 ·grind
 ·exact h g i a b e f
theorem np.add (h:np E A g){A':bA}(hm:dU E A A'){q:Nat}{v:bE}(ar:(dZ E g.aF)[q]?=some v){d:cW}(r:(d.code=0/\(d.words.length:Int)=v.v.iK)\/(d.code=5/\d.words=[]/\A'.dO v.node.toNat=true)):np E A' ⟨g.aF,fp g.bC q d⟩:=λl i k=>by
 rcases kz k with⟨o,p⟩ | ⟨_,e⟩
 ·grind
 ·obtain⟨n,j,f⟩:=h l i e;refine⟨n,j,?_⟩;rcases f with f | ⟨a,b,c⟩
  ·grind
  ·exact .inr ⟨a,b,hm.dO _ c⟩
theorem np.mono (h:np E A g){A':bA}(hm:dU E A A'):np E A' g:=λj e i=>by
 obtain⟨k,f,d⟩:=h j e i;refine⟨k,f,?_⟩;rcases d with d | ⟨a,b,c⟩
 ·grind
 ·exact .inr ⟨a,b,hm.dO _ c⟩
structure uL (E:Env)(A:bA)(g:gd)(ns:List aO)(j:Nat)(C:bB)(l:cL)(x:aO)(A':bA)(kt:gd):Prop where
 aF:kt.aF=g.aF
 rep:jh E A' (ns.set j (l.pair.step x).2.1)
 law:e3 E A'
 ok:e' E A' kt
 res:np E A' kt
 sv:gL (C.comes j l (l.pair.step x).1 (l.pair.step x).2.2) (dZ E g.aF) kt.bC
 TB:g.aF=0->o' E (C.comes j l (l.pair.step x).1 (l.pair.step x).2.2) (ns.set j (l.pair.step x).2.1)
 gI:oj E A A'
 stay:A.dO j=true->A'=A/\ns.set j (l.pair.step x).2.1=ns
 IS:(A'.dY,A'.dO)=(A.dY,A.dO)
theorem uL.dY {E:Env}{A:bA}{g:gd}{ns:List aO}{j:Nat}{C:bB}{l:cL}{x:aO}{A':bA}{a:gd}(h:uL E A g ns j C l x A' a):A'.dY=A.dY:=eh Prod.fst h.IS
theorem uL.dO {E:Env}{A:bA}{g:gd}{ns:List aO}{j:Nat}{C:bB}{l:cL}{x:aO}{A':bA}{a:gd}(h:uL E A g ns j C l x A' a):A'.dO=A.dO:=eh Prod.snd h.IS
theorem tN {A':bA}(hm:dU E A A'){j:Nat}(a:j<E.n)(b:A.dO j=false):oj E A A':=
 ⟨hm,λh=>(by have:=h j a;grind),λh=>(by have:=h j a;grind)⟩
theorem Ev:oj E A A:=⟨dU.refl E A,λ_ h=>h,λ_ _ p _ h=>h⟩
theorem AV (aA:cl E){aF q:Nat}{v:bE}(h:(dZ E aF)[q]?=some v):ic E.n E.L v/\v.v.Kind≠1:=by
 have b:=aA.e.n;have c:=aA.e.L;have d:=aA.k5
 match aF,h with
 | 0,h=>simp only[dZ,hS]at h;obtain⟨m,hm,rfl⟩:=kQ.1 h;have:=jd.1 (cu hm);exact⟨pd b.2 this (by omega) (by omega) (by omega) (by omega) (by grind),by show(2:Int)≠1;omega⟩
 | 1,h=>simp only[dZ,hS]at h;obtain⟨p,a,rfl⟩:=kQ.1 h;have f:=aA.pl (cu a);exact⟨n5 b.2 (by omega) (by omega) (by omega) (by omega),by show(3:Int)≠1;omega⟩
 | 2,h=>simp only[dZ,hS]at h;obtain⟨m,hm,rfl⟩:=kQ.1 h;have:=jd.1 (cu hm);exact⟨pd b.2 this (by omega) (by omega) (by simp) (by simp) (by grind),by show(2:Int)≠1;omega⟩
 | 3,h=>
  obtain⟨m,hm,_,⟨p,a,rfl⟩ | ⟨rfl,_⟩⟩:=xl h
  ·exact⟨r5 aA hm a,by show(2:Int)≠1;omega⟩
  ·exact⟨r6 aA hm,by show(2:Int)≠1;omega⟩
 |n+4,h=>
  obtain⟨_,⟨_,rfl⟩ | ⟨_,p,a,rfl⟩⟩:=xm (show(f' E (bL E))[q]?=some v from h)
  ·exact⟨r6 aA (by omega),by show(2:Int)≠1;omega⟩
  ·exact⟨r5 aA (by omega) a,by show(2:Int)≠1;omega⟩
theorem SS (aA:cl E){ns:List aO}{j:Nat}{C:bB}{l:cL}{x:aO}{v:bE}{e1:bu}{q:Nat}{cp:cV}(Q:jh E A ns)(V:e3 E A)(z:e' E A g)(W:np E A g)(bY:g.aF<=4)(ab:gL C (dZ E g.aF) g.bC)(b:Aw E ns 0 j C (dZ E g.aF) g.bC l x v e1 q cp)(Z:g.aF=0->o' E C ns) :
  ∃ A' bs,uL E A g ns j C l x A' bs:=by
 obtain⟨aM,aT⟩:=AV aA b.at_;have bV:=aA.e.n;have r:=Q.mem j x b.node;have B:j<E.n:=by have:=dk b.node;rw[Q.len]at this;grind
 have s:=Gb r.aS bV.2 aM (p:=l.pair) (c:=0) b.pc b.pi (by omega);rw[aW (λe=>aT e.2)]at s;have b5:=r.aS.len;have bR:=aA.mC;have fin:∀ {d:cW},(l.pair.step x).1=l.pair.done->(l.pair.step x).2.2=some d->gL (C.comes j l (l.pair.step x).1 (l.pair.step x).2.2) (dZ E g.aF) (fp g.bC q d):=λ{d} t u=>by rw[t,u];exact ab.done b.lane b.h3 (by show l.pair.bj.tail=e1;rw[b.h3];rfl) b.pl d
 have D:(l.pair.step x).1=l.pair.done->g.aF=0->o' E (C.comes j l (l.pair.step x).1 (l.pair.step x).2.2) (ns.set j (l.pair.step x).2.1):=λt u=>(Z u).step b.lane b.node λi bN he=>by rw[t]at he;exact b_ he (by show¬ i<8*0;omega)
 cases F:A.dO j with
 |true=>
  rw[bm ⟨F,rfl⟩]at s;have f:=AO b.h3 (x:=x) (by grind);rw[s]at f;have t:(l.pair.step x).1=l.pair.done:=by rw[f]
  have u:(l.pair.step x).2.1=x:=by rw[f]
  have O:(l.pair.step x).2.2=some ⟨5,[]⟩:=by rw[f]
  refine⟨A,⟨g.aF,fp g.bC q ⟨5,[]⟩⟩,rfl,by rw[u,lD b.node];exact Q,V,z.no (by simp),W.add (dU.refl E A) b.at_ (.inr ⟨rfl,rfl,by rw[b.nd];grind⟩),fin t O,D t,Ev,λ_=>⟨rfl,by rw[u,lD b.node]⟩,rfl⟩
 |false=>
  rw[aW (λe=>by grind)]at s;have bq:¬ jf E A:=λh=>by have:=h j B;grind
  have stay:A.dO j=true->∀ {P:Prop},P:=λe=>by grind
  have N:∀ (H:Nat) (T:bE),H<q->(dZ E g.aF)[H]?=some T->T.node.toNat=j->∃ d,g.bC H=some d/\d.code=0:=λH T t u O=>by
   obtain⟨d,aL⟩:=ab.before b.lane b.pl t u O;obtain⟨v2,U,Y⟩:=W H d aL
   grind
  have one:∀ {a:Nat} {ws:ba},v=cH j (a:Int) ws->a % 8=0->ws.length<=8->a+ws.length<=x.words.length->l.pair.step x=(l.pair.done,x.write a ws,some ⟨0,[]⟩):=λ{a ws} e bK bJ bO=>by have K:=b.h3;rw[e]at K s;exact GO b.ct K s bK (b.ny _ _ K rfl) bO bJ
  obtain e | e | e | e | e:g.aF=0\/g.aF=1\/g.aF=2\/g.aF=3\/g.aF=4:=by omega
  ·
   unfold e' at z;rw[e]at z;obtain⟨I,b8,X,ca⟩:=z;have o:=b.at_;rw[e]at o
   simp only[dZ,hS]at o
   obtain⟨m,hm,rfl⟩:=kQ.1 o
   have ae:m=q:=by
    grind
   subst ae;have ad:m=j:=by have:=b.nd;grind[cH]
   subst ad;have bo:=aA.k5;have aq:=b.ny _ _ b.h3 rfl;obtain⟨s1,s2,aI,br,b9⟩:=A3 (a:=56) b.ct b.h3 s (by omega) aq (by omega);have b4:=Z e m l x b.lane b.node;have L:∀ {A':bA},(∀ p ∈ bL E,A'.bT m (bx p)=A.bT m (bx p))->A'.c2 m=A.c2 m->A'.dL m=A.dL m->A'.dO m=A.dO m->(m=0->A'.dY=A.dY)->(A'.fi m=true->∀ k,k<(fE E).length->(l.pair.step x).2.1.get (56+k)=(fE E).getD k 0)->Mem E A' m (l.pair.step x).2.1:=λt u O bD bG bH=>
    r.low aA aI (by omega) (by omega) t bD (.inl (by omega)) (by rw[aI.get _ (by omega),O];exact r.dL) (by rw[aI.get _ (by omega),u];exact r.c2) (λbh=>by rw[aI.get _ (by omega),bG bh];exact r.dY bh) bH
   rcases b9 with⟨t1,t2,t3⟩ | ⟨t1,t2,t3⟩
   ·refine⟨A,g,rfl,Q.fp b.node (L (λ_ _=>rfl) rfl rfl rfl (λ_=>rfl) λbo k aE=>br k aE (.inr (r.fi bo k aE))) (λ_ _ _ h=>h),V,by grind[e'],W,?_,λ_=>(Z e).step b.lane b.node λi bN he=>?_,Ev,λe=>stay e,rfl⟩
    ·rw[t2,t3];exact ab.more b.lane rfl
    grind
   ·have ah:∀ k,k<(fE E).length->(l.pair.step x).2.1.get (56+k)=(fE E).getD k 0:=λk aE=>br k aE (by
     grind)
    have w:dU E A (A.p0 m):=P9;refine⟨A.p0 m,⟨g.aF,fp g.bC m ⟨0,[]⟩⟩,rfl,Q.fp b.node (L (λ_ _=>rfl) rfl rfl rfl (λ_=>rfl) λ_=>ah) (λag G y aB=>aB.same (λ_ _=>rfl) rfl rfl (by grind[bA.p0]) rfl (λ_=>rfl)),V.TA m,?_,W.add w b.at_ (.inl ⟨rfl,rfl⟩),fin t2 t3,D t2,tN w B F,λe=>stay e,rfl⟩;unfold e';simp only[e];refine⟨I,b8,X,λag G d t u=>?_⟩
    grind[kz,bA.p0]
  ·
   unfold e' at z;rw[e]at z;obtain⟨I,b8,X⟩:=z;have o:=b.at_;rw[e]at o
   simp only[dZ,hS]at o
   obtain⟨p,J,rfl⟩:=kQ.1 o
   have aR:j=0:=by have:=b.nd;grind[fV]
   subst aR;have S:=cu J;have bQ:=aA.pl S;have R:=(X q p J).1 b.bC;obtain⟨aP,_⟩:=r.dR aA S (by omega);have aP:=aP R;have K:l.pair.bj=fV 0 ((bx p*8:Nat):Int) p.Head (ew p.Head 0)::e1:=by rw[b.h3,show p.bw*8=((bx p*8:Nat):Int) by omega]
   have f:=uy (x:=x) b.ct K (by grind);rw[aP]at f;have ao:x.gz ((bx p*8:Nat):Int) p.Head (ew p.Head 0)={x with words:=x.words.set (bx p*8) (ew p.Head 0)}:=by
    unfold aO.gz
    grind
   rw[ao]at f;have w:dU E A (A.gT 0 (bx p) 1):=wI λbk=>by omega
   refine⟨A.gT 0 (bx p) 1,⟨g.aF,fp g.bC q ⟨0,[p.Head]⟩⟩,rfl,by rw[f];exact Q.fp b.node (r.Ue aA S R) (λag G y aB=>aB.same (λp' _=>by grind[bA.gT]) rfl rfl rfl rfl (λ_=>rfl)),V.s4 (by omega) (λe=>by omega) (λe=>by omega) (λe=>by omega) (λe=>by omega) (λe=>by omega),?_,W.add w b.at_ (.inl ⟨rfl,rfl⟩),fin (by rw[f]) (by rw[f]),D (by rw[f]),tN w B F,λe=>stay e,rfl⟩;unfold e';simp only[e];refine⟨I,b8,λH p' af=>⟨λt=>?_,λd t u=>?_⟩⟩
   ·obtain ⟨U,Y⟩:=wv t;have bX:bx p'≠bx p:=λbk=>by
     have:=aA.inj (cu af) S bk;subst this;have bW:=aA.job.nodup;have i1:((bL E).map (·.bw))[H]?=some p'.bw:=by grind
     have i2:((bL E).map (·.bw))[q]?=some p'.bw:=by grind
     grind[List.getElem?_inj,dk]
    simp only[bA.gT]
    grind
   ·rcases kz t with⟨U,Y⟩ | ⟨_,U⟩
    ·subst U Y;rw[J]at af;cases af;exact⟨rfl,.inl (by simp[bA.gT])⟩
    grind[bA.gT]
  ·
   unfold e' at z;rw[e]at z;obtain⟨I,b8,X⟩:=z;have o:=b.at_;rw[e]at o
   simp only[dZ,hS]at o
   obtain⟨m,hm,rfl⟩:=kQ.1 o
   have ae:m=q:=by
    grind
   subst ae;have ad:m=j:=by have:=b.nd;grind[cH]
   subst ad;have f:=one (a:=48) rfl (by omega) (by simp) (by grind);have R:∀ p ∈ bL E,A.bT 0 (bx p)≠0:=λp J=>by
    by_cases aZ:gh E A
    ·grind
    ·have:∃ m,m<E.n/\A.c2 m=true:=by
      refine Classical.byContradiction λcb=>aZ λm hm=>?_
      grind
     obtain⟨ag,G,aV⟩:=this;exact(V.l2 ag G aV).2 p J
   have w:dU E A (A.jv m):=Fa;refine⟨A.jv m,⟨g.aF,fp g.bC m ⟨0,[]⟩⟩,rfl,by rw[f];exact Q.fp b.node (r.vp aA) (λag G y aB=>aB.same (λp' _=>rfl) (by grind[bA.jv]) rfl rfl rfl (λ_=>rfl)),V.vp I R m,?_,W.add w b.at_ (.inl ⟨rfl,rfl⟩),fin (by rw[f]) (by rw[f]),D (by rw[f]),tN w B F,λe=>stay e,rfl⟩;unfold e';simp only[e];refine⟨I,λa1=>?_,λag G d t u=>?_⟩
   ·have:=a1 m B
    grind[bA.jv]
   grind[kz,bA.jv]
  ·
   unfold e' at z;rw[e]at z;obtain⟨I,b8⟩:=z;have o:=b.at_;rw[e]at o N;obtain⟨a,ws,A',r1,a5,a7,a8,b7,a9,a',M,bb,a4,b6⟩:=FL aA Q V I (λp J=>J) o b.nd b.node (λH T t u O=>by obtain⟨d,U,Y⟩:=N H T t u O;exact b8 H T d u U Y) λp J=>.inl J
   have f:=one r1 a5 a7 a8;refine⟨A',⟨g.aF,fp g.bC q ⟨0,[]⟩⟩,rfl,by grind,a9,?_,W.add M b.at_ (.inl ⟨rfl,by rw[r1];rfl⟩),fin (by rw[f]) (by rw[f]),D (by rw[f]),tN M B F,λe=>stay e,bb⟩;unfold e';simp only[e];exact⟨M.am I,(b8.mono M).add o a'⟩
  ·
   unfold e' at z;rw[e]at z;obtain⟨I,b8,X⟩:=z;have o:=b.at_;rw[e]at o N;obtain⟨a,ws,A',cd,r1,a5,a7,a8,b7,a9,a',M,bb,a4⟩:=FM aA Q V I b8 (λp J=>J) o b.nd b.node (λH T t u O=>by obtain⟨d,U,Y⟩:=N H T t u O;exact X H T d u U Y);have f:=one r1 a5 a7 a8;refine⟨A',⟨g.aF,fp g.bC q ⟨0,[]⟩⟩,rfl,by grind,a9,?_,W.add M b.at_ (.inl ⟨rfl,by rw[r1];rfl⟩),fin (by rw[f]) (by rw[f]),D (by rw[f]),tN M B F,λe=>stay e,bb⟩;unfold e';simp only[e];exact⟨M.am I,M.Bn b8,(X.mono M).add o a'⟩
end
end
end Go.Proofs.YtmkljjbioomepaaGreat
