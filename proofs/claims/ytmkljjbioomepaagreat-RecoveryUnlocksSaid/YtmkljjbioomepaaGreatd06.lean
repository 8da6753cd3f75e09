import Derived.Test.YtmkljjbioomepaaGreatProg
import Derived.Test.YtmkljjbioomepaaGreatd03
import Derived.Test.YtmkljjbioomepaaGreatd02
import Derived.Test.YtmkljjbioomepaaGreatd05
set_option linter.all false
namespace Go.Proofs.YtmkljjbioomepaaGreat
open Go.Proofs.Tryz Go.bs
variable {a:an} {at_ count:Int} {b aH c n:Nat} {e t ty:TypeId} {i:TypeInfo} {w w':ak} {xs:ax}
section
open IntKind
variable (w:ak) (R:cz) {a b c d e f:Nat} {i k l m n:Int} {A:aX} {s t u:an} {j:ar}
def sm (e:aX) (g a:an) (b c:Nat) (d f:Int) (j:ar):ar:=.pointer (some e)::ag j 0 4 (.pointer g::ag j 4 12 (ae a b c::ab d::ab f::ag j 16 31 []))
def At (a:an) (j:ar):ar:=ag j 0 5 (.pointer a::ag j 5 46 [])
theorem VG:bf prog f22 [ba a,ab i] R w=(dn 43 #[ba a,ab i] w λe j=>cond (!e) (R (ad false) j) (mL 44 #[ba a,ab i] j λb h=>fq b λg=>b_ h (bY g 2) λc d f=>cG prog (c7 f22 [1,1,1,0,1,0,0]) (sm (af a 0) b c d f (d:Nat) 0 (ab i::bD 2 (ad false::bD 2 (jp (af a 0)::ab i::ad e::ad (!e)::jp (af a 0)::ab i::.pointer b::.pointer b::jp g::bL g 2::bD 31 [])))) (aP 0 (aU f22 [1,1,1,1] R)) h)):=by kernel_rfl
theorem S6 (y:ar->aF):W prog (sb f22 [1,1,1,0,1,0,0]) (sm A s t a b i k j) (aZ y (aP 0 (aU f22 [1,1,1,1] R))) w=(cond (k<i) (bA t a k 2 λx=>GZ w x λg h d v=>aS w #[.pointer none,a5] 105 λe F=>a_ F (af e 0) 0 [.pointer g,ae h d v] λz=>mN z (af e 0) λl=>ct 45 #[.pointer l] z λm D=>cond (m>0) (cw D λG u=>e6 u (bY A 3) λn o p=>sO u (af e 0) λq=>aS G #[.pointer q] 103 λE B=>u B/\db 106 (ae n o p) (ae (bo E) 1 1) B λf r c C=>u C/\cP C (bY A 3) (ae f r c) λH=>y (sm A s t a b i (i64.wrap (k+1)) (ag j 0 5 (jp (af e 0)::ag j 6 10 (ad (k<i)::jp x::.agg #[.pointer g,ae h d v]::jp (af e 0)::.pointer l::ab m::ad (m>0)::jp A::jp A::jp A::bL A 3::ae n o p::jp (af e 0)::.pointer q::ae (bo E) 1 1::ae f r c::jp A::bL A 3::ab (i64.wrap (k+1))::ag j 35 12 [])))) H) (y (sm A s t a b i (i64.wrap (k+1)) (ag j 0 5 (jp (af e 0)::ag j 6 10 (ad (k<i)::jp x::.agg #[.pointer g,ae h d v]::jp (af e 0)::.pointer l::ab m::ad (m>0)::ag j 23 11 (ab (i64.wrap (k+1))::ag j 35 12 []))))) D)) (W prog (sb f22 [1,1,1,1]) (At s (jp A::ag j 0 16 (ae t a b::ab i::ab k::ad (k<i)::ag j 17 30 []))) (b7 f22 R) w)):=by kernel_rfl
theorem TX:W prog (sb f22 [1,1,1,1]) (At s j) (b7 f22 R) w=(fq s λa=>cP w a (ad false) λg=>fq s λb=>cP g (bY b 2) (a5) λf=>fq s λc=>cP f (bY c 3) (a5) λe=>fq s λd=>cP e (bY d 4) (ab 0) λh=>R (ad true) h):=by kernel_rfl
def xc (e:aX) (i:an) (a b:Nat) (c:an) (d f:Nat) (g h:Int) (j:ar):ar:=.pointer (some e)::ag j 0 2 (ae i a b::ag j 2 9 (ae c d f::ab g::ab h::ag j 11 45 []))
def F9 (a:aX) (d:an) (b c:Nat) (j:ar):ar:=.pointer (some a)::ag j 0 2 (ae d b c::ag j 2 57 [])
def uy (e:aX) (o:an) (a b:Nat) (p:Int) (c:an) (d f:Nat) (g h:Int) (i:an) (k l:Nat) (m n:Int) (j:ar):ar:=.pointer (some e)::ag j 0 2 (ae o a b::ab p::ag j 2 8 (ae c d f::ab g::ab h::ag j 10 5 (ae i k l::ab m::ab n::ag j 15 37 [])))
def F_ (a:aX) (e:an) (b c:Nat) (d:an) (f g:Nat) (h i:Int) (j:ar):ar:=.pointer (some a)::ag j 0 2 (ae e b c::ag j 2 9 (ae d f g::ab h::ab i::ag j 11 45 []))
def xd (e:an) (a b:Nat) (c:an) (d f:Nat) (g h:Int) (j:ar):ar:=ag j 0 3 (ae e a b::ag j 3 39 (ae c d f::ab g::ab h::ag j 42 15 []))
def F' (c:an) (a b:Nat) (j:ar):ar:=ag j 0 3 (ae c a b::ag j 3 57 [])
theorem Ut:bf prog f36 [ba a] R w=(b_ w (af a 2) λd b c=>cG prog (c7 f36 [1,1,0,1,0,0]) (xc (af a 0) none 0 0 d b c (b:Nat) 0 (undef::a5::bD 6 (jp (af a 0)::jp (af a 0)::jp (af a 2)::bD 45 []))) (aP 0 (aU f36 [1,1,1] R)) w):=by kernel_rfl
theorem Sk (z:ar->aF):W prog (sb f36 [1,1,0,1,0,0]) (xc A s a b t c d i k j) (aZ z (aP 0 (aU f36 [1,1,1] R))) w=(cond (k<i) (bA t c k 7 λC=>UE w C λf u l m n o p q r e g=>aS w #[ad false,ab 0,a5,a5,ab 0,ab 0,ab 0] 102 λh D=>a_ D (af h 0) 0 [ad f,ab u,ae l m n,ae o p q,ab r,ab e,ab g] λB=>b_ B (af h 2) λv x y=>cG prog (c7 f36 [1,1,0,1,0,0,1,1,0,0,1,1,0,0]) (uy A s a b k t c d i k v x y (x:Nat) 0 (aO j 0::aO j 1::jp (af h 0)::ag j 4 7 (ad (k<i)::ab k::jp C::.agg #[ad f,ab u,ae l m n,ae o p q,ab r,ab e,ab g]::jp (af h 2)::ag j 19 37 []))) (aP 2 (aP 1 (aZ (λE w=>W prog (sb f36 [1,1,0,1,0,0,1,1,1]) E (aZ z (aP 0 (aU f36 [1,1,1] R))) w) (aZ z (aP 0 (aU f36 [1,1,1] R)))))) B) (W prog (sb f36 [1,1,1]) (F9 A s a b (ag j 0 11 (ae t c d::ab i::ab k::ad (k<i)::ag j 12 44 []))) (b7 f36 R) w)):=by kernel_rfl
theorem SK:W prog (sb f36 [1,1,1]) (F9 A s a b j) (b7 f36 R) w=(b_ w (bY A 3) λd f g=>cG prog (c7 f36 [1,1,1,0,1,0,0]) (xd s a b d f g (f:Nat) 0 (jp A::ag j 0 38 (jp A::jp A::bL A 3::ag j 44 15 []))) (aP 4 (aU f36 [1,1,1,1] R)) w):=by kernel_rfl
theorem Sl (C:ar->aF) (D:ar->aF):W prog (sb f36 [1,1,0,1,0,0,1,1,0,0,1,1,0,0]) (uy A s a b i t c d k l u e f m n j) (aZ D (aP 2 (aP 1 (aZ (λK w=>W prog (sb f36 [1,1,0,1,0,0,1,1,1]) K (aZ C (aP 0 (aU f36 [1,1,1] R))) w) (aZ C (aP 0 (aU f36 [1,1,1] R))))))) w=(cond (n<m) (bA u e n 2 λB=>GZ w B λo p q r=>aS w #[.pointer none,a5] 105 λz H=>a_ H (af z 0) 0 [.pointer o,ae p q r] λE=>mN E (af z 0) λg=>ct 45 #[.pointer g] E λh F=>cond (h>0) (aS F #[ab (-1),ab i,ab n] 89 λG a9=>db 85 (ae s a b) (ae (bo G) 1 1) a9 λy v x a'=>D (uy A y v x i t c d k l u e f m (i64.wrap (n+1)) (aO j 0::aO j 1::aO j 2::ab n::jp (af z 0)::ag j 5 10 (ad (n<m)::ab n::jp B::.agg #[.pointer o,ae p q r]::jp (af z 0)::.pointer g::ab h::ad (h>0)::ae s a b::ab i::ab n::.agg #[ab (-1),ab i,ab n]::ae (bo G) 1 1::ae y v x::ab (i64.wrap (n+1))::ag j 30 22 []))) a') (D (uy A s a b i t c d k l u e f m (i64.wrap (n+1)) (aO j 0::aO j 1::aO j 2::ab n::jp (af z 0)::ag j 5 10 (ad (n<m)::ab n::jp B::.agg #[.pointer o,ae p q r]::jp (af z 0)::.pointer g::ab h::ad (h>0)::ag j 23 6 (ab (i64.wrap (n+1))::ag j 30 22 [])))) F)) (W prog (sb f36 [1,1,0,1,0,0,1,1,1]) (F_ A s a b t c d k l (aO j 0::aO j 1::ab i::ag j 2 13 (ae u e f::ab m::ab n::ad (n<m)::ag j 16 36 []))) (aZ C (aP 0 (aU f36 [1,1,1] R))) w)):=by kernel_rfl
theorem SL (e:ar->aF):W prog (sb f36 [1,1,0,1,0,0,1,1,1]) (F_ A s a b t c d i k j) (aZ e (aP 0 (aU f36 [1,1,1] R))) w=(e (xc A s a b t c d i (i64.wrap (k+1)) (ag j 0 34 (ab (i64.wrap (k+1))::ag j 35 21 []))) w):=by kernel_rfl
theorem Sm (o:ar->aF):W prog (sb f36 [1,1,1,0,1,0,0]) (xd s a b t c d i k j) (aZ o (aP 4 (aU f36 [1,1,1,1] R))) w=(cond (k<i) (bA t c k 1 λn=>mN w n λx=>ct 67 #[.pointer x] w λe r=>ct 68 #[.pointer x] r λg q=>aS q #[ab k,ab e,ab g] 89 λh p=>db 85 (ae s a b) (ae (bo h) 1 1) p λf l m u=>o (xd f l m t c d i (i64.wrap (k+1)) (ag j 0 7 (ab k::.pointer x::ag j 9 33 [ad (k<i),ab k,jp n,.pointer x,ae s a b,ab k,.pointer x,ab e,.pointer x,ab g,.agg #[ab k,ab e,ab g],ae (bo h) 1 1,ae f l m,ab (i64.wrap (k+1)),aO j 56]))) u) (W prog (sb f36 [1,1,1,1]) (F' s a b (ag j 0 42 (ae t c d::ab i::ab k::ad (k<i)::ag j 43 14 []))) (b7 f36 R) w)):=by kernel_rfl
theorem SM:W prog (sb f36 [1,1,1,1]) (F' s a b j) (b7 f36 R) w=(R (ae s a b) w):=by kernel_rfl
theorem Vk (C:Nat) (a b c:Int) (w:ak) (R:cz):bf prog f37 [ba C,.agg #[ab a,ab b,ab c]] R w=(aS w #[ab a,ab b,ab c] 89 λb1 w1=>bX w1 (af b1 0) λd=>cond (d>=0) (bX w1 (af b1 0) λf=>dn 69 #[ba C,ab f] w1 λg X6=>R (ad g) X6) (bX w1 (af b1 0) λh=>cond (h<(-1)) (R (ad false) w1) (bX w1 (af b1 1) λi=>mL 44 #[ba C,ab i] w1 λk X7=>cw X7 λD A=>cond (Option.isNone k) (R (ad false) D) (cV A (af b1 2) λl=>cond (l<0) (R (ad false) D) (cV A (af b1 2) λm=>fq k λmu=>e6 A (bY mu 2) λn o p=>cond (m>=(o:Nat)) (R (ad false) D) (fq k λXW=>e6 A (bY XW 2) λq r s=>cV A (af b1 2) λt=>bA q r t 2 λbx=>sO A bx λv=>ct 45 #[.pointer v] D λy E=>A E/\cond (y == 0) (R (ad false) E) (cw E λX8 B=>fq k λbv=>e6 B (bY bv 2) λz aa Yc=>cV B (af b1 2) λac=>bA z aa ac 2 λaH=>cw X8 λQ e=>sO e aH λG=>e6 e (af C 1) λXx Xy Yd=>cV e (af b1 2) λXz=>bA Xx Xy Xz 1 λXX=>sO e XX λx=>(AU 70 #[.pointer G,.pointer x] Q λXA XB da am XC S=>e S/\aS S #[ab 0,a5] 131 λaB T=>e T/\a_ T (af aB 0) 0 [ab XA,ae XB da am] λM=>cond XC (cw M λk5 j=>fq k λXK=>e6 j (bY XK 3) λXD ap Ye=>e6 j (bY aH 1) λXE XF Yf=>bA XE XF 0 1 λXL=>cV j XL λX9=>AP j (af aB 0) λXG XH XI XJ=>bA XD ap X9 2 λXM=>a_ k5 XM 0 [ab XG,ae XH XI XJ] λI=>b_ I (bY aH 1) λU F b2=>hY U F b2 1 (F:Nat) (b2:Nat) 1 λX' Yb Ya=>eZ 71 #[ae X' Yb Ya] I λV W X XN=>cP XN (bY aH 1) (ae V W X) λJ=>fq k λXY=>bX J (bY XY 4) λY=>fq k λaY=>cP J (bY aY 4) (ab (i64.wrap (Y - 1))) λcc=>R (ad true) cc) (R (ad true) M))/\aS Q #[ab 0,a5] 131 λH N=>e N/\AU 70 #[.pointer G,.pointer x] N λZ Xv Xw XO dm ce=>e ce/\a_ ce (af H 0) 0 [ab Z,ae Xv Xw XO] λO=>cond dm (cw O λXZ u=>fq k λX0=>e6 u (bY X0 3) λfi ez be=>e6 u (bY aH 1) λXP XQ Yg=>bA XP XQ 0 1 λci=>cV u ci λX_=>AP u (af H 0) λbi XR qE XS=>bA fi ez X_ 2 λX1=>a_ XZ X1 0 [ab bi,ae XR qE XS] λdJ=>b_ dJ (bY aH 1) λXT K L=>hY XT K L 1 (K:Nat) (L:Nat) 1 λcE X2 X3=>eZ 71 #[ae cE X2 X3] dJ λjN XU XV co=>cP co (bY aH 1) (ae jN XU XV) λP=>fq k λX4=>bX P (bY X4 4) λhx=>fq k λX5=>cP P (bY X5 4) (ab (i64.wrap (hx - 1))) λcs=>R (ad true) cs) (R (ad true) O)))))))):=by kernel_rfl
theorem UW:bf prog f38 [ba a] R w=(b_ w (af a 1) λd b c=>R (ab (b:Nat)) w):=by kernel_rfl
theorem Vl:bf prog f39 [ba a,ab i] R w=(cond (i<0) (R (.pointer none) w) (b_ w (af a 1) λe b c=>cond (i>=(b:Nat)) (R (.pointer none) w) (b_ w (af a 1) λd f g=>bA d f i 1 λh=>mN w h λx=>R (.pointer x) w))):=by kernel_rfl
theorem UX:bf prog f43 [ba a,ab i] R w=(mL 44 #[ba a,ab i] w λd e=>cond (!(Option.isNone d)) (fq d λc=>kj e c λb=>R (ad b) e) (R (ad false) e)):=by kernel_rfl
theorem Gk:bf prog f44 [ba a,ab i] R w=(cond (i<0) (R (.pointer none) w) (b_ w (af a 2) λe b c=>cond (i>=(b:Nat)) (R (.pointer none) w) (b_ w (af a 2) λd f g=>bA d f i 7 λh=>R (.pointer (some h)) w))):=by kernel_rfl
def xM (s2:Int) (s8:aX) (a b:Int) (j:ar):ar:=ag j 0 2 (ab s2::ag j 2 5 (.pointer (some s8)::ag j 7 30 (ab a::ab b::ag j 37 33 [])))
def G' (a:aX) (j:ar):ar:=ag j 0 8 (.pointer (some a)::ag j 8 65 [])
def xN (s8:aX) (a b:Int) (j:ar):ar:=ag j 0 8 (.pointer (some s8)::ag j 8 56 (ab a::ab b::ag j 64 7 []))
def Ha (a:aX) (j:ar):ar:=ag j 0 8 (.pointer (some a)::ag j 8 65 [])
theorem IA:bf prog f46 [ab i,ab k,ab l] R w=(cond (i<1) (R (.tuple #[.pointer none,ab 1]) w) (cond (i>5) (R (.tuple #[.pointer none,ab 1]) w) (cond (k<1) (R (.tuple #[.pointer none,ab 1]) w) (cond (k>6) (R (.tuple #[.pointer none,ab 1]) w) (cond (l<1) (R (.tuple #[.pointer none,ab 2]) w) (cond (l>256) (R (.tuple #[.pointer none,ab 2]) w) (qU k k 88 (.cells (jE (Int.toNat k) [ad false,ab 0,a5,a5,ab 0,ab 0,ab 0]).toArray 102) w λa c=>aS c #[ab l,a5,ae (bo a) (Int.toNat k) (Int.toNat k),a5] 110 λb d=>cG prog (c7 f46 [1,1,1,0,1,0,0]) (xM l (af b 0) i 0 (ab i::ab k::bD 3 (.pointer none::ab 0::bD 3 (ad (k>6)::ab i::ad (i<1)::ad false::ab i::ad (i>5)::ad (i>5)::ad false::ab k::ad (k<1)::ad (k<1)::ad false::ab k::ad (k>6)::ad (k>6)::ad (l>256)::ab l::ad (l<1)::ad false::ab l::ad (l>256)::ad (l>256)::ab l::ab k::ae (bo a) (Int.toNat k) (Int.toNat k)::.agg #[ab l,a5,ae (bo a) (Int.toNat k) (Int.toNat k),a5]::jp (af b 0)::bD 33 [])))) (aP 1 (aU f46 [1,1,1,1] R)) d))))))):=by kernel_rfl
theorem Vm (n:ar->aF):W prog (sb f46 [1,1,1,0,1,0,0]) (xM i A k l j) (aZ n (aP 1 (aU f46 [1,1,1,1] R))) w=(cond (l<k) (AQ 74 #[ab i] w λc d e=>cond (d != 0) (R (.tuple #[.pointer none,ab d]) e) (b_ e (bY A 1) λf g h=>aS e #[.pointer c] 92 λo q=>db 107 (ae f g h) (ae (bo o) 1 1) q λb a m p=>cP p (bY A 1) (ae b a m) λr=>n (xM i A k (i64.wrap (l+1)) (ag j 0 7 (.pointer c::ab d::ag j 9 28 (ad (l<k)::.tuple #[.pointer c,ab d]::ab i::.tuple #[.pointer c,ab d]::.pointer c::ab d::ab d::ad ((d:Int) != 0)::aO j 45::jp A::jp A::jp A::bL A 1::ae f g h::.pointer c::ae (bo o) 1 1::ae b a m::jp A::bL A 1::ab (i64.wrap (l+1))::ag j 57 13 [])))) r)) (W prog (sb f46 [1,1,1,1]) (G' A (aO j 0::aO j 1::ab i::ag j 2 35 (ab k::ab l::ad (l<k)::ag j 38 32 []))) (b7 f46 R) w)):=by kernel_rfl
theorem We:W prog (sb f46 [1,1,1,1]) (G' A j) (b7 f46 R) w=(b_ w (bY A 2) λb c d=>cG prog (c7 f46 [1,1,1,1,0,1,0,0]) (xN A (c:Nat) 0 (ag j 0 60 (jp A::jp A::bL A 2::ae b c d::ag j 66 7 []))) (aP 3 (aU f46 [1,1,1,1,1] R)) w):=by kernel_rfl
theorem Vn (a:ar->aF):W prog (sb f46 [1,1,1,1,0,1,0,0]) (xN A i k j) (aZ a (aP 3 (aU f46 [1,1,1,1,1] R))) w=(cond (k<i) (uX 53 #[.pointer (some A),ab k,ab 1] w λb=>a (xN A i (i64.wrap (k+1)) (ag j 0 10 (ab k::ag j 11 53 [ad (k<i),ab k,jp A,ab k,.tuple #[],ab (i64.wrap (k+1)),aO j 70]))) b) (W prog (sb f46 [1,1,1,1,1]) (Ha A (ag j 0 64 (ab i::ab k::ad (k<i)::ag j 65 6 []))) (b7 f46 R) w)):=by kernel_rfl
theorem Wf:W prog (sb f46 [1,1,1,1,1]) (Ha A j) (b7 f46 R) w=(R (.tuple #[.pointer (some A),ab 0]) w):=by kernel_rfl
def uz (s1 s2:Int) (c:aX) (a b:Int) (j:ar):ar:=ag j 0 1 (ab s1::ab s2::ag j 1 3 (.pointer (some c)::ag j 4 23 (ab a::ab b::ag j 27 21 [])))
theorem Uu:bf prog f53 [ba a,ab i,ab k] R w=(b_ w (af a 2) λe b c=>bA e b i 7 λh=>cP w h (ad true) λm=>cP m (bY h 1) (ab k) λl=>cP l (bY h 2) (a5) λj=>b_ j (af a 1) λd f g=>cG prog (c7 f53 [1,1,1,0,0]) (uz i k h (f:Nat) 0 (jp (af a 0)::bD 6 (jp (af a 0)::jp (af a 0)::jp (af a 2)::ae e b c::ab i::jp h::jp h::jp h::jp h::ab k::jp h::jp h::jp h::bL h 1::jp h::bL h 2::jp (af a 0)::jp (af a 0)::jp (af a 1)::ae d f g::bD 21 []))) (aP 0 (b7 f53 R)) j):=by kernel_rfl
theorem Sn (o:ar->aF):W prog (sb f53 [1,1,1,0,0]) (uz i k A l m j) (aZ o (aP 0 (b7 f53 R))) w=(cond (m<l) (AQ 80 #[ab i,ab k,ab m] w λc d n=>b_ n (bY A 2) λf g h=>aS n #[.pointer c,a5] 105 λp r=>db 99 (ae f g h) (ae (bo p) 1 1) r λb a e q=>cP q (bY A 2) (ae b a e) λs=>o (uz i k A l (i64.wrap (m+1)) (ag j 0 4 (ab m::.pointer c::ab d::ag j 7 20 [ad (m<l),ab m,.tuple #[.pointer c,ab d],ab i,ab k,ab m,.tuple #[.pointer c,ab d],.pointer c,ab d,jp A,jp A,jp A,bL A 2,ae f g h,.pointer c,.agg #[.pointer c,a5],ae (bo p) 1 1,ae b a e,jp A,bL A 2,ab (i64.wrap (m+1))]))) s) (R (.tuple #[]) w)):=by kernel_rfl
theorem S4:bf prog f62 [ba a,ab i] R w=(cond (i<0) (R (ad false) w) (b_ w (af a 3) λe b c=>cond (i>=(b:Nat)) (R (ad false) w) (b_ w (af a 3) λd f g=>eZ 89 #[ae d f g,ab i,ab (i64.wrap (i+1))] w λh j k m=>cP m (af a 3) (ae h j k) λl=>R (ad true) l))):=by kernel_rfl
theorem Uv:bf prog f63 [ba a,ab i] R w=(mL 44 #[ba a,ab i] w λe d=>cond (!(Option.isNone e)) (fq e λc=>bX d (bY c 4) λb=>R (ab b) d) (R (ab 0) d)):=by kernel_rfl
theorem Vo:bf prog f64 [ba a,ab i] R w=(mL 44 #[ba a,ab i] w λj q=>cond (Option.isNone j) (R (.tuple #[a5,ad false]) q) (fq j λl=>kj q l λb=>cond (!b) (R (.tuple #[a5,ad false]) q) (fq j λm=>b_ q (bY m 3) λc d f=>cond (Option.isNone c) (R (.tuple #[a5,ad false]) q) (fq j λn=>bX q (bY n 4) λg=>cond (g>0) (R (.tuple #[a5,ad false]) q) (fq j λo=>b_ q (bY o 3) λh e k=>fq j λp=>cP q (bY p 3) (a5) λr=>R (.tuple #[ae h e k,ad true]) r))))):=by kernel_rfl
def xi (e:aX) (s2:an) (a b:Nat) (i c:an) (d f:Nat) (g h:Int) (j:ar):ar:=.pointer (some e)::ag j 0 1 (ae s2 a b::ag j 1 4 (.pointer i::ag j 5 33 (ae c d f::ab g::ab h::ag j 38 80 [])))
def Gl (a:aX) (s2:an) (b c:Nat) (d:an) (j:ar):ar:=.pointer (some a)::ag j 0 1 (ae s2 b c::ag j 1 4 (.pointer d::ag j 5 116 []))
def uA (e:aX) (s2:an) (a b:Nat) (i c:an) (d f:Nat) (g h:Int) (j:ar):ar:=.pointer (some e)::ag j 0 1 (ae s2 a b::ag j 1 4 (.pointer i::ag j 5 54 (ae c d f::ab g::ab h::ag j 59 59 [])))
def Au (s2:an) (a b:Nat) (c:an) (j:ar):ar:=ag j 0 2 (ae s2 a b::ag j 2 4 (.pointer c::ag j 6 116 []))
theorem Vp:bf prog f66 [ba a,ab i,ae s b c] R w=(mL 44 #[ba a,ab i] w λj l=>cond (Option.isNone j) (R (ab 1) l) (fq j λe=>kj l e λd=>cond (!d) (R (ab 1) l) (fq j λk=>b_ l (bY k 3) λf g h=>cond (!(Option.isNone f)) (R (ab 3) l) (cond ((b:Int) == 0) (R (ab 1) l) (cond ((b:Int)>1024) (R (ab 18) l) (cG prog (c7 f66 [1,1,1,0,1,0,0]) (xi (af a 0) s b c j s b c (b:Nat) 0 (ab i::bD 3 (ab 0::bD 6 (jp (af a 0)::ab i::.pointer j::ad (!d)::.pointer j::ad (Option.isNone j)::ad false::.pointer j::jp e::jp e::ad d::ad (!d)::ad (!d)::ad (!(Option.isNone f))::.pointer j::jp k::bL k 3::ae f g h::ad (!(Option.isNone f))::ad ((b:Int) == 0)::ae s b c::eo b::ad ((b:Int) == 0)::ad ((b:Int)>1024)::ae s b c::eo b::ad ((b:Int)>1024)::bD 80 [])))) (aP 1 (aU f66 [1,1,1,1] R)) l)))))):=by kernel_rfl
theorem SN (a9:ar->aF):W prog (sb f66 [1,1,1,0,1,0,0]) (xi A s a b t u c d i k j) (aZ a9 (aP 1 (aU f66 [1,1,1,1] R))) w=(cond (k<i) (bA u c k 9 λa'=>jC w a' λe h L Q l m n o p q r=>aS w #[ab 0,ab 0,ab 0,ab 0,ah 0,ah 0,a5,ah 0,ab 0] 158 λG V=>a_ V (af G 0) 0 [ab e,ab h,ab L,ab Q,ah l,ah m,ae n o p,ah q,ab r] λS=>cw S λI C=>mM C (af G 0) λf g v x y z O K M H N=>e6 C (bY A 1) λD E T=>cV C A λP=>ct 94 #[.agg #[ab f,ab g,ab v,ab x,ah y,ah z,ae O K M,ah H,ab N],ab (E:Nat),ab P] I λB F=>C F/\cond (B != 0) (R (ab B) F) (a9 (xi A s a b t u c d i (i64.wrap (k+1)) (ag j 0 6 (jp (af G 0)::ab B::ag j 8 30 (ad (k<i)::jp a'::.agg #[ab e,ab h,ab L,ab Q,ah l,ah m,ae n o p,ah q,ab r]::.agg #[ab f,ab g,ab v,ab x,ah y,ah z,ae O K M,ah H,ab N]::jp A::jp A::bL A 1::ae D E T::eo E::jp A::jp A::jp A::ab P::ab B::ab B::ad ((B:Int) != 0)::aO j 54::ab (i64.wrap (k+1))::ag j 56 62 [])))) F)) (W prog (sb f66 [1,1,1,1]) (Gl A s a b t (ag j 0 38 (ae u c d::ab i::ab k::ad (k<i)::ag j 39 79 []))) (b7 f66 R) w)):=by kernel_rfl
theorem Tw:W prog (sb f66 [1,1,1,1]) (Gl A s a b t j) (b7 f66 R) w=(cG prog (c7 f66 [1,1,1,1,0,1,0,0]) (uA A s a b t s a b (a:Nat) 0 (ag j 0 59 (ag j 62 59 []))) (aP 3 (aU f66 [1,1,1,1,1] R)) w):=by kernel_rfl
theorem Tj (XA:ar->aF):W prog (sb f66 [1,1,1,1,0,1,0,0]) (uA A s a b t u c d i k j) (aZ XA (aP 3 (aU f66 [1,1,1,1,1] R))) w=(cond (k<i) (bA u c k 9 λM=>jC w M λe C S Xy l m n o p q r=>aS w #[ab 0,ab 0,ab 0,ab 0,ah 0,ah 0,a5,ah 0,ab 0] 158 λD I=>a_ I (af D 0) 0 [ab e,ab C,ab S,ab Xy,ah l,ah m,ae n o p,ah q,ab r] λXB=>cw XB λiY B=>fq t λG=>e6 B (bY G 2) λf g v=>cV B (af D 1) λx=>bA f g x 2 λh=>cw iY λXD H=>sO H h λy=>mM H (af D 0) λz Z Q Xv N X E a9 O Xx V=>cV H A λY=>ct 95 #[.pointer y,.agg #[ab z,ab Z,ab Q,ab Xv,ah N,ah X,ae E a9 O,ah Xx,ab V],ab Y] XD λXE K=>b_ K (bY h 1) λL Xz a'=>aS K #[ab k] 3 λT U=>db 22 (ae L Xz a') (ae (bo T) 1 1) U λF Xw P J=>cP J (bY h 1) (ae F Xw P) λXC=>XA (uA A s a b t u c d i (i64.wrap (k+1)) (ag j 0 8 (ab k::jp (af D 0)::jp h::ag j 11 48 (ad (k<i)::ab k::jp M::.agg #[ab e,ab C,ab S,ab Xy,ah l,ah m,ae n o p,ah q,ab r]::.pointer t::jp G::bL G 2::ae f g v::jp (af D 1)::ab x::jp h::jp h::jp h::jp h::.pointer y::.agg #[ab z,ab Z,ab Q,ab Xv,ah N,ah X,ae E a9 O,ah Xx,ab V]::jp A::jp A::jp A::ab Y::ab XE::jp h::jp h::jp h::bL h 1::ae L Xz a'::ab k::ae (bo T) 1 1::ae F Xw P::jp h::bL h 1::ab (i64.wrap (k+1))::ag j 91 27 [])))) XC) (W prog (sb f66 [1,1,1,1,1]) (Au s a b t (jp A::ag j 0 59 (ae u c d::ab i::ab k::ad (k<i)::ag j 60 58 []))) (b7 f66 R) w)):=by kernel_rfl
theorem Tx:W prog (sb f66 [1,1,1,1,1]) (Au s a b t j) (b7 f66 R) w=(qU (a:Nat) (a:Nat) 32 (.cells (jE (Int.toNat (a:Nat)) [ab 0,a5]).toArray 131) w λq o=>fq t λf=>cP o (bY f 3) (ae (bo q) (Int.toNat (a:Nat)) (Int.toNat (a:Nat))) λn=>fq t λg=>cP n (bY g 4) (ab (a:Nat)) λe=>fq t λh=>bX e (bY h 5) λc=>fq t λi=>cP e (bY i 5) (ab (i64.wrap (c+1))) λm=>fq t λk=>bX m (bY k 6) λd=>fq t λl=>cP m (bY l 6) (ab (i64.wrap (d+(a:Nat)))) λp=>R (ab 0) p):=by kernel_rfl
theorem S5:bf prog f69 [ba a,ab i] R w=(b_ w (af a 3) λj b c=>cond (i>=(b:Nat)) (R (ad false) w) (b_ w (af a 3) λd f g=>bA d f i 1 λC=>mN w C λx=>cw w λA u=>e6 u (af a 1) λh e k=>ct 68 #[.pointer x] A λl v=>u v/\bA h e l 1 λt=>sO u t λz=>AU 70 #[.pointer x,.pointer z] v λm n o p q D=>ct 45 #[.pointer x] D λr y=>cond (r == 0) (dn 62 #[ba a,ab i] y λs B=>R (ad true) B) (R (ad true) y))):=by kernel_rfl
end
section
def tA (w w':ak) (e sz:Nat) (a b:an) (n cap:Nat) (xs:ax):Prop:=
 ai w w'/\a1 w' e sz b n cap xs/\(∀ k,aL b k->w.heap.size<=k)/\(b=none↔a=none)
theorem yb {z:a4} (D:prog.underlying t=some (.slice e)) (x:prog.info? e=some i) (au:i.zero=some z) (q:z.cells.size=i.size) (p:0<i.size)
  {a:aX} (A:xs.length=n * i.size) (C:bk w (some a) xs) (r:∀ u ∈ xs,single u=true) (s:n<=140737488355328) (j:n * i.bytes<=140737488355328) :
  ∃ h b w',(Builtin.append_ #[t,t] ty #[.slice (some ⟨w.heap.size,0,none⟩) 0 0,.slice (some a) n c]).run prog (w.alloc (.cells #[] e))=.ok (.slice h n b) w'/\tA w w' e i.size (some a) h n b xs:=by
 have l:a1 (w.alloc (.cells #[] e)) e i.size (some ⟨w.heap.size,0,none⟩) 0 0 []:=by refine ⟨by simp,.inr ⟨w.heap.size,[],rfl,?_,by omega,by simp [maxLen],by simp,by simp⟩⟩;exact pA w [] e
 obtain ⟨h,b,w',f,d,y,g⟩:=l.append (P:=prog) (ty:=ty) D x au q p A (C.new (hy _ _)) r (c:=c) (by omega) (by simpa using j);simp only [gM,m2] at f d;refine ⟨h,b,w',f,?_,d,?_,?_⟩
 ·refine (hy w _).trans y ?_;rintro k B ⟨o,l⟩;simp at l <;> omega
 ·rintro k ⟨o,rfl⟩;rcases g with g | g
  ·simp at g <;> omega
  ·simp at g <;> omega
 ·rcases g with rfl | rfl<;>simp
theorem A5 (h:xs.length=n) (s:bk w a xs) (p:∀ u ∈ xs,single u=true) (x:n<=1000000000) (l:a=none->n=0) :
  bb 73 [.slice a n c] w λv w'=>∃ e cap,v=.slice e n cap/\tA w w' 30 1 a e n cap xs:=by
 refine bd Tryz.func73 ?_;rw [SQ];obtain ⟨i,q,au,d,g⟩:=fV (T:=30) (z:=.int .u64 0) (n:=1) (m:=8) (by kernel_rfl);cases a with
 |none=>
  refine gB rfl ⟨none,0,by rw [l rfl],ao.refl _ _,?_,?_,by simp⟩
  ·rw [l rfl] at h ⊢;rw [fF h];exact a1.nil _ _ _
  ·rintro k ⟨o,r⟩;cases r
 |some a=>refine di rfl ?_;rintro b1 w1 rfl rfl;obtain ⟨e,b,w',f,j⟩:=yb (t:=94) (ty:=94) (z:=.int .u64 0) (n:=n) (c:=c) (w:=w) (a:=a) (xs:=xs) Tryz.underlying94 q au (by rw [d];rfl) (by omega) (by rw [h,d];omega) s p (by omega) (by rw [g];omega);exact ⟨e,n,b,w',f,e,b,rfl,by rw [d] at j;exact j⟩
structure aN where
 words:a8
 down:Bool
structure ea (w:ak) (b aH:Nat) (n:aN):Prop where
 node:av w b [.slice (some ⟨aH,0,none⟩) n.words.length n.words.length,.bool n.down] 137
 words:av w aH (us n.words) 30
 len:n.words.length<=2048
 uK:8<=n.words.length
 wf:∀ x ∈ n.words,0<=x/\x<18446744073709551616
theorem ea.ne {w:ak} {b aH:Nat} {n:aN} (h:ea w b aH n):b≠aH:=h.node.ne h.words (by decide)
theorem ea.aA {M:a6} {n:aN} (h:ea w b aH n) (a:ao M w w') (c:¬ M b) (d:¬ M aH):ea w' b aH n:=
 ⟨a.aj h.node c,a.aj h.words d,h.len,h.uK,h.wf⟩
theorem ea.new {n:aN} (h:ea w b aH n) (a:ai w w'):ea w' b aH n:=h.aA a id id
def aN.get (n:aN) (i:Nat):Int:=n.words.getD i 0
theorem aN.get_some {n:aN} {i:Nat} (h:i<n.words.length):n.words[i]?=some (n.get i):=by simp [aN.get,h]
theorem ea.Ba {n:aN} (h:ea w b aH n) (i:Nat):0<=n.get i/\n.get i<18446744073709551616:=by
 by_cases a:i<n.words.length
 ·exact h.wf _ (b5 (aN.get_some a))
 ·simp [aN.get,a]
theorem ea.cell {w:ak} {b aH:Nat} {n:aN} (h:ea w b aH n) {i:Nat} (a:i<n.words.length):w.cell? ⟨aH,i,none⟩=some (.int .u64 (n.get i)):=
 h.words.cell (tr (aN.get_some a))
theorem FD {n:aN} (h:ea w b aH n):bb 101 [.pointer (some ⟨b,0,none⟩)] w λv w'=>v=.bool (!n.down)/\w'=w:=by refine bd Tryz.func101 ?_;rw [V'];exact ⟨n.down,h.node.cell rfl,rfl,rfl⟩
theorem yc {n:aN} (h:ea w b aH n):bb 82 [.pointer (some ⟨b,0,none⟩)] w λv w'=>v=.int .i64 (n.words.length / 8:Nat)/\w'=w:=by refine bd Tryz.func82 ?_;rw [Vf];have:=h.len;refine ⟨_,_,_,h.node.cell rfl,?_,rfl⟩;rw [yH (by omega),bH (by omega) (by omega)];rfl
theorem Pe (l:a8) (i:Nat) (x:Int):(us l).set i (.int .u64 x)=us (l.set i x):=by simp [us]
theorem ea.Hi {n:aN} (h:ea w b aH n) (i:Nat) {x:Int} (c:0<=x) (d:x<18446744073709551616):ea (w.setCell ⟨aH,i,none⟩ (.int .u64 x)) b aH { n with words:=n.words.set i x }:=by
 refine ⟨?_,?_,by simpa using h.len,by simpa using h.uK,?_⟩
 ·have:=h.node.Hd (i:=i) h.ne (.int .u64 x);simpa using this
 ·have:=h.words.setCell (i:=i) (.int .u64 x);rw [Pe] at this;exact this
 ·intro y a;rcases lK a with a | rfl
  ·exact h.wf y a
  ·exact ⟨c,d⟩
def aN.back (n:aN):aN×Bool:=if n.down=true/\n.get 1<31 then (⟨n.words.set 1 (n.get 1+1),false⟩,true) else (n,false)
def aN.e_ (n:aN) (at_ count:Int):Int:=
 if count<1\/at_<0\/(n.words.length:Int)<=at_\/(n.words.length:Int) - at_<count then 2 else if n.down=true then 4 else 0
theorem aN.sj {n:aN} (h:n.e_ at_ count=0):1<=count/\0<=at_/\at_+count<=n.words.length/\n.down=false:=by
 unfold aN.e_ at h;split at h
 ·omega
 ·rename_i a;split at h
  ·omega
  ·rename_i aq;exact ⟨by omega,by omega,by omega,by simpa using aq⟩
theorem vW {n:aN} (h:ea w b aH n) (at_ count:Int):bb 72 [.pointer (some ⟨b,0,none⟩),.int .i64 at_,.int .i64 count] w λv w'=>v=.int .i64 (n.e_ at_ count)/\w'=w:=by
 refine bd Tryz.func72 ?_;rw [Vc];have g:=h.len;refine bc (λd=>⟨?_,rfl⟩) (λd=>bc (λe=>⟨?_,rfl⟩) (λe=>⟨_,_,_,h.node.cell rfl,bc (λf=>⟨?_,rfl⟩) (λf=>⟨_,_,_,h.node.cell rfl,bc (λa=>⟨?_,rfl⟩) (λa=>⟨_,h.node.cell rfl,f' (λc=>⟨?_,rfl⟩) (λc=>⟨?_,rfl⟩)⟩)⟩)⟩))
 ·rw [aN.e_,if_pos (.inl d)]
 ·rw [aN.e_,if_pos (.inr (.inl e))]
 ·rw [aN.e_,if_pos (.inr (.inr (.inl f)))]
 ·rw [bH (by omega) (by omega)] at a;rw [aN.e_,if_pos (.inr (.inr (.inr (by omega))))]
 ·rw [bH (by omega) (by omega)] at a;rw [aN.e_,if_neg (by omega),if_pos c]
 ·rw [bH (by omega) (by omega)] at a;rw [aN.e_,if_neg (by omega),if_neg (by simp [c])]
def aN.read (n:aN) (at_ count:Int):a8:=(n.words.drop at_.toNat).take count.toNat
theorem za (l:a8) (k:Nat):(us l).take k=us (l.take k):=by simp [us]
theorem y3 (l:a8) (k:Nat):(us l).drop k=us (l.drop k):=by simp [us]
theorem Bn (l m:a8):us l++us m=us (l++m):=by simp [us]
def Lp (n:aN) (at_ count:Int) (w:ak) (v:a4) (w':ak):Prop:=
 (n.e_ at_ count≠0/\v=.tuple #[.slice none 0 0,.int .i64 (n.e_ at_ count)]/\w'=w)\/
 (n.e_ at_ count=0/\∃ a cap,v=.tuple #[.slice (some a) count.toNat cap,.int .i64 0]/\ai w w'/\a1 w' 30 1 (some a) count.toNat cap (us (n.read at_ count))/\w.heap.size<=a.block)
theorem aN.x3 {n:aN} (h:n.e_ at_ count=0):(n.read at_ count).length=count.toNat:=by obtain ⟨a,b,c,_⟩:=aN.sj h;simp [aN.read];omega
theorem v' {n:aN} (h:ea w b aH n) (at_ count:Int):bb 40 [.pointer (some ⟨b,0,none⟩),.int .i64 at_,.int .i64 count] w (Lp n at_ count w):=by
 refine bd Tryz.func40 ?_;rw [VE];refine aD (vW h at_ count) ?_;rintro v w1 ⟨rfl,rfl⟩;refine ⟨_,rfl,du (λc=>?_) (λc=>?_)⟩
 ·exact .inl ⟨c,rfl,rfl⟩
 ·obtain ⟨s,k,l,_⟩:=aN.sj c;have t:=h.len;refine ⟨_,_,_,h.node.cell rfl,?_⟩;rw [bH (by omega) (by omega)];refine kM k (by omega) l (by omega) (by omega) ?_;intro a o;rcases o with rfl | ⟨d,_⟩
  ·have i:bk w1 (some ⟨aH,0+at_.toNat * 1,none⟩) (us (n.read at_ count)):=by refine fu h.words ?_;rw [hO,aN.x3 c,y3,za,aN.read];simp
   have e:(at_+count).toNat - at_.toNat=count.toNat:=by omega
   rw [e];refine aD (A5 (by rw [hO,aN.x3 c]) i (pC _) (by omega) (by simp)) ?_;rintro v u ⟨f,cap,rfl,r,j,p,q⟩;refine ⟨_,_,_,rfl,.inr ⟨c,?_⟩⟩;cases f with
   |none=>simp at q
   |some f=>
    refine ⟨f,cap,rfl,r,j,?_⟩;rcases j.2 with ⟨d,_⟩ | ⟨g,cur,d,_⟩
    ·cases d
    ·exact p _ ⟨f.off,by simp at d;rw [d]⟩
  ·omega
theorem Lq {P:Program} (l:P.underlying t=some (.slice e)) (h:P.info? e=some i) (g:i.size=1) {o dl dc:Nat} {s:an} {m:Nat} {news:ax} (k:news.length=m)
  (hm:m<=dl) (r:bk w s news) (q:s=none->m=0) (hw:eh w ⟨b,o,none⟩ 0 news):(Builtin.copy_ #[t,t] ty #[.slice (some ⟨b,o,none⟩) dl dc,.slice s m c]).run P w=.ok (.int .i64 m) (cu w ⟨b,o,none⟩ 0 news):=by
 have a:Nat.min m dl=m:=Nat.min_eq_left hm;have f:=sT (P:=P) hw;cases s with
 |none=>have:=q rfl;subst this;have:news=[]:=fF k;subst this;simp [Builtin.copy_,run_underlying l,Builtin.lenOf,a,sizeOf,typeInfo,h,Builtin.firstCells,goInt,storeCells,cu]
 |some s=>
  have d:(loadCells s m).run P w=.ok news.toArray w:=by
   have:cf w s 0 news:=by
    rcases r with rfl | ⟨sb,so,he,n⟩
    ·trivial
    ·simp at he;subst he;exact k8 λj v p=>by simpa using n j v p
   have:=bs.run_loadCellsFrom (P:=P) (acc:=#[]) this;rw [k] at this;simpa [loadCells] using this
  simp [Builtin.copy_,run_underlying l,Builtin.lenOf,a,sizeOf,typeInfo,h,Builtin.firstCells,goInt,g,d,f]
def aN.write (n:aN) (at_:Nat) (ws:a8):aN:={ n with words:=n.words.take at_++ws++n.words.drop (at_+ws.length) }
theorem ea.write {w:ak} {b aH:Nat} {n:aN} (h:ea w b aH n) {o:Nat} {ws:a8} (c:o+ws.length<=n.words.length) (hw:∀ x ∈ ws,0<=x/\x<18446744073709551616):ea (cu w ⟨aH,o,none⟩ 0 (us ws)) b aH (n.write o ws):=by
 have hlen:(n.write o ws).words.length=n.words.length:=by simp [aN.write];omega
 refine ⟨?_,?_,by rw [hlen];exact h.len,by rw [hlen];exact h.uK,?_⟩
 ·rw [hlen];exact (h7 _ _ _ _ _).aj h.node h.ne
 ·have:=h.words.cu (o:=o) (i:=0) (vs:=us ws);rw [pB (by rw [hO,hO];omega),mb,hO,za,y3,Bn,Bn] at this;exact this
 ·intro x a;simp only [aN.write,iq] at a;rcases a with (a | a) | a
  ·exact h.wf x (tq a)
  ·exact hw x a
  ·exact h.wf x (o3 a)
theorem D8 {n:aN} (h:ea w b aH n) (at_:Int) {ws:a8} (r:bk w a (us ws)) (hw:∀ x ∈ ws,0<=x/\x<18446744073709551616) (q:a=none->ws.length=0) :
  bb 109 [.pointer (some ⟨b,0,none⟩),.int .i64 at_,.slice a ws.length c] w λv w'=>v=.int .i64 (n.e_ at_ ws.length)/\
   ea w' b aH (if n.e_ at_ ws.length=0 then n.write at_.toNat ws else n)/\ao (λk=>k=aH) w w':=by
 refine bd Tryz.func109 ?_;rw [Vg];refine aD (vW h at_ _) ?_;rintro v w1 ⟨rfl,rfl⟩;refine ⟨_,rfl,du (λd=>?_) (λd=>?_)⟩
 ·rw [if_neg d];exact ⟨rfl,h,ao.refl _ _⟩
 ·obtain ⟨u,g,y,_⟩:=aN.sj d;have A:=h.len;rw [if_pos d,d];refine ⟨_,_,_,h.node.cell rfl,kM g (by omega) (by omega) (by omega) (by omega) ?_⟩;intro s j;rcases j with rfl | ⟨B,_⟩
  ·obtain ⟨i,p,au,f,l⟩:=fV (T:=30) (z:=.int .u64 0) (n:=1) (m:=8) (by kernel_rfl);have e:=Lq (P:=prog) (w:=w1) (t:=94) (ty:=3) (b:=aH) (o:=0+at_.toNat * 1) (dl:=(n.words.length:Int).toNat - at_.toNat) (dc:=(n.words.length:Int).toNat - at_.toNat) (c:=c) Tryz.underlying94 p f (hO ws) (by omega) r q
    (gq h.words (by rw [hO,hO];omega) (pC ws))
   refine ⟨_,_,e,rfl,?_,h7 _ _ _ _ _⟩;have:=h.write (o:=at_.toNat) (ws:=ws) (by omega) hw;simpa using this
  ·omega
def aN.fx (n:aN) (at_ old new:Int):aN:=if n.get at_.toNat=old then { n with words:=n.words.set at_.toNat new } else n
theorem QJ {n:aN} (h:ea w b aH n) (at_ old new:Int) (d:0<=new) (e:new<18446744073709551616) :
  bb 139 [.pointer (some ⟨b,0,none⟩),.int .i64 at_,.int .u64 old,.int .u64 new] w λv w'=>
   v=.tuple #[.int .u64 (if n.e_ at_ 1=0 then n.get at_.toNat else 0),.int .i64 (n.e_ at_ 1)]/\ea w' b aH (if n.e_ at_ 1=0 then n.fx at_ old new else n)/\ao (λk=>k=aH) w w':=by
 refine bd Tryz.func139 ?_;rw [VV];refine aD (vW h at_ _) ?_;rintro v w1 ⟨rfl,rfl⟩;refine ⟨_,rfl,du (λa=>?_) (λa=>?_)⟩
 ·rw [if_neg a,if_neg a];exact ⟨rfl,h,ao.refl _ _⟩
 ·obtain ⟨b1,aB,f,_⟩:=aN.sj a;rw [if_pos a,if_pos a,a];have c:0+at_.toNat * 1=at_.toNat:=by omega
  refine ⟨_,_,_,h.node.cell rfl,ej aB (by omega) ?_⟩;rw [c];refine ⟨_,h.cell (by omega),d' (λhe=>?_) (λhe=>?_)⟩
  ·refine ⟨_,_,_,h.node.cell rfl,ej aB (by omega) ?_⟩;rw [c];refine ⟨⟨_,h.cell (by omega)⟩,h.words.frozen,?_⟩;rintro g rfl;refine ⟨rfl,?_,eX _ _ _ _⟩;rw [aN.fx,if_pos he];exact h.Hi _ d e
  ·rw [aN.fx,if_neg he];exact ⟨rfl,h,ao.refl _ _⟩
def aN.add (n:aN) (at_ a:Int):aN:={ n with words:=n.words.set at_.toNat (IntKind.u64.wrap (n.get at_.toNat+a)) }
theorem HW (x:Int):0<=IntKind.u64.wrap x/\IntKind.u64.wrap x<18446744073709551616:=by simp only [IntKind.wrap,IntKind.bits,IntKind.signed];simp;omega
theorem QK {n:aN} (h:ea w b aH n) (at_ c:Int) :
  bb 140 [.pointer (some ⟨b,0,none⟩),.int .i64 at_,.int .u64 c] w λv w'=>
   v=.tuple #[.int .u64 (if n.e_ at_ 1=0 then n.get at_.toNat else 0),.int .i64 (n.e_ at_ 1)]/\ea w' b aH (if n.e_ at_ 1=0 then n.add at_ c else n)/\ao (λk=>k=aH) w w':=by
 refine bd Tryz.func140 ?_;rw [VW];refine aD (vW h at_ _) ?_;rintro v w1 ⟨rfl,rfl⟩;refine ⟨_,rfl,du (λa=>?_) (λa=>?_)⟩
 ·rw [if_neg a,if_neg a];exact ⟨rfl,h,ao.refl _ _⟩
 ·obtain ⟨b1,aB,e,_⟩:=aN.sj a;rw [if_pos a,if_pos a,a];have d:0+at_.toNat * 1=at_.toNat:=by omega
  refine ⟨_,_,_,h.node.cell rfl,ej aB (by omega) ?_⟩;rw [d];refine ⟨_,h.cell (by omega),_,_,_,h.node.cell rfl,ej aB (by omega) ?_⟩;rw [d];refine ⟨_,h.cell (by omega),ej aB (by omega) ?_⟩;rw [d];refine ⟨⟨_,h.cell (by omega)⟩,h.words.frozen,?_⟩;rintro f rfl;exact ⟨rfl,h.Hi _ (HW _).1 (HW _).2,eX _ _ _ _⟩
theorem Dj (n:Nat) (v:a4):jE n [v]=List.replicate n v:=by
 induction n with
 |zero=>rfl
 |succ n a=>simp [jE,rq] at *
theorem Lr {lines:Int} (d:1<=lines) (f:lines<=256):bb 74 [.int .i64 lines] w λv w'=>
  v=.tuple #[.pointer (some ⟨w.heap.size+1,0,none⟩),.int .i64 0]/\ea w' (w.heap.size+1) w.heap.size ⟨List.replicate (8 * lines.toNat) 0,false⟩/\ai w w'/\w'.heap.size=w.heap.size+2:=by
 refine bd Tryz.func74 ?_;rw [Xf];refine bc (λh=>by omega) (λ_=>bc (λh=>by omega) (λ_=>?_))
 have e:IntKind.i64.wrap (lines * 8)=lines * 8:=bH (by omega) (by omega);rw [e];refine ⟨by omega,by omega,by omega,by omega,?_⟩;rintro b1 w1 rfl rfl aB g rfl rfl;have b:(lines * 8).toNat=8 * lines.toNat:=by omega
 rw [b,Dj];have a:(w.alloc (.cells (List.replicate (8 * lines.toNat) (Value.int .u64 0)).toArray 30)).heap.size=w.heap.size+1:=by simp
 refine ⟨by rw [a],?_,(hy _ _).alloc _,by simp⟩;refine ⟨?_,?_,by simp;omega,by simp;omega,?_⟩
 ·have:=pA (w.alloc (.cells (List.replicate (8 * lines.toNat) (Value.int .u64 0)).toArray 30)) [.slice (some ⟨w.heap.size,0,none⟩) (8 * lines.toNat) (8 * lines.toNat),.bool false] 137;rw [a] at this;simpa using this
 ·have:=(pA w (List.replicate (8 * lines.toNat) (Value.int .u64 0)) 30).alloc (.cells #[.slice (some ⟨w.heap.size,0,none⟩) (8 * lines.toNat) (8 * lines.toNat),.bool false] 137);simpa [us] using this
 ·intro x c;simp only [yR] at c;omega
end
end Go.Proofs.YtmkljjbioomepaaGreat
