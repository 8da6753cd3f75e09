import Derived.Test.YtmkljjbioomepaaGreatProg
import Derived.Test.YtmkljjbioomepaaGreate03
import Derived.Test.YtmkljjbioomepaaGreate02
import Derived.Test.YtmkljjbioomepaaGreate06
set_option linter.all false
namespace Go.Proofs.YtmkljjbioomepaaGreat
open Go.Proofs.Tryz Go.bn
variable {a:an} {at_ count:Int} {b aK c n:Nat} {e t ty:TypeId} {i:TypeInfo} {w w':al} {xs:aw}
section
open IntKind
variable (w:al) (R:cp) {a b c d e f:Nat} {i k l m n:Int} {A:aV} {s t u:an} {j:aq}
def qP (e:aV) (g a:an) (b c:Nat) (d f:Int) (j:aq):aq:=.pointer (some e)::ag j 0 4 (.pointer g::ag j 4 12 (ae a b c::ab d::ab f::ag j 16 31 []))
def yP (a:an) (j:aq):aq:=ag j 0 5 (.pointer a::ag j 5 46 [])
theorem SL:bd prog f22 [a' a,ab i] R w=(dm 43 #[a' a,ab i] w λe j=>cond (!e) (R (ad false) j) (mR 44 #[a' a,ab i] j λb h=>eZ b λg=>b0 h (bS g 2) λc d f=>cx prog (cY f22 [1,1,1,0,1,0,0]) (qP (af a 0) b c d f (d:Nat) 0 (ab i::bx 2 (ad false::bx 2 (jp (af a 0)::ab i::ad e::ad (!e)::jp (af a 0)::ab i::.pointer b::.pointer b::jp g::bE g 2::bx 31 [])))) (aW 0 (aZ f22 [1,1,1,1] R)) h)):=by kernel_rfl
theorem Qr (x:aq->aE):W prog (sb f22 [1,1,1,0,1,0,0]) (qP A s t a b i k j) (a1 x (aW 0 (aZ f22 [1,1,1,1] R))) w=(cond (k<i) (bB t a k 2 λy=>EZ w y λg h d u=>aQ w #[.pointer none,a3] 105 λe G=>a_ G (af e 0) 0 [.pointer g,ae h d u] λC=>l0 C (af e 0) λl=>cm 45 #[.pointer l] C λm E=>cond (m>0) (cu E λF v=>e1 v (bS A 3) λn o p=>ri v (af e 0) λq=>aQ F #[.pointer q] 103 λB z=>v z/\cZ 106 (ae n o p) (ae (bj B) 1 1) z λf r c D=>v D/\cE D (bS A 3) (ae f r c) λH=>x (qP A s t a b i (i64.wrap (k+1)) (ag j 0 5 (jp (af e 0)::ag j 6 10 (ad (k<i)::jp y::.agg #[.pointer g,ae h d u]::jp (af e 0)::.pointer l::ab m::ad (m>0)::jp A::jp A::jp A::bE A 3::ae n o p::jp (af e 0)::.pointer q::ae (bj B) 1 1::ae f r c::jp A::bE A 3::ab (i64.wrap (k+1))::ag j 35 12 [])))) H) (x (qP A s t a b i (i64.wrap (k+1)) (ag j 0 5 (jp (af e 0)::ag j 6 10 (ad (k<i)::jp y::.agg #[.pointer g,ae h d u]::jp (af e 0)::.pointer l::ab m::ad (m>0)::ag j 23 11 (ab (i64.wrap (k+1))::ag j 35 12 []))))) E)) (W prog (sb f22 [1,1,1,1]) (yP s (jp A::ag j 0 16 (ae t a b::ab i::ab k::ad (k<i)::ag j 17 30 []))) (bW f22 R) w)):=by kernel_rfl
theorem Rc:W prog (sb f22 [1,1,1,1]) (yP s j) (bW f22 R) w=(eZ s λa=>cE w a (ad false) λh=>eZ s λb=>cE h (bS b 2) (a3) λf=>eZ s λc=>cE f (bS c 3) (a3) λg=>eZ s λd=>cE g (bS d 4) (ab 0) λe=>R (ad true) e):=by kernel_rfl
def vl (e:aV) (i:an) (a b:Nat) (c:an) (d f:Nat) (g h:Int) (j:aq):aq:=.pointer (some e)::ag j 0 2 (ae i a b::ag j 2 9 (ae c d f::ab g::ab h::ag j 11 45 []))
def D_ (a:aV) (d:an) (b c:Nat) (j:aq):aq:=.pointer (some a)::ag j 0 2 (ae d b c::ag j 2 57 [])
def sM (e:aV) (o:an) (a b:Nat) (p:Int) (c:an) (d f:Nat) (g h:Int) (i:an) (k l:Nat) (m n:Int) (j:aq):aq:=.pointer (some e)::ag j 0 2 (ae o a b::ab p::ag j 2 8 (ae c d f::ab g::ab h::ag j 10 5 (ae i k l::ab m::ab n::ag j 15 37 [])))
def D' (a:aV) (e:an) (b c:Nat) (d:an) (f g:Nat) (h i:Int) (j:aq):aq:=.pointer (some a)::ag j 0 2 (ae e b c::ag j 2 9 (ae d f g::ab h::ab i::ag j 11 45 []))
def vm (e:an) (a b:Nat) (c:an) (d f:Nat) (g h:Int) (j:aq):aq:=ag j 0 3 (ae e a b::ag j 3 39 (ae c d f::ab g::ab h::ag j 42 15 []))
def Ea (c:an) (a b:Nat) (j:aq):aq:=ag j 0 3 (ae c a b::ag j 3 57 [])
theorem Q9:bd prog f36 [a' a] R w=(b0 w (af a 2) λd b c=>cx prog (cY f36 [1,1,0,1,0,0]) (vl (af a 0) none 0 0 d b c (b:Nat) 0 (undef::a3::bx 6 (jp (af a 0)::jp (af a 0)::jp (af a 2)::bx 45 []))) (aW 0 (aZ f36 [1,1,1] R)) w):=by kernel_rfl
theorem PG (z:aq->aE):W prog (sb f36 [1,1,0,1,0,0]) (vl A s a b t c d i k j) (a1 z (aW 0 (aZ f36 [1,1,1] R))) w=(cond (k<i) (bB t c k 7 λC=>RN w C λf u l m n o p q r e g=>aQ w #[ad false,ab 0,a3,a3,ab 0,ab 0,ab 0] 102 λh E=>a_ E (af h 0) 0 [ad f,ab u,ae l m n,ae o p q,ab r,ab e,ab g] λB=>b0 B (af h 2) λv x y=>cx prog (cY f36 [1,1,0,1,0,0,1,1,0,0,1,1,0,0]) (sM A s a b k t c d i k v x y (x:Nat) 0 (aN j 0::aN j 1::jp (af h 0)::ag j 4 7 (ad (k<i)::ab k::jp C::.agg #[ad f,ab u,ae l m n,ae o p q,ab r,ab e,ab g]::jp (af h 2)::ag j 19 37 []))) (aW 2 (aW 1 (a1 (λD w=>W prog (sb f36 [1,1,0,1,0,0,1,1,1]) D (a1 z (aW 0 (aZ f36 [1,1,1] R))) w) (a1 z (aW 0 (aZ f36 [1,1,1] R)))))) B) (W prog (sb f36 [1,1,1]) (D_ A s a b (ag j 0 11 (ae t c d::ab i::ab k::ad (k<i)::ag j 12 44 []))) (bW f36 R) w)):=by kernel_rfl
theorem PT:W prog (sb f36 [1,1,1]) (D_ A s a b j) (bW f36 R) w=(b0 w (bS A 3) λd f g=>cx prog (cY f36 [1,1,1,0,1,0,0]) (vm s a b d f g (f:Nat) 0 (jp A::ag j 0 38 (jp A::jp A::bE A 3::ag j 44 15 []))) (aW 4 (aZ f36 [1,1,1,1] R)) w):=by kernel_rfl
theorem PH (B:aq->aE) (C:aq->aE):W prog (sb f36 [1,1,0,1,0,0,1,1,0,0,1,1,0,0]) (sM A s a b i t c d k l u e f m n j) (a1 C (aW 2 (aW 1 (a1 (λa5 w=>W prog (sb f36 [1,1,0,1,0,0,1,1,1]) a5 (a1 B (aW 0 (aZ f36 [1,1,1] R))) w) (a1 B (aW 0 (aZ f36 [1,1,1] R))))))) w=(cond (n<m) (bB u e n 2 λD=>EZ w D λo p q r=>aQ w #[.pointer none,a3] 105 λy K=>a_ K (af y 0) 0 [.pointer o,ae p q r] λF=>l0 F (af y 0) λg=>cm 45 #[.pointer g] F λh G=>cond (h>0) (aQ G #[ab (-1),ab i,ab n] 89 λE H=>cZ 85 (ae s a b) (ae (bj E) 1 1) H λz v x a8=>C (sM A z v x i t c d k l u e f m (i64.wrap (n+1)) (aN j 0::aN j 1::aN j 2::ab n::jp (af y 0)::ag j 5 10 (ad (n<m)::ab n::jp D::.agg #[.pointer o,ae p q r]::jp (af y 0)::.pointer g::ab h::ad (h>0)::ae s a b::ab i::ab n::.agg #[ab (-1),ab i,ab n]::ae (bj E) 1 1::ae z v x::ab (i64.wrap (n+1))::ag j 30 22 []))) a8) (C (sM A s a b i t c d k l u e f m (i64.wrap (n+1)) (aN j 0::aN j 1::aN j 2::ab n::jp (af y 0)::ag j 5 10 (ad (n<m)::ab n::jp D::.agg #[.pointer o,ae p q r]::jp (af y 0)::.pointer g::ab h::ad (h>0)::ag j 23 6 (ab (i64.wrap (n+1))::ag j 30 22 [])))) G)) (W prog (sb f36 [1,1,0,1,0,0,1,1,1]) (D' A s a b t c d k l (aN j 0::aN j 1::ab i::ag j 2 13 (ae u e f::ab m::ab n::ad (n<m)::ag j 16 36 []))) (a1 B (aW 0 (aZ f36 [1,1,1] R))) w)):=by kernel_rfl
theorem PU (e:aq->aE):W prog (sb f36 [1,1,0,1,0,0,1,1,1]) (D' A s a b t c d i k j) (a1 e (aW 0 (aZ f36 [1,1,1] R))) w=(e (vl A s a b t c d i (i64.wrap (k+1)) (ag j 0 34 (ab (i64.wrap (k+1))::ag j 35 21 []))) w):=by kernel_rfl
theorem Pg (h:aq->aE):W prog (sb f36 [1,1,1,0,1,0,0]) (vm s a b t c d i k j) (a1 h (aW 4 (aZ f36 [1,1,1,1] R))) w=(cond (k<i) (bB t c k 1 λo=>l0 w o λx=>cm 67 #[.pointer x] w λe u=>cm 68 #[.pointer x] u λg q=>aQ q #[ab k,ab e,ab g] 89 λn r=>cZ 85 (ae s a b) (ae (bj n) 1 1) r λf l m p=>h (vm f l m t c d i (i64.wrap (k+1)) (ag j 0 7 (ab k::.pointer x::ag j 9 33 [ad (k<i),ab k,jp o,.pointer x,ae s a b,ab k,.pointer x,ab e,.pointer x,ab g,.agg #[ab k,ab e,ab g],ae (bj n) 1 1,ae f l m,ab (i64.wrap (k+1)),aN j 56]))) p) (W prog (sb f36 [1,1,1,1]) (Ea s a b (ag j 0 42 (ae t c d::ab i::ab k::ad (k<i)::ag j 43 14 []))) (bW f36 R) w)):=by kernel_rfl
theorem PV:W prog (sb f36 [1,1,1,1]) (Ea s a b j) (bW f36 R) w=(R (ae s a b) w):=by kernel_rfl
theorem Sq (C:Nat) (a b c:Int) (w:al) (R:cp):bd prog f37 [a' C,.agg #[ab a,ab b,ab c]] R w=(aQ w #[ab a,ab b,ab c] 89 λb1 w1=>bG w1 (af b1 0) λd=>cond (d>=0) (bG w1 (af b1 0) λf=>dm 69 #[a' C,ab f] w1 λg UW=>R (ad g) UW) (bG w1 (af b1 0) λh=>cond (h<(-1)) (R (ad false) w1) (bG w1 (af b1 1) λi=>mR 44 #[a' C,ab i] w1 λk UX=>cu UX λD A=>cond (Option.isNone k) (R (ad false) D) (cP A (af b1 2) λl=>cond (l<0) (R (ad false) D) (cP A (af b1 2) λm=>eZ k λqH=>e1 A (bS qH 2) λn o p=>cond (m>=(o:Nat)) (R (ad false) D) (eZ k λUM=>e1 A (bS UM 2) λq r s=>cP A (af b1 2) λt=>bB q r t 2 λbu=>ri A bu λv=>cm 45 #[.pointer v] D λy E=>A E/\cond (y == 0) (R (ad false) E) (cu E λUY B=>eZ k λbv=>e1 B (bS bv 2) λz aa U4=>cP B (af b1 2) λac=>bB z aa ac 2 λaK=>cu UY λS e=>ri e aK λH=>e1 e (af C 1) λUl Um U5=>cP e (af b1 2) λUn=>bB Ul Um Un 1 λUN=>ri e UN λx=>(zb 70 #[.pointer H,.pointer x] S λUo Up cW am Uq T=>e T/\aQ T #[ab 0,a3] 131 λaz U=>e U/\a_ U (af az 0) 0 [ab Uo,ae Up cW am] λN=>cond Uq (cu N λgV j=>eZ k λUy=>e1 j (bS Uy 3) λUr ap U6=>e1 j (bS aK 1) λUs Ut U7=>bB Us Ut 0 1 λUz=>cP j Uz λUZ=>y8 j (af az 0) λUu Uv Uw Ux=>bB Ur ap UZ 2 λUA=>a_ gV UA 0 [ab Uu,ae Uv Uw Ux] λJ=>b0 J (bS aK 1) λV F G=>ho V F G 1 (F:Nat) (G:Nat) 1 λU1 U3 U2=>eF 71 #[ae U1 U3 U2] J λW X Y UB=>cE UB (bS aK 1) (ae W X Y) λK=>eZ k λUO=>bG K (bS UO 4) λZ=>eZ k λaT=>cE K (bS aT 4) (ab (i64.wrap (Z - 1))) λcc=>R (ad true) cc) (R (ad true) N))/\aQ S #[ab 0,a3] 131 λI O=>e O/\zb 70 #[.pointer H,.pointer x] O λUi Uj Uk UC c9 ce=>e ce/\a_ ce (af I 0) 0 [ab Ui,ae Uj Uk UC] λP=>cond c9 (cu P λUP u=>eZ k λUQ=>e1 u (bS UQ 3) λfH kz be=>e1 u (bS aK 1) λUD UE U8=>bB UD UE 0 1 λci=>cP u ci λU0=>y8 u (af I 0) λbi UF UG UH=>bB fH kz U0 2 λUR=>a_ UP UR 0 [ab bi,ae UF UG UH] λlL=>b0 lL (bS aK 1) λUI L M=>ho UI L M 1 (L:Nat) (M:Nat) 1 λcC US UT=>eF 71 #[ae cC US UT] lL λUJ UK UL co=>cE co (bS aK 1) (ae UJ UK UL) λQ=>eZ k λUU=>bG Q (bS UU 4) λgW=>eZ k λUV=>cE Q (bS UV 4) (ab (i64.wrap (gW - 1))) λcs=>R (ad true) cs) (R (ad true) P)))))))):=by kernel_rfl
theorem Sc:bd prog f38 [a' a] R w=(b0 w (af a 1) λd b c=>R (ab (b:Nat)) w):=by kernel_rfl
theorem Sr:bd prog f39 [a' a,ab i] R w=(cond (i<0) (R (.pointer none) w) (b0 w (af a 1) λe b c=>cond (i>=(b:Nat)) (R (.pointer none) w) (b0 w (af a 1) λd f g=>bB d f i 1 λh=>l0 w h λx=>R (.pointer x) w))):=by kernel_rfl
theorem ro:bd prog f43 [a' a,ab i] R w=(mR 44 #[a' a,ab i] w λd e=>cond (!(Option.isNone d)) (eZ d λc=>jM e c λb=>R (ad b) e) (R (ad false) e)):=by kernel_rfl
theorem Ek:bd prog f44 [a' a,ab i] R w=(cond (i<0) (R (.pointer none) w) (b0 w (af a 2) λe b c=>cond (i>=(b:Nat)) (R (.pointer none) w) (b0 w (af a 2) λd f g=>bB d f i 7 λh=>R (.pointer (some h)) w))):=by kernel_rfl
def vI (s2:Int) (s8:aV) (a b:Int) (j:aq):aq:=ag j 0 2 (ab s2::ag j 2 5 (.pointer (some s8)::ag j 7 30 (ab a::ab b::ag j 37 33 [])))
def Fj (a:aV) (j:aq):aq:=ag j 0 8 (.pointer (some a)::ag j 8 65 [])
def vJ (s8:aV) (a b:Int) (j:aq):aq:=ag j 0 8 (.pointer (some s8)::ag j 8 56 (ab a::ab b::ag j 64 7 []))
def Fk (a:aV) (j:aq):aq:=ag j 0 8 (.pointer (some a)::ag j 8 65 [])
theorem AC:bd prog f46 [ab i,ab k,ab l] R w=(cond (i<1) (R (.tuple #[.pointer none,ab 1]) w) (cond (i>5) (R (.tuple #[.pointer none,ab 1]) w) (cond (k<1) (R (.tuple #[.pointer none,ab 1]) w) (cond (k>6) (R (.tuple #[.pointer none,ab 1]) w) (cond (l<1) (R (.tuple #[.pointer none,ab 2]) w) (cond (l>256) (R (.tuple #[.pointer none,ab 2]) w) (pN k k 88 (.cells (iY (Int.toNat k) [ad false,ab 0,a3,a3,ab 0,ab 0,ab 0]).toArray 102) w λa d=>aQ d #[ab l,a3,ae (bj a) (Int.toNat k) (Int.toNat k),a3] 110 λb c=>cx prog (cY f46 [1,1,1,0,1,0,0]) (vI l (af b 0) i 0 (ab i::ab k::bx 3 (.pointer none::ab 0::bx 3 (ad (k>6)::ab i::ad (i<1)::ad false::ab i::ad (i>5)::ad (i>5)::ad false::ab k::ad (k<1)::ad (k<1)::ad false::ab k::ad (k>6)::ad (k>6)::ad (l>256)::ab l::ad (l<1)::ad false::ab l::ad (l>256)::ad (l>256)::ab l::ab k::ae (bj a) (Int.toNat k) (Int.toNat k)::.agg #[ab l,a3,ae (bj a) (Int.toNat k) (Int.toNat k),a3]::jp (af b 0)::bx 33 [])))) (aW 1 (aZ f46 [1,1,1,1] R)) c))))))):=by kernel_rfl
theorem Ss (o:aq->aE):W prog (sb f46 [1,1,1,0,1,0,0]) (vI i A k l j) (a1 o (aW 1 (aZ f46 [1,1,1,1] R))) w=(cond (l<k) (y9 74 #[ab i] w λc d m=>cond (d != 0) (R (.tuple #[.pointer none,ab d]) m) (b0 m (bS A 1) λf g h=>aQ m #[.pointer c] 92 λn r=>cZ 107 (ae f g h) (ae (bj n) 1 1) r λe a b q=>cE q (bS A 1) (ae e a b) λp=>o (vI i A k (i64.wrap (l+1)) (ag j 0 7 (.pointer c::ab d::ag j 9 28 (ad (l<k)::.tuple #[.pointer c,ab d]::ab i::.tuple #[.pointer c,ab d]::.pointer c::ab d::ab d::ad ((d:Int) != 0)::aN j 45::jp A::jp A::jp A::bE A 1::ae f g h::.pointer c::ae (bj n) 1 1::ae e a b::jp A::bE A 1::ab (i64.wrap (l+1))::ag j 57 13 [])))) p)) (W prog (sb f46 [1,1,1,1]) (Fj A (aN j 0::aN j 1::ab i::ag j 2 35 (ab k::ab l::ad (l<k)::ag j 38 32 []))) (bW f46 R) w)):=by kernel_rfl
theorem S4:W prog (sb f46 [1,1,1,1]) (Fj A j) (bW f46 R) w=(b0 w (bS A 2) λb c d=>cx prog (cY f46 [1,1,1,1,0,1,0,0]) (vJ A (c:Nat) 0 (ag j 0 60 (jp A::jp A::bE A 2::ae b c d::ag j 66 7 []))) (aW 3 (aZ f46 [1,1,1,1,1] R)) w):=by kernel_rfl
theorem St (a:aq->aE):W prog (sb f46 [1,1,1,1,0,1,0,0]) (vJ A i k j) (a1 a (aW 3 (aZ f46 [1,1,1,1,1] R))) w=(cond (k<i) (td 53 #[.pointer (some A),ab k,ab 1] w λb=>a (vJ A i (i64.wrap (k+1)) (ag j 0 10 (ab k::ag j 11 53 [ad (k<i),ab k,jp A,ab k,.tuple #[],ab (i64.wrap (k+1)),aN j 70]))) b) (W prog (sb f46 [1,1,1,1,1]) (Fk A (ag j 0 64 (ab i::ab k::ad (k<i)::ag j 65 6 []))) (bW f46 R) w)):=by kernel_rfl
theorem Tm:W prog (sb f46 [1,1,1,1,1]) (Fk A j) (bW f46 R) w=(R (.tuple #[.pointer (some A),ab 0]) w):=by kernel_rfl
def sN (s1 s2:Int) (c:aV) (a b:Int) (j:aq):aq:=ag j 0 1 (ab s1::ab s2::ag j 1 3 (.pointer (some c)::ag j 4 23 (ab a::ab b::ag j 27 21 [])))
theorem Q_:bd prog f53 [a' a,ab i,ab k] R w=(b0 w (af a 2) λe b c=>bB e b i 7 λh=>cE w h (ad true) λm=>cE m (bS h 1) (ab k) λl=>cE l (bS h 2) (a3) λj=>b0 j (af a 1) λd f g=>cx prog (cY f53 [1,1,1,0,0]) (sN i k h (f:Nat) 0 (jp (af a 0)::bx 6 (jp (af a 0)::jp (af a 0)::jp (af a 2)::ae e b c::ab i::jp h::jp h::jp h::jp h::ab k::jp h::jp h::jp h::bE h 1::jp h::bE h 2::jp (af a 0)::jp (af a 0)::jp (af a 1)::ae d f g::bx 21 []))) (aW 0 (bW f53 R)) j):=by kernel_rfl
theorem Ph (o:aq->aE):W prog (sb f53 [1,1,1,0,0]) (sN i k A l m j) (a1 o (aW 0 (bW f53 R))) w=(cond (m<l) (y9 80 #[ab i,ab k,ab m] w λc d p=>b0 p (bS A 2) λf g h=>aQ p #[.pointer c,a3] 105 λn s=>cZ 99 (ae f g h) (ae (bj n) 1 1) s λb a e r=>cE r (bS A 2) (ae b a e) λq=>o (sN i k A l (i64.wrap (m+1)) (ag j 0 4 (ab m::.pointer c::ab d::ag j 7 20 [ad (m<l),ab m,.tuple #[.pointer c,ab d],ab i,ab k,ab m,.tuple #[.pointer c,ab d],.pointer c,ab d,jp A,jp A,jp A,bE A 2,ae f g h,.pointer c,.agg #[.pointer c,a3],ae (bj n) 1 1,ae b a e,jp A,bE A 2,ab (i64.wrap (m+1))]))) q) (R (.tuple #[]) w)):=by kernel_rfl
theorem Qn:bd prog f62 [a' a,ab i] R w=(cond (i<0) (R (ad false) w) (b0 w (af a 3) λj b c=>cond (i>=(b:Nat)) (R (ad false) w) (b0 w (af a 3) λd f g=>eF 89 #[ae d f g,ab i,ab (i64.wrap (i+1))] w λh e k m=>cE m (af a 3) (ae h e k) λl=>R (ad true) l))):=by kernel_rfl
theorem Q':bd prog f63 [a' a,ab i] R w=(mR 44 #[a' a,ab i] w λd e=>cond (!(Option.isNone d)) (eZ d λc=>bG e (bS c 4) λb=>R (ab b) e) (R (ab 0) e)):=by kernel_rfl
theorem Su:bd prog f64 [a' a,ab i] R w=(mR 44 #[a' a,ab i] w λj q=>cond (Option.isNone j) (R (.tuple #[a3,ad false]) q) (eZ j λl=>jM q l λb=>cond (!b) (R (.tuple #[a3,ad false]) q) (eZ j λm=>b0 q (bS m 3) λc d f=>cond (Option.isNone c) (R (.tuple #[a3,ad false]) q) (eZ j λn=>bG q (bS n 4) λg=>cond (g>0) (R (.tuple #[a3,ad false]) q) (eZ j λo=>b0 q (bS o 3) λh e k=>eZ j λp=>cE q (bS p 3) (a3) λr=>R (.tuple #[ae h e k,ad true]) r))))):=by kernel_rfl
def vo (e:aV) (s2:an) (a b:Nat) (i c:an) (d f:Nat) (g h:Int) (j:aq):aq:=.pointer (some e)::ag j 0 1 (ae s2 a b::ag j 1 4 (.pointer i::ag j 5 33 (ae c d f::ab g::ab h::ag j 38 80 [])))
def Eg (a:aV) (s2:an) (b c:Nat) (d:an) (j:aq):aq:=.pointer (some a)::ag j 0 1 (ae s2 b c::ag j 1 4 (.pointer d::ag j 5 116 []))
def sR (e:aV) (s2:an) (a b:Nat) (i c:an) (d f:Nat) (g h:Int) (j:aq):aq:=.pointer (some e)::ag j 0 1 (ae s2 a b::ag j 1 4 (.pointer i::ag j 5 54 (ae c d f::ab g::ab h::ag j 59 59 [])))
def yQ (s2:an) (a b:Nat) (c:an) (j:aq):aq:=ag j 0 2 (ae s2 a b::ag j 2 4 (.pointer c::ag j 6 116 []))
theorem Sv:bd prog f66 [a' a,ab i,ae s b c] R w=(mR 44 #[a' a,ab i] w λj l=>cond (Option.isNone j) (R (ab 1) l) (eZ j λe=>jM l e λd=>cond (!d) (R (ab 1) l) (eZ j λk=>b0 l (bS k 3) λf g h=>cond (!(Option.isNone f)) (R (ab 3) l) (cond ((b:Int) == 0) (R (ab 1) l) (cond ((b:Int)>1024) (R (ab 18) l) (cx prog (cY f66 [1,1,1,0,1,0,0]) (vo (af a 0) s b c j s b c (b:Nat) 0 (ab i::bx 3 (ab 0::bx 6 (jp (af a 0)::ab i::.pointer j::ad (!d)::.pointer j::ad (Option.isNone j)::ad false::.pointer j::jp e::jp e::ad d::ad (!d)::ad (!d)::ad (!(Option.isNone f))::.pointer j::jp k::bE k 3::ae f g h::ad (!(Option.isNone f))::ad ((b:Int) == 0)::ae s b c::du b::ad ((b:Int) == 0)::ad ((b:Int)>1024)::ae s b c::du b::ad ((b:Int)>1024)::bx 80 [])))) (aW 1 (aZ f66 [1,1,1,1] R)) l)))))):=by kernel_rfl
theorem PW (K:aq->aE):W prog (sb f66 [1,1,1,0,1,0,0]) (vo A s a b t u c d i k j) (a1 K (aW 1 (aZ f66 [1,1,1,1] R))) w=(cond (k<i) (bB u c k 9 λL=>iW w L λe h a5 H l m n o p q r=>aQ w #[ab 0,ab 0,ab 0,ab 0,ah 0,ah 0,a3,ah 0,ab 0] 158 λG V=>a_ V (af G 0) 0 [ab e,ab h,ab a5,ab H,ah l,ah m,ae n o p,ah q,ab r] λS=>cu S λT C=>lZ C (af G 0) λf g v x y z O Q M a8 P=>e1 C (bS A 1) λD E I=>cP C A λN=>cm 94 #[.agg #[ab f,ab g,ab v,ab x,ah y,ah z,ae O Q M,ah a8,ab P],ab (E:Nat),ab N] T λB F=>C F/\cond (B != 0) (R (ab B) F) (K (vo A s a b t u c d i (i64.wrap (k+1)) (ag j 0 6 (jp (af G 0)::ab B::ag j 8 30 (ad (k<i)::jp L::.agg #[ab e,ab h,ab a5,ab H,ah l,ah m,ae n o p,ah q,ab r]::.agg #[ab f,ab g,ab v,ab x,ah y,ah z,ae O Q M,ah a8,ab P]::jp A::jp A::bE A 1::ae D E I::du E::jp A::jp A::jp A::ab N::ab B::ab B::ad ((B:Int) != 0)::aN j 54::ab (i64.wrap (k+1))::ag j 56 62 [])))) F)) (W prog (sb f66 [1,1,1,1]) (Eg A s a b t (ag j 0 38 (ae u c d::ab i::ab k::ad (k<i)::ag j 39 79 []))) (bW f66 R) w)):=by kernel_rfl
theorem Qy:W prog (sb f66 [1,1,1,1]) (Eg A s a b t j) (bW f66 R) w=(cx prog (cY f66 [1,1,1,1,0,1,0,0]) (sR A s a b t s a b (a:Nat) 0 (ag j 0 59 (ag j 62 59 []))) (aW 3 (aZ f66 [1,1,1,1,1] R)) w):=by kernel_rfl
theorem PX (N:aq->aE):W prog (sb f66 [1,1,1,1,0,1,0,0]) (sR A s a b t u c d i k j) (a1 N (aW 3 (aZ f66 [1,1,1,1,1] R))) w=(cond (k<i) (bB u c k 9 λO=>iW w O λe B a8 a5 l m n o p q r=>aQ w #[ab 0,ab 0,ab 0,ab 0,ah 0,ah 0,a3,ah 0,ab 0] 158 λD U=>a_ U (af D 0) 0 [ab e,ab B,ab a8,ab a5,ah l,ah m,ae n o p,ah q,ab r] λUq=>cu Uq λUr C=>eZ t λG=>e1 C (bS G 2) λf g v=>cP C (af D 1) λx=>bB f g x 2 λh=>cu Ur λI H=>ri H h λy=>lZ H (af D 0) λz Uj Un V L Ul E S T Z P=>cP H A λM=>cm 95 #[.pointer y,.agg #[ab z,ab Uj,ab Un,ab V,ah L,ah Ul,ae E S T,ah Z,ab P],ab M] I λUp K=>b0 K (bS h 1) λUi Y Q=>aQ K #[ab k] 3 λUk iB=>cZ 22 (ae Ui Y Q) (ae (bj Uk) 1 1) iB λF Um X Uo=>cE Uo (bS h 1) (ae F Um X) λJ=>N (sR A s a b t u c d i (i64.wrap (k+1)) (ag j 0 8 (ab k::jp (af D 0)::jp h::ag j 11 48 (ad (k<i)::ab k::jp O::.agg #[ab e,ab B,ab a8,ab a5,ah l,ah m,ae n o p,ah q,ab r]::.pointer t::jp G::bE G 2::ae f g v::jp (af D 1)::ab x::jp h::jp h::jp h::jp h::.pointer y::.agg #[ab z,ab Uj,ab Un,ab V,ah L,ah Ul,ae E S T,ah Z,ab P]::jp A::jp A::jp A::ab M::ab Up::jp h::jp h::jp h::bE h 1::ae Ui Y Q::ab k::ae (bj Uk) 1 1::ae F Um X::jp h::bE h 1::ab (i64.wrap (k+1))::ag j 91 27 [])))) J) (W prog (sb f66 [1,1,1,1,1]) (yQ s a b t (jp A::ag j 0 59 (ae u c d::ab i::ab k::ad (k<i)::ag j 60 58 []))) (bW f66 R) w)):=by kernel_rfl
theorem Qz:W prog (sb f66 [1,1,1,1,1]) (yQ s a b t j) (bW f66 R) w=(pN (a:Nat) (a:Nat) 32 (.cells (iY (Int.toNat (a:Nat)) [ab 0,a3]).toArray 131) w λn q=>eZ t λf=>cE q (bS f 3) (ae (bj n) (Int.toNat (a:Nat)) (Int.toNat (a:Nat))) λo=>eZ t λg=>cE o (bS g 4) (ab (a:Nat)) λm=>eZ t λh=>bG m (bS h 5) λc=>eZ t λi=>cE m (bS i 5) (ab (i64.wrap (c+1))) λe=>eZ t λk=>bG e (bS k 6) λd=>eZ t λl=>cE e (bS l 6) (ab (i64.wrap (d+(a:Nat)))) λp=>R (ab 0) p):=by kernel_rfl
theorem Qo:bd prog f69 [a' a,ab i] R w=(b0 w (af a 3) λj b c=>cond (i>=(b:Nat)) (R (ad false) w) (b0 w (af a 3) λd f g=>bB d f i 1 λC=>l0 w C λx=>cu w λA u=>e1 u (af a 1) λh e k=>cm 68 #[.pointer x] A λl y=>u y/\bB h e l 1 λt=>ri u t λz=>zb 70 #[.pointer x,.pointer z] y λm n o p q D=>cm 45 #[.pointer x] D λr v=>cond (r == 0) (dm 62 #[a' a,ab i] v λs B=>R (ad true) B) (R (ad true) v))):=by kernel_rfl
end
section
def r6 (w w':al) (e sz:Nat) (a b:an) (n cap:Nat) (xs:aw):Prop:=
 ai w w'/\aY w' e sz b n cap xs/\(∀ k,aL b k->w.heap.size<=k)/\(b=none↔a=none)
theorem v9 {z:a0} (D:prog.underlying t=some (.slice e)) (x:prog.info? e=some i) (au:i.zero=some z) (q:z.cells.size=i.size) (p:0<i.size)
  {a:aV} (A:xs.length=n * i.size) (C:bg w (some a) xs) (r:∀ u ∈ xs,single u=true) (s:n<=140737488355328) (j:n * i.bytes<=140737488355328) :
  ∃ h b w',(Builtin.append_ #[t,t] ty #[.slice (some ⟨w.heap.size,0,none⟩) 0 0,.slice (some a) n c]).run prog (w.alloc (.cells #[] e))=.ok (.slice h n b) w'/\r6 w w' e i.size (some a) h n b xs:=by
 have l:aY (w.alloc (.cells #[] e)) e i.size (some ⟨w.heap.size,0,none⟩) 0 0 []:=by refine ⟨by simp,.inr ⟨w.heap.size,[],rfl,?_,by omega,by simp [maxLen],by simp,by simp⟩⟩;exact oz w [] e
 obtain ⟨h,b,w',f,d,y,g⟩:=l.append (P:=prog) (ty:=ty) D x au q p A (C.new (gY _ _)) r (c:=c) (by omega) (by simpa using j);simp only [gG,m4] at f d;refine ⟨h,b,w',f,?_,d,?_,?_⟩
 ·refine (gY w _).trans y ?_;rintro k B ⟨o,l⟩;simp at l <;> omega
 ·rintro k ⟨o,rfl⟩;rcases g with g | g
  ·simp at g <;> omega
  ·simp at g <;> omega
 ·rcases g with rfl | rfl<;>simp
theorem zm (h:xs.length=n) (s:bg w a xs) (p:∀ u ∈ xs,single u=true) (x:n<=1000000000) (l:a=none->n=0) :
  ba 73 [.slice a n c] w λv w'=>∃ e cap,v=.slice e n cap/\r6 w w' 30 1 a e n cap xs:=by
 refine bc Tryz.func73 ?_;rw [PL];obtain ⟨i,q,au,d,g⟩:=fp (T:=30) (z:=.int .u64 0) (n:=1) (m:=8) (by kernel_rfl);cases a with
 |none=>
  refine fK rfl ⟨none,0,by rw [l rfl],ao.refl _ _,?_,?_,by simp⟩
  ·rw [l rfl] at h ⊢;rw [fb h];exact aY.nil _ _ _
  ·rintro k ⟨o,r⟩;cases r
 |some a=>refine dw rfl ?_;rintro b1 w1 rfl rfl;obtain ⟨e,b,w',f,j⟩:=v9 (t:=94) (ty:=94) (z:=.int .u64 0) (n:=n) (c:=c) (w:=w) (a:=a) (xs:=xs) Tryz.underlying94 q au (by rw [d];rfl) (by omega) (by rw [h,d];omega) s p (by omega) (by rw [g];omega);exact ⟨e,n,b,w',f,e,b,rfl,by rw [d] at j;exact j⟩
structure aH where
 words:a4
 down:Bool
structure dK (w:al) (b aK:Nat) (n:aH):Prop where
 node:av w b [.slice (some ⟨aK,0,none⟩) n.words.length n.words.length,.bool n.down] 137
 words:av w aK (us n.words) 30
 len:n.words.length<=2048
 sY:8<=n.words.length
 wf:∀ x ∈ n.words,0<=x/\x<18446744073709551616
theorem dK.ne {w:al} {b aK:Nat} {n:aH} (h:dK w b aK n):b≠aK:=h.node.ne h.words (by decide)
theorem dK.ax {M:a2} {n:aH} (h:dK w b aK n) (a:ao M w w') (c:¬ M b) (d:¬ M aK):dK w' b aK n:=
 ⟨a.ak h.node c,a.ak h.words d,h.len,h.sY,h.wf⟩
theorem dK.new {n:aH} (h:dK w b aK n) (a:ai w w'):dK w' b aK n:=h.ax a id id
def aH.get (n:aH) (i:Nat):Int:=n.words.getD i 0
theorem aH.get_some {n:aH} {i:Nat} (h:i<n.words.length):n.words[i]?=some (n.get i):=by simp [aH.get,h]
theorem dK.FW {n:aH} (h:dK w b aK n) (i:Nat):0<=n.get i/\n.get i<18446744073709551616:=by
 by_cases a:i<n.words.length
 ·exact h.wf _ (cj (aH.get_some a))
 ·simp [aH.get,a]
theorem dK.cell {w:al} {b aK:Nat} {n:aH} (h:dK w b aK n) {i:Nat} (a:i<n.words.length):w.cell? ⟨aK,i,none⟩=some (.int .u64 (n.get i)):=
 h.words.cell (r' (aH.get_some a))
theorem DH {n:aH} (h:dK w b aK n):ba 101 [.pointer (some ⟨b,0,none⟩)] w λv w'=>v=.bool (!n.down)/\w'=w:=by refine bc Tryz.func101 ?_;rw [SZ];exact ⟨n.down,h.node.cell rfl,rfl,rfl⟩
theorem wh {n:aH} (h:dK w b aK n):ba 82 [.pointer (some ⟨b,0,none⟩)] w λv w'=>v=.int .i64 (n.words.length / 8:Nat)/\w'=w:=by refine bc Tryz.func82 ?_;rw [R7];have:=h.len;refine ⟨_,_,_,h.node.cell rfl,?_,rfl⟩;rw [wQ (by omega),bA (by omega) (by omega)];rfl
theorem L4 (l:a4) (i:Nat) (x:Int):(us l).set i (.int .u64 x)=us (l.set i x):=by simp [us]
theorem dK.Fh {n:aH} (h:dK w b aK n) (i:Nat) {x:Int} (c:0<=x) (d:x<18446744073709551616):dK (w.setCell ⟨aK,i,none⟩ (.int .u64 x)) b aK { n with words:=n.words.set i x }:=by
 refine ⟨?_,?_,by simpa using h.len,by simpa using h.sY,?_⟩
 ·have:=h.node.Fb (i:=i) h.ne (.int .u64 x);simpa using this
 ·have:=h.words.setCell (i:=i) (.int .u64 x);rw [L4] at this;exact this
 ·intro y a;rcases ks a with a | rfl
  ·exact h.wf y a
  ·exact ⟨c,d⟩
def aH.back (n:aH):aH×Bool:=if n.down=true/\n.get 1<31 then (⟨n.words.set 1 (n.get 1+1),false⟩,true) else (n,false)
def aH.e3 (n:aH) (at_ count:Int):Int:=
 if count<1\/at_<0\/(n.words.length:Int)<=at_\/(n.words.length:Int) - at_<count then 2 else if n.down=true then 4 else 0
theorem aH.qM {n:aH} (h:n.e3 at_ count=0):1<=count/\0<=at_/\at_+count<=n.words.length/\n.down=false:=by
 unfold aH.e3 at h;split at h
 ·omega
 ·rename_i a;split at h
  ·omega
  ·rename_i aA;exact ⟨by omega,by omega,by omega,by simpa using aA⟩
theorem tY {n:aH} (h:dK w b aK n) (at_ count:Int):ba 72 [.pointer (some ⟨b,0,none⟩),.int .i64 at_,.int .i64 count] w λv w'=>v=.int .i64 (n.e3 at_ count)/\w'=w:=by
 refine bc Tryz.func72 ?_;rw [R4];have g:=h.len;refine a9 (λd=>⟨?_,rfl⟩) (λd=>a9 (λe=>⟨?_,rfl⟩) (λe=>⟨_,_,_,h.node.cell rfl,a9 (λf=>⟨?_,rfl⟩) (λf=>⟨_,_,_,h.node.cell rfl,a9 (λa=>⟨?_,rfl⟩) (λa=>⟨_,h.node.cell rfl,fy (λc=>⟨?_,rfl⟩) (λc=>⟨?_,rfl⟩)⟩)⟩)⟩))
 ·rw [aH.e3,if_pos (.inl d)]
 ·rw [aH.e3,if_pos (.inr (.inl e))]
 ·rw [aH.e3,if_pos (.inr (.inr (.inl f)))]
 ·rw [bA (by omega) (by omega)] at a;rw [aH.e3,if_pos (.inr (.inr (.inr (by omega))))]
 ·rw [bA (by omega) (by omega)] at a;rw [aH.e3,if_neg (by omega),if_pos c]
 ·rw [bA (by omega) (by omega)] at a;rw [aH.e3,if_neg (by omega),if_neg (by simp [c])]
def aH.read (n:aH) (at_ count:Int):a4:=(n.words.drop at_.toNat).take count.toNat
theorem xx (l:a4) (k:Nat):(us l).take k=us (l.take k):=by simp [us]
theorem xy (l:a4) (k:Nat):(us l).drop k=us (l.drop k):=by simp [us]
theorem zx (l m:a4):us l++us m=us (l++m):=by simp [us]
def Jy (n:aH) (at_ count:Int) (w:al) (v:a0) (w':al):Prop:=
 (n.e3 at_ count≠0/\v=.tuple #[.slice none 0 0,.int .i64 (n.e3 at_ count)]/\w'=w)\/
 (n.e3 at_ count=0/\∃ a cap,v=.tuple #[.slice (some a) count.toNat cap,.int .i64 0]/\ai w w'/\aY w' 30 1 (some a) count.toNat cap (us (n.read at_ count))/\w.heap.size<=a.block)
theorem aH.v5 {n:aH} (h:n.e3 at_ count=0):(n.read at_ count).length=count.toNat:=by obtain ⟨a,b,c,_⟩:=aH.qM h;simp [aH.read];omega
theorem xJ {n:aH} (h:dK w b aK n) (at_ count:Int):ba 40 [.pointer (some ⟨b,0,none⟩),.int .i64 at_,.int .i64 count] w (Jy n at_ count w):=by
 refine bc Tryz.func40 ?_;rw [SJ];refine aD (tY h at_ count) ?_;rintro v w1 ⟨rfl,rfl⟩;refine ⟨_,rfl,dt (λc=>?_) (λc=>?_)⟩
 ·exact .inl ⟨c,rfl,rfl⟩
 ·obtain ⟨s,k,l,_⟩:=aH.qM c;have t:=h.len;refine ⟨_,_,_,h.node.cell rfl,?_⟩;rw [bA (by omega) (by omega)];refine kc k (by omega) l (by omega) (by omega) ?_;intro a o;rcases o with rfl | ⟨d,_⟩
  ·have i:bg w1 (some ⟨aK,0+at_.toNat * 1,none⟩) (us (n.read at_ count)):=by refine e9 h.words ?_;rw [hg,aH.v5 c,xy,xx,aH.read];simp
   have e:(at_+count).toNat - at_.toNat=count.toNat:=by omega
   rw [e];refine aD (zm (by rw [hg,aH.v5 c]) i (oB _) (by omega) (by simp)) ?_;rintro v u ⟨f,cap,rfl,r,j,p,q⟩;refine ⟨_,_,_,rfl,.inr ⟨c,?_⟩⟩;cases f with
   |none=>simp at q
   |some f=>
    refine ⟨f,cap,rfl,r,j,?_⟩;rcases j.2 with ⟨d,_⟩ | ⟨g,cur,d,_⟩
    ·cases d
    ·exact p _ ⟨f.off,by simp at d;rw [d]⟩
  ·omega
theorem Jz {P:Program} (l:P.underlying t=some (.slice e)) (h:P.info? e=some i) (g:i.size=1) {o dl dc:Nat} {s:an} {m:Nat} {news:aw} (k:news.length=m)
  (hm:m<=dl) (r:bg w s news) (q:s=none->m=0) (hw:dR w ⟨b,o,none⟩ 0 news):(Builtin.copy_ #[t,t] ty #[.slice (some ⟨b,o,none⟩) dl dc,.slice s m c]).run P w=.ok (.int .i64 m) (cl w ⟨b,o,none⟩ 0 news):=by
 have a:Nat.min m dl=m:=Nat.min_eq_left hm;have f:=rp (P:=P) hw;cases s with
 |none=>have:=q rfl;subst this;have:news=[]:=fb k;subst this;simp [Builtin.copy_,run_underlying l,Builtin.lenOf,a,sizeOf,typeInfo,h,Builtin.firstCells,goInt,storeCells,cl]
 |some s=>
  have d:(loadCells s m).run P w=.ok news.toArray w:=by
   have:b7 w s 0 news:=by
    rcases r with rfl | ⟨sb,so,he,n⟩
    ·trivial
    ·simp at he;subst he;exact kD λj v p=>by simpa using n j v p
   have:=bn.run_loadCellsFrom (P:=P) (acc:=#[]) this;rw [k] at this;simpa [loadCells] using this
  simp [Builtin.copy_,run_underlying l,Builtin.lenOf,a,sizeOf,typeInfo,h,Builtin.firstCells,goInt,g,d,f]
def aH.write (n:aH) (at_:Nat) (ws:a4):aH:={ n with words:=n.words.take at_++ws++n.words.drop (at_+ws.length) }
theorem dK.write {w:al} {b aK:Nat} {n:aH} (h:dK w b aK n) {o:Nat} {ws:a4} (c:o+ws.length<=n.words.length) (hw:∀ x ∈ ws,0<=x/\x<18446744073709551616):dK (cl w ⟨aK,o,none⟩ 0 (us ws)) b aK (n.write o ws):=by
 have hlen:(n.write o ws).words.length=n.words.length:=by simp [aH.write];omega
 refine ⟨?_,?_,by rw [hlen];exact h.len,by rw [hlen];exact h.sY,?_⟩
 ·rw [hlen];exact (ht _ _ _ _ _).ak h.node h.ne
 ·have:=h.words.cl (o:=o) (i:=0) (vs:=us ws);rw [oA (by rw [hg,hg];omega),lz,hg,xx,xy,zx,zx] at this;exact this
 ·intro x a;simp only [aH.write,gH] at a;rcases a with (a | a) | a
  ·exact h.wf x (r3 a)
  ·exact hw x a
  ·exact h.wf x (n1 a)
theorem GE {n:aH} (h:dK w b aK n) (at_:Int) {ws:a4} (r:bg w a (us ws)) (hw:∀ x ∈ ws,0<=x/\x<18446744073709551616) (q:a=none->ws.length=0) :
  ba 109 [.pointer (some ⟨b,0,none⟩),.int .i64 at_,.slice a ws.length c] w λv w'=>v=.int .i64 (n.e3 at_ ws.length)/\
   dK w' b aK (if n.e3 at_ ws.length=0 then n.write at_.toNat ws else n)/\ao (λk=>k=aK) w w':=by
 refine bc Tryz.func109 ?_;rw [R8];refine aD (tY h at_ _) ?_;rintro v w1 ⟨rfl,rfl⟩;refine ⟨_,rfl,dt (λd=>?_) (λd=>?_)⟩
 ·rw [if_neg d];exact ⟨rfl,h,ao.refl _ _⟩
 ·obtain ⟨u,g,y,_⟩:=aH.qM d;have A:=h.len;rw [if_pos d,d];refine ⟨_,_,_,h.node.cell rfl,kc g (by omega) (by omega) (by omega) (by omega) ?_⟩;intro s j;rcases j with rfl | ⟨B,_⟩
  ·obtain ⟨i,p,au,f,l⟩:=fp (T:=30) (z:=.int .u64 0) (n:=1) (m:=8) (by kernel_rfl);have e:=Jz (P:=prog) (w:=w1) (t:=94) (ty:=3) (b:=aK) (o:=0+at_.toNat * 1) (dl:=(n.words.length:Int).toNat - at_.toNat) (dc:=(n.words.length:Int).toNat - at_.toNat) (c:=c) Tryz.underlying94 p f (hg ws) (by omega) r q
    (fI h.words (by rw [hg,hg];omega) (oB ws))
   refine ⟨_,_,e,rfl,?_,ht _ _ _ _ _⟩;have:=h.write (o:=at_.toNat) (ws:=ws) (by omega) hw;simpa using this
  ·omega
def aH.eU (n:aH) (at_ old new:Int):aH:=if n.get at_.toNat=old then { n with words:=n.words.set at_.toNat new } else n
theorem NG {n:aH} (h:dK w b aK n) (at_ old new:Int) (d:0<=new) (e:new<18446744073709551616) :
  ba 139 [.pointer (some ⟨b,0,none⟩),.int .i64 at_,.int .u64 old,.int .u64 new] w λv w'=>
   v=.tuple #[.int .u64 (if n.e3 at_ 1=0 then n.get at_.toNat else 0),.int .i64 (n.e3 at_ 1)]/\dK w' b aK (if n.e3 at_ 1=0 then n.eU at_ old new else n)/\ao (λk=>k=aK) w w':=by
 refine bc Tryz.func139 ?_;rw [S8];refine aD (tY h at_ _) ?_;rintro v w1 ⟨rfl,rfl⟩;refine ⟨_,rfl,dt (λa=>?_) (λa=>?_)⟩
 ·rw [if_neg a,if_neg a];exact ⟨rfl,h,ao.refl _ _⟩
 ·obtain ⟨b1,az,f,_⟩:=aH.qM a;rw [if_pos a,if_pos a,a];have c:0+at_.toNat * 1=at_.toNat:=by omega
  refine ⟨_,_,_,h.node.cell rfl,dT az (by omega) ?_⟩;rw [c];refine ⟨_,h.cell (by omega),dJ (λhe=>?_) (λhe=>?_)⟩
  ·refine ⟨_,_,_,h.node.cell rfl,dT az (by omega) ?_⟩;rw [c];refine ⟨⟨_,h.cell (by omega)⟩,h.words.frozen,?_⟩;rintro g rfl;refine ⟨rfl,?_,eA _ _ _ _⟩;rw [aH.eU,if_pos he];exact h.Fh _ d e
  ·rw [aH.eU,if_neg he];exact ⟨rfl,h,ao.refl _ _⟩
def aH.add (n:aH) (at_ a:Int):aH:={ n with words:=n.words.set at_.toNat (IntKind.u64.wrap (n.get at_.toNat+a)) }
theorem F3 (x:Int):0<=IntKind.u64.wrap x/\IntKind.u64.wrap x<18446744073709551616:=by simp only [IntKind.wrap,IntKind.bits,IntKind.signed];simp;omega
theorem NH {n:aH} (h:dK w b aK n) (at_ c:Int) :
  ba 140 [.pointer (some ⟨b,0,none⟩),.int .i64 at_,.int .u64 c] w λv w'=>
   v=.tuple #[.int .u64 (if n.e3 at_ 1=0 then n.get at_.toNat else 0),.int .i64 (n.e3 at_ 1)]/\dK w' b aK (if n.e3 at_ 1=0 then n.add at_ c else n)/\ao (λk=>k=aK) w w':=by
 refine bc Tryz.func140 ?_;rw [S9];refine aD (tY h at_ _) ?_;rintro v w1 ⟨rfl,rfl⟩;refine ⟨_,rfl,dt (λa=>?_) (λa=>?_)⟩
 ·rw [if_neg a,if_neg a];exact ⟨rfl,h,ao.refl _ _⟩
 ·obtain ⟨b1,az,e,_⟩:=aH.qM a;rw [if_pos a,if_pos a,a];have d:0+at_.toNat * 1=at_.toNat:=by omega
  refine ⟨_,_,_,h.node.cell rfl,dT az (by omega) ?_⟩;rw [d];refine ⟨_,h.cell (by omega),_,_,_,h.node.cell rfl,dT az (by omega) ?_⟩;rw [d];refine ⟨_,h.cell (by omega),dT az (by omega) ?_⟩;rw [d];refine ⟨⟨_,h.cell (by omega)⟩,h.words.frozen,?_⟩;rintro f rfl;exact ⟨rfl,h.Fh _ (F3 _).1 (F3 _).2,eA _ _ _ _⟩
theorem Bx (n:Nat) (v:a0):iY n [v]=List.replicate n v:=by
 induction n with
 |zero=>rfl
 |succ n a=>simp [iY,o6] at *
theorem Kw {lines:Int} (d:1<=lines) (f:lines<=256):ba 74 [.int .i64 lines] w λv w'=>
  v=.tuple #[.pointer (some ⟨w.heap.size+1,0,none⟩),.int .i64 0]/\dK w' (w.heap.size+1) w.heap.size ⟨List.replicate (8 * lines.toNat) 0,false⟩/\ai w w'/\w'.heap.size=w.heap.size+2:=by
 refine bc Tryz.func74 ?_;rw [TZ];refine a9 (λh=>by omega) (λ_=>a9 (λh=>by omega) (λ_=>?_))
 have e:IntKind.i64.wrap (lines * 8)=lines * 8:=bA (by omega) (by omega);rw [e];refine ⟨by omega,by omega,by omega,by omega,?_⟩;rintro b1 w1 rfl rfl az g rfl rfl;have b:(lines * 8).toNat=8 * lines.toNat:=by omega
 rw [b,Bx];have a:(w.alloc (.cells (List.replicate (8 * lines.toNat) (Value.int .u64 0)).toArray 30)).heap.size=w.heap.size+1:=by simp
 refine ⟨by rw [a],?_,(gY _ _).alloc _,by simp⟩;refine ⟨?_,?_,by simp;omega,by simp;omega,?_⟩
 ·have:=oz (w.alloc (.cells (List.replicate (8 * lines.toNat) (Value.int .u64 0)).toArray 30)) [.slice (some ⟨w.heap.size,0,none⟩) (8 * lines.toNat) (8 * lines.toNat),.bool false] 137;rw [a] at this;simpa using this
 ·have:=(oz w (List.replicate (8 * lines.toNat) (Value.int .u64 0)) 30).alloc (.cells #[.slice (some ⟨w.heap.size,0,none⟩) (8 * lines.toNat) (8 * lines.toNat),.bool false] 137);simpa [us] using this
 ·intro x c;simp only [List.mem_replicate] at c;omega
end
end Go.Proofs.YtmkljjbioomepaaGreat
