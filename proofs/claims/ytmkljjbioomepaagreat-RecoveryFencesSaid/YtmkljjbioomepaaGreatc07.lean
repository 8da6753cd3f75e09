import Derived.Test.YtmkljjbioomepaaGreatProg
import Derived.Test.YtmkljjbioomepaaGreatc03
import Derived.Test.YtmkljjbioomepaaGreatc02
import Derived.Test.YtmkljjbioomepaaGreatc06
set_option linter.all false
namespace Go.Proofs.YtmkljjbioomepaaGreat
open Go.Proofs.Tryz Go.br
variable {a:al} {at_ count:Int} {b aI c n:Nat} {e t ty:TypeId} {i:TypeInfo} {w w':ak} {xs:ax}
section
open IntKind
variable (w:ak) (R:cA) {a b c d e f:Nat} {i k l m n:Int} {A:aU} {s t u:al} {j:aq}
def rW (e:aU) (g a:al) (b c:Nat) (d f:Int) (j:aq):aq:=.pointer (some e)::ag j 0 4 (.pointer g::ag j 4 12 (ae a b c::ab d::ab f::ag j 16 31 []))
def zO (a:al) (j:aq):aq:=ag j 0 5 (.pointer a::ag j 5 46 [])
theorem TC:bf prog f22 [a9 a,ab i] R w=(du 43 #[a9 a,ab i] w λe h=>cond (!e) (R (ad false) h) (mx 44 #[a9 a,ab i] h λb j=>ff b λg=>b4 j (bM g 2) λc d f=>cu prog (c0 f22 [1,1,1,0,1,0,0]) (rW (af a 0) b c d f (d:Nat) 0 (ab i::bd 2 (ad false::bd 2 (jp (af a 0)::ab i::ad e::ad (!e)::jp (af a 0)::ab i::.pointer b::.pointer b::jp g::bI g 2::bd 31 [])))) (aO 0 (aQ f22 [1,1,1,1] R)) j)):=by kernel_rfl
theorem Rn (x:aq->aE):W prog (sb f22 [1,1,1,0,1,0,0]) (rW A s t a b i k j) (aV x (aO 0 (aQ f22 [1,1,1,1] R))) w=(cond (k<i) (bk t a k 2 λy=>F6 w y λg h d u=>aR w #[.pointer none,a6] 105 λe G=>a8 G (af e 0) 0 [.pointer g,ae h d u] λC=>mz C (af e 0) λl=>cm 45 #[.pointer l] C λm z=>cond (m>0) (cq z λF v=>fg v (bM A 3) λn o p=>sk v (af e 0) λq=>aR F #[.pointer q] 103 λB D=>v D/\c6 106 (ae n o p) (ae (bm B) 1 1) D λf r c E=>v E/\cH E (bM A 3) (ae f r c) λH=>x (rW A s t a b i (i64.wrap (k+1)) (ag j 0 5 (jp (af e 0)::ag j 6 10 (ad (k<i)::jp y::.agg #[.pointer g,ae h d u]::jp (af e 0)::.pointer l::ab m::ad (m>0)::jp A::jp A::jp A::bI A 3::ae n o p::jp (af e 0)::.pointer q::ae (bm B) 1 1::ae f r c::jp A::bI A 3::ab (i64.wrap (k+1))::ag j 35 12 [])))) H) (x (rW A s t a b i (i64.wrap (k+1)) (ag j 0 5 (jp (af e 0)::ag j 6 10 (ad (k<i)::jp y::.agg #[.pointer g,ae h d u]::jp (af e 0)::.pointer l::ab m::ad (m>0)::ag j 23 11 (ab (i64.wrap (k+1))::ag j 35 12 []))))) z)) (W prog (sb f22 [1,1,1,1]) (zO s (jp A::ag j 0 16 (ae t a b::ab i::ab k::ad (k<i)::ag j 17 30 []))) (b0 f22 R) w)):=by kernel_rfl
theorem Sb:W prog (sb f22 [1,1,1,1]) (zO s j) (b0 f22 R) w=(ff s λa=>cH w a (ad false) λf=>ff s λb=>cH f (bM b 2) (a6) λh=>ff s λc=>cH h (bM c 3) (a6) λe=>ff s λd=>cH e (bM d 4) (ab 0) λg=>R (ad true) g):=by kernel_rfl
def wA (e:aU) (i:al) (a b:Nat) (c:al) (d f:Nat) (g h:Int) (j:aq):aq:=.pointer (some e)::ag j 0 2 (ae i a b::ag j 2 9 (ae c d f::ab g::ab h::ag j 11 45 []))
def E' (a:aU) (d:al) (b c:Nat) (j:aq):aq:=.pointer (some a)::ag j 0 2 (ae d b c::ag j 2 57 [])
def tU (e:aU) (o:al) (a b:Nat) (p:Int) (c:al) (d f:Nat) (g h:Int) (i:al) (k l:Nat) (m n:Int) (j:aq):aq:=.pointer (some e)::ag j 0 2 (ae o a b::ab p::ag j 2 8 (ae c d f::ab g::ab h::ag j 10 5 (ae i k l::ab m::ab n::ag j 15 37 [])))
def Fa (a:aU) (e:al) (b c:Nat) (d:al) (f g:Nat) (h i:Int) (j:aq):aq:=.pointer (some a)::ag j 0 2 (ae e b c::ag j 2 9 (ae d f g::ab h::ab i::ag j 11 45 []))
def wB (e:al) (a b:Nat) (c:al) (d f:Nat) (g h:Int) (j:aq):aq:=ag j 0 3 (ae e a b::ag j 3 39 (ae c d f::ab g::ab h::ag j 42 15 []))
def Fb (c:al) (a b:Nat) (j:aq):aq:=ag j 0 3 (ae c a b::ag j 3 57 [])
theorem R_:bf prog f36 [a9 a] R w=(b4 w (af a 2) λd b c=>cu prog (c0 f36 [1,1,0,1,0,0]) (wA (af a 0) none 0 0 d b c (b:Nat) 0 (undef::a6::bd 6 (jp (af a 0)::jp (af a 0)::jp (af a 2)::bd 45 []))) (aO 0 (aQ f36 [1,1,1] R)) w):=by kernel_rfl
theorem lw (z:aq->aE):W prog (sb f36 [1,1,0,1,0,0]) (wA A s a b t c d i k j) (aV z (aO 0 (aQ f36 [1,1,1] R))) w=(cond (k<i) (bk t c k 7 λC=>SK w C λf u l m n o p q r e g=>aR w #[ad false,ab 0,a6,a6,ab 0,ab 0,ab 0] 102 λh D=>a8 D (af h 0) 0 [ad f,ab u,ae l m n,ae o p q,ab r,ab e,ab g] λB=>b4 B (af h 2) λv x y=>cu prog (c0 f36 [1,1,0,1,0,0,1,1,0,0,1,1,0,0]) (tU A s a b k t c d i k v x y (x:Nat) 0 (aF j 0::aF j 1::jp (af h 0)::ag j 4 7 (ad (k<i)::ab k::jp C::.agg #[ad f,ab u,ae l m n,ae o p q,ab r,ab e,ab g]::jp (af h 2)::ag j 19 37 []))) (aO 2 (aO 1 (aV (λE w=>W prog (sb f36 [1,1,0,1,0,0,1,1,1]) E (aV z (aO 0 (aQ f36 [1,1,1] R))) w) (aV z (aO 0 (aQ f36 [1,1,1] R)))))) B) (W prog (sb f36 [1,1,1]) (E' A s a b (ag j 0 11 (ae t c d::ab i::ab k::ad (k<i)::ag j 12 44 []))) (b0 f36 R) w)):=by kernel_rfl
theorem QO:W prog (sb f36 [1,1,1]) (E' A s a b j) (b0 f36 R) w=(b4 w (bM A 3) λd f g=>cu prog (c0 f36 [1,1,1,0,1,0,0]) (wB s a b d f g (f:Nat) 0 (jp A::ag j 0 38 (jp A::jp A::bI A 3::ag j 44 15 []))) (aO 4 (aQ f36 [1,1,1,1] R)) w):=by kernel_rfl
theorem Qx (B:aq->aE) (C:aq->aE):W prog (sb f36 [1,1,0,1,0,0,1,1,0,0,1,1,0,0]) (tU A s a b i t c d k l u e f m n j) (aV C (aO 2 (aO 1 (aV (λK w=>W prog (sb f36 [1,1,0,1,0,0,1,1,1]) K (aV B (aO 0 (aQ f36 [1,1,1] R))) w) (aV B (aO 0 (aQ f36 [1,1,1] R))))))) w=(cond (n<m) (bk u e n 2 λD=>F6 w D λo p q r=>aR w #[.pointer none,a6] 105 λy aW=>a8 aW (af y 0) 0 [.pointer o,ae p q r] λG=>mz G (af y 0) λg=>cm 45 #[.pointer g] G λh E=>cond (h>0) (aR E #[ab (-1),ab i,ab n] 89 λF H=>c6 85 (ae s a b) (ae (bm F) 1 1) H λz v x a1=>C (tU A z v x i t c d k l u e f m (i64.wrap (n+1)) (aF j 0::aF j 1::aF j 2::ab n::jp (af y 0)::ag j 5 10 (ad (n<m)::ab n::jp D::.agg #[.pointer o,ae p q r]::jp (af y 0)::.pointer g::ab h::ad (h>0)::ae s a b::ab i::ab n::.agg #[ab (-1),ab i,ab n]::ae (bm F) 1 1::ae z v x::ab (i64.wrap (n+1))::ag j 30 22 []))) a1) (C (tU A s a b i t c d k l u e f m (i64.wrap (n+1)) (aF j 0::aF j 1::aF j 2::ab n::jp (af y 0)::ag j 5 10 (ad (n<m)::ab n::jp D::.agg #[.pointer o,ae p q r]::jp (af y 0)::.pointer g::ab h::ad (h>0)::ag j 23 6 (ab (i64.wrap (n+1))::ag j 30 22 [])))) E)) (W prog (sb f36 [1,1,0,1,0,0,1,1,1]) (Fa A s a b t c d k l (aF j 0::aF j 1::ab i::ag j 2 13 (ae u e f::ab m::ab n::ad (n<m)::ag j 16 36 []))) (aV B (aO 0 (aQ f36 [1,1,1] R))) w)):=by kernel_rfl
theorem QP (e:aq->aE):W prog (sb f36 [1,1,0,1,0,0,1,1,1]) (Fa A s a b t c d i k j) (aV e (aO 0 (aQ f36 [1,1,1] R))) w=(e (wA A s a b t c d i (i64.wrap (k+1)) (ag j 0 34 (ab (i64.wrap (k+1))::ag j 35 21 []))) w):=by kernel_rfl
theorem Qy (h:aq->aE):W prog (sb f36 [1,1,1,0,1,0,0]) (wB s a b t c d i k j) (aV h (aO 4 (aQ f36 [1,1,1,1] R))) w=(cond (k<i) (bk t c k 1 λo=>mz w o λx=>cm 67 #[.pointer x] w λe q=>cm 68 #[.pointer x] q λf u=>aR u #[ab k,ab e,ab f] 89 λn p=>c6 85 (ae s a b) (ae (bm n) 1 1) p λg l m r=>h (wB g l m t c d i (i64.wrap (k+1)) (ag j 0 7 (ab k::.pointer x::ag j 9 33 [ad (k<i),ab k,jp o,.pointer x,ae s a b,ab k,.pointer x,ab e,.pointer x,ab f,.agg #[ab k,ab e,ab f],ae (bm n) 1 1,ae g l m,ab (i64.wrap (k+1)),aF j 56]))) r) (W prog (sb f36 [1,1,1,1]) (Fb s a b (ag j 0 42 (ae t c d::ab i::ab k::ad (k<i)::ag j 43 14 []))) (b0 f36 R) w)):=by kernel_rfl
theorem QQ:W prog (sb f36 [1,1,1,1]) (Fb s a b j) (b0 f36 R) w=(R (ae s a b) w):=by kernel_rfl
theorem Tg (C:Nat) (a b c:Int) (w:ak) (R:cA):bf prog f37 [a9 C,.agg #[ab a,ab b,ab c]] R w=(aR w #[ab a,ab b,ab c] 89 λb1 w1=>bt w1 (af b1 0) λd=>cond (d>=0) (bt w1 (af b1 0) λf=>du 69 #[a9 C,ab f] w1 λg V2=>R (ad g) V2) (bt w1 (af b1 0) λh=>cond (h<(-1)) (R (ad false) w1) (bt w1 (af b1 1) λi=>mx 44 #[a9 C,ab i] w1 λk V3=>cq V3 λD A=>cond (Option.isNone k) (R (ad false) D) (cL A (af b1 2) λl=>cond (l<0) (R (ad false) D) (cL A (af b1 2) λm=>ff k λmb=>fg A (bM mb 2) λn o p=>cond (m>=(o:Nat)) (R (ad false) D) (ff k λVS=>fg A (bM VS 2) λq r s=>cL A (af b1 2) λt=>bk q r t 2 λbw=>sk A bw λv=>cm 45 #[.pointer v] D λy E=>A E/\cond (y == 0) (R (ad false) E) (cq E λV4 B=>ff k λbv=>fg B (bM bv 2) λz aa V_=>cL B (af b1 2) λac=>bk z aa ac 2 λaI=>cq V4 λS e=>sk e aI λH=>fg e (af C 1) λVu Vv V'=>cL e (af b1 2) λVw=>bk Vu Vv Vw 1 λVT=>sk e VT λx=>(z' 70 #[.pointer H,.pointer x] S λVx Vy c5 am Vz T=>e T/\aR T #[ab 0,a6] 131 λaA U=>e U/\a8 U (af aA 0) 0 [ab Vx,ae Vy c5 am] λN=>cond Vz (cq N λkO j=>ff k λVH=>fg j (bM VH 3) λVA ap Wa=>fg j (bM aI 1) λVB VC Wb=>bk VB VC 0 1 λVI=>cL j VI λV5=>z6 j (af aA 0) λVD VE VF VG=>bk VA ap V5 2 λdn=>a8 kO dn 0 [ab VD,ae VE VF VG] λJ=>b4 J (bM aI 1) λV F G=>hM V F G 1 (F:Nat) (G:Nat) 1 λV7 V9 V8=>eg 71 #[ae V7 V9 V8] J λW X Y VJ=>cH VJ (bM aI 1) (ae W X Y) λK=>ff k λVU=>bt K (bM VU 4) λZ=>ff k λaY=>cH K (bM aY 4) (ab (i64.wrap (Z - 1))) λcc=>R (ad true) cc) (R (ad true) N))/\aR S #[ab 0,a6] 131 λI O=>e O/\z' 70 #[.pointer H,.pointer x] O λVr Vs Vt VK di ce=>e ce/\a8 ce (af I 0) 0 [ab Vr,ae Vs Vt VK] λP=>cond di (cq P λVV u=>ff k λVW=>fg u (bM VW 3) λfa ey be=>fg u (bM aI 1) λVL VM Wc=>bk VL VM 0 1 λci=>cL u ci λV6=>z6 u (af I 0) λbi VN qv VO=>bk fa ey V6 2 λVX=>a8 VV VX 0 [ab bi,ae VN qv VO] λdK=>b4 dK (bM aI 1) λVP L M=>hM VP L M 1 (L:Nat) (M:Nat) 1 λdj VY VZ=>eg 71 #[ae dj VY VZ] dK λjw VQ VR co=>cH co (bM aI 1) (ae jw VQ VR) λQ=>ff k λV0=>bt Q (bM V0 4) λhj=>ff k λV1=>cH Q (bM V1 4) (ab (i64.wrap (hj - 1))) λcs=>R (ad true) cs) (R (ad true) P)))))))):=by kernel_rfl
theorem SU:bf prog f38 [a9 a] R w=(b4 w (af a 1) λd b c=>R (ab (b:Nat)) w):=by kernel_rfl
theorem Th:bf prog f39 [a9 a,ab i] R w=(cond (i<0) (R (.pointer none) w) (b4 w (af a 1) λe b c=>cond (i>=(b:Nat)) (R (.pointer none) w) (b4 w (af a 1) λd f g=>bk d f i 1 λh=>mz w h λx=>R (.pointer x) w))):=by kernel_rfl
theorem SV:bf prog f43 [a9 a,ab i] R w=(mx 44 #[a9 a,ab i] w λd e=>cond (!(Option.isNone d)) (ff d λc=>g1 e c λb=>R (ad b) e) (R (ad false) e)):=by kernel_rfl
theorem Fj:bf prog f44 [a9 a,ab i] R w=(cond (i<0) (R (.pointer none) w) (b4 w (af a 2) λe b c=>cond (i>=(b:Nat)) (R (.pointer none) w) (b4 w (af a 2) λd f g=>bk d f i 7 λh=>R (.pointer (some h)) w))):=by kernel_rfl
def w7 (s2:Int) (s8:aU) (a b:Int) (j:aq):aq:=ag j 0 2 (ab s2::ag j 2 5 (.pointer (some s8)::ag j 7 30 (ab a::ab b::ag j 37 33 [])))
def Gh (a:aU) (j:aq):aq:=ag j 0 8 (.pointer (some a)::ag j 8 65 [])
def w8 (s8:aU) (a b:Int) (j:aq):aq:=ag j 0 8 (.pointer (some s8)::ag j 8 56 (ab a::ab b::ag j 64 7 []))
def Gi (a:aU) (j:aq):aq:=ag j 0 8 (.pointer (some a)::ag j 8 65 [])
theorem Hr:bf prog f46 [ab i,ab k,ab l] R w=(cond (i<1) (R (.tuple #[.pointer none,ab 1]) w) (cond (i>5) (R (.tuple #[.pointer none,ab 1]) w) (cond (k<1) (R (.tuple #[.pointer none,ab 1]) w) (cond (k>6) (R (.tuple #[.pointer none,ab 1]) w) (cond (l<1) (R (.tuple #[.pointer none,ab 2]) w) (cond (l>256) (R (.tuple #[.pointer none,ab 2]) w) (qK k k 88 (.cells (jr (Int.toNat k) [ad false,ab 0,a6,a6,ab 0,ab 0,ab 0]).toArray 102) w λa c=>aR c #[ab l,a6,ae (bm a) (Int.toNat k) (Int.toNat k),a6] 110 λb d=>cu prog (c0 f46 [1,1,1,0,1,0,0]) (w7 l (af b 0) i 0 (ab i::ab k::bd 3 (.pointer none::ab 0::bd 3 (ad (k>6)::ab i::ad (i<1)::ad false::ab i::ad (i>5)::ad (i>5)::ad false::ab k::ad (k<1)::ad (k<1)::ad false::ab k::ad (k>6)::ad (k>6)::ad (l>256)::ab l::ad (l<1)::ad false::ab l::ad (l>256)::ad (l>256)::ab l::ab k::ae (bm a) (Int.toNat k) (Int.toNat k)::.agg #[ab l,a6,ae (bm a) (Int.toNat k) (Int.toNat k),a6]::jp (af b 0)::bd 33 [])))) (aO 1 (aQ f46 [1,1,1,1] R)) d))))))):=by kernel_rfl
theorem Ti (o:aq->aE):W prog (sb f46 [1,1,1,0,1,0,0]) (w7 i A k l j) (aV o (aO 1 (aQ f46 [1,1,1,1] R))) w=(cond (l<k) (z7 74 #[ab i] w λc d m=>cond (d != 0) (R (.tuple #[.pointer none,ab d]) m) (b4 m (bM A 1) λf g h=>aR m #[.pointer c] 92 λn r=>c6 107 (ae f g h) (ae (bm n) 1 1) r λe a b p=>cH p (bM A 1) (ae e a b) λq=>o (w7 i A k (i64.wrap (l+1)) (ag j 0 7 (.pointer c::ab d::ag j 9 28 (ad (l<k)::.tuple #[.pointer c,ab d]::ab i::.tuple #[.pointer c,ab d]::.pointer c::ab d::ab d::ad ((d:Int) != 0)::aF j 45::jp A::jp A::jp A::bI A 1::ae f g h::.pointer c::ae (bm n) 1 1::ae e a b::jp A::bI A 1::ab (i64.wrap (l+1))::ag j 57 13 [])))) q)) (W prog (sb f46 [1,1,1,1]) (Gh A (aF j 0::aF j 1::ab i::ag j 2 35 (ab k::ab l::ad (l<k)::ag j 38 32 []))) (b0 f46 R) w)):=by kernel_rfl
theorem Uo:W prog (sb f46 [1,1,1,1]) (Gh A j) (b0 f46 R) w=(b4 w (bM A 2) λb c d=>cu prog (c0 f46 [1,1,1,1,0,1,0,0]) (w8 A (c:Nat) 0 (ag j 0 60 (jp A::jp A::bI A 2::ae b c d::ag j 66 7 []))) (aO 3 (aQ f46 [1,1,1,1,1] R)) w):=by kernel_rfl
theorem Tj (a:aq->aE):W prog (sb f46 [1,1,1,1,0,1,0,0]) (w8 A i k j) (aV a (aO 3 (aQ f46 [1,1,1,1,1] R))) w=(cond (k<i) (uw 53 #[.pointer (some A),ab k,ab 1] w λb=>a (w8 A i (i64.wrap (k+1)) (ag j 0 10 (ab k::ag j 11 53 [ad (k<i),ab k,jp A,ab k,.tuple #[],ab (i64.wrap (k+1)),aF j 70]))) b) (W prog (sb f46 [1,1,1,1,1]) (Gi A (ag j 0 64 (ab i::ab k::ad (k<i)::ag j 65 6 []))) (b0 f46 R) w)):=by kernel_rfl
theorem Up:W prog (sb f46 [1,1,1,1,1]) (Gi A j) (b0 f46 R) w=(R (.tuple #[.pointer (some A),ab 0]) w):=by kernel_rfl
def tV (s1 s2:Int) (c:aU) (a b:Int) (j:aq):aq:=ag j 0 1 (ab s1::ab s2::ag j 1 3 (.pointer (some c)::ag j 4 23 (ab a::ab b::ag j 27 21 [])))
theorem R':bf prog f53 [a9 a,ab i,ab k] R w=(b4 w (af a 2) λe b c=>bk e b i 7 λh=>cH w h (ad true) λl=>cH l (bM h 1) (ab k) λm=>cH m (bM h 2) (a6) λj=>b4 j (af a 1) λd f g=>cu prog (c0 f53 [1,1,1,0,0]) (tV i k h (f:Nat) 0 (jp (af a 0)::bd 6 (jp (af a 0)::jp (af a 0)::jp (af a 2)::ae e b c::ab i::jp h::jp h::jp h::jp h::ab k::jp h::jp h::jp h::bI h 1::jp h::bI h 2::jp (af a 0)::jp (af a 0)::jp (af a 1)::ae d f g::bd 21 []))) (aO 0 (b0 f53 R)) j):=by kernel_rfl
theorem Qz (p:aq->aE):W prog (sb f53 [1,1,1,0,0]) (tV i k A l m j) (aV p (aO 0 (b0 f53 R))) w=(cond (m<l) (z7 80 #[ab i,ab k,ab m] w λc d n=>b4 n (bM A 2) λf g h=>aR n #[.pointer c,a6] 105 λo s=>c6 99 (ae f g h) (ae (bm o) 1 1) s λb a e q=>cH q (bM A 2) (ae b a e) λr=>p (tV i k A l (i64.wrap (m+1)) (ag j 0 4 (ab m::.pointer c::ab d::ag j 7 20 [ad (m<l),ab m,.tuple #[.pointer c,ab d],ab i,ab k,ab m,.tuple #[.pointer c,ab d],.pointer c,ab d,jp A,jp A,jp A,bI A 2,ae f g h,.pointer c,.agg #[.pointer c,a6],ae (bm o) 1 1,ae b a e,jp A,bI A 2,ab (i64.wrap (m+1))]))) r) (R (.tuple #[]) w)):=by kernel_rfl
theorem Rh:bf prog f62 [a9 a,ab i] R w=(cond (i<0) (R (ad false) w) (b4 w (af a 3) λj b c=>cond (i>=(b:Nat)) (R (ad false) w) (b4 w (af a 3) λd f g=>eg 89 #[ae d f g,ab i,ab (i64.wrap (i+1))] w λh e k m=>cH m (af a 3) (ae h e k) λl=>R (ad true) l))):=by kernel_rfl
theorem RS:bf prog f63 [a9 a,ab i] R w=(mx 44 #[a9 a,ab i] w λe d=>cond (!(Option.isNone e)) (ff e λc=>bt d (bM c 4) λb=>R (ab b) d) (R (ab 0) d)):=by kernel_rfl
theorem Tk:bf prog f64 [a9 a,ab i] R w=(mx 44 #[a9 a,ab i] w λj q=>cond (Option.isNone j) (R (.tuple #[a6,ad false]) q) (ff j λl=>g1 q l λb=>cond (!b) (R (.tuple #[a6,ad false]) q) (ff j λm=>b4 q (bM m 3) λc d f=>cond (Option.isNone c) (R (.tuple #[a6,ad false]) q) (ff j λn=>bt q (bM n 4) λg=>cond (g>0) (R (.tuple #[a6,ad false]) q) (ff j λo=>b4 q (bM o 3) λh e k=>ff j λp=>cH q (bM p 3) (a6) λr=>R (.tuple #[ae h e k,ad true]) r))))):=by kernel_rfl
def wG (e:aU) (s2:al) (a b:Nat) (i c:al) (d f:Nat) (g h:Int) (j:aq):aq:=.pointer (some e)::ag j 0 1 (ae s2 a b::ag j 1 4 (.pointer i::ag j 5 33 (ae c d f::ab g::ab h::ag j 38 80 [])))
def Fk (a:aU) (s2:al) (b c:Nat) (d:al) (j:aq):aq:=.pointer (some a)::ag j 0 1 (ae s2 b c::ag j 1 4 (.pointer d::ag j 5 116 []))
def tW (e:aU) (s2:al) (a b:Nat) (i c:al) (d f:Nat) (g h:Int) (j:aq):aq:=.pointer (some e)::ag j 0 1 (ae s2 a b::ag j 1 4 (.pointer i::ag j 5 54 (ae c d f::ab g::ab h::ag j 59 59 [])))
def zP (s2:al) (a b:Nat) (c:al) (j:aq):aq:=ag j 0 2 (ae s2 a b::ag j 2 4 (.pointer c::ag j 6 116 []))
theorem Tl:bf prog f66 [a9 a,ab i,ae s b c] R w=(mx 44 #[a9 a,ab i] w λj l=>cond (Option.isNone j) (R (ab 1) l) (ff j λe=>g1 l e λd=>cond (!d) (R (ab 1) l) (ff j λk=>b4 l (bM k 3) λf g h=>cond (!(Option.isNone f)) (R (ab 3) l) (cond ((b:Int) == 0) (R (ab 1) l) (cond ((b:Int)>1024) (R (ab 18) l) (cu prog (c0 f66 [1,1,1,0,1,0,0]) (wG (af a 0) s b c j s b c (b:Nat) 0 (ab i::bd 3 (ab 0::bd 6 (jp (af a 0)::ab i::.pointer j::ad (!d)::.pointer j::ad (Option.isNone j)::ad false::.pointer j::jp e::jp e::ad d::ad (!d)::ad (!d)::ad (!(Option.isNone f))::.pointer j::jp k::bI k 3::ae f g h::ad (!(Option.isNone f))::ad ((b:Int) == 0)::ae s b c::c9 b::ad ((b:Int) == 0)::ad ((b:Int)>1024)::ae s b c::c9 b::ad ((b:Int)>1024)::bd 80 [])))) (aO 1 (aQ f66 [1,1,1,1] R)) l)))))):=by kernel_rfl
theorem QR (M:aq->aE):W prog (sb f66 [1,1,1,0,1,0,0]) (wG A s a b t u c d i k j) (aV M (aO 1 (aQ f66 [1,1,1,1] R))) w=(cond (k<i) (bk u c k 9 λN=>jo w N λe h K O l m n o p q r=>aR w #[ab 0,ab 0,ab 0,ab 0,ah 0,ah 0,a6,ah 0,ab 0] 158 λF S=>a8 S (af F 0) 0 [ab e,ab h,ab K,ab O,ah l,ah m,ae n o p,ah q,ab r] λT=>cq T λV D=>my D (af F 0) λf g v x y z L aW a1 Q H=>fg D (bM A 1) λC G I=>cL D A λP=>cm 94 #[.agg #[ab f,ab g,ab v,ab x,ah y,ah z,ae L aW a1,ah Q,ab H],ab (G:Nat),ab P] V λB E=>D E/\cond (B != 0) (R (ab B) E) (M (wG A s a b t u c d i (i64.wrap (k+1)) (ag j 0 6 (jp (af F 0)::ab B::ag j 8 30 (ad (k<i)::jp N::.agg #[ab e,ab h,ab K,ab O,ah l,ah m,ae n o p,ah q,ab r]::.agg #[ab f,ab g,ab v,ab x,ah y,ah z,ae L aW a1,ah Q,ab H]::jp A::jp A::bI A 1::ae C G I::c9 G::jp A::jp A::jp A::ab P::ab B::ab B::ad ((B:Int) != 0)::aF j 54::ab (i64.wrap (k+1))::ag j 56 62 [])))) E)) (W prog (sb f66 [1,1,1,1]) (Fk A s a b t (ag j 0 38 (ae u c d::ab i::ab k::ad (k<i)::ag j 39 79 []))) (b0 f66 R) w)):=by kernel_rfl
theorem Rq:W prog (sb f66 [1,1,1,1]) (Fk A s a b t j) (b0 f66 R) w=(cu prog (c0 f66 [1,1,1,1,0,1,0,0]) (tW A s a b t s a b (a:Nat) 0 (ag j 0 59 (ag j 62 59 []))) (aO 3 (aQ f66 [1,1,1,1,1] R)) w):=by kernel_rfl
theorem QS (N:aq->aE):W prog (sb f66 [1,1,1,1,0,1,0,0]) (tW A s a b t u c d i k j) (aV N (aO 3 (aQ f66 [1,1,1,1,1] R))) w=(cond (k<i) (bk u c k 9 λZ=>jo w Z λe B S Vs l m n o p q r=>aR w #[ab 0,ab 0,ab 0,ab 0,ah 0,ah 0,a6,ah 0,ab 0] 158 λE Vy=>a8 Vy (af E 0) 0 [ab e,ab B,ab S,ab Vs,ah l,ah m,ae n o p,ah q,ab r] λVz=>cq Vz λJ C=>ff t λG=>fg C (bM G 2) λf g v=>cL C (af E 1) λx=>bk f g x 2 λh=>cq J λVx H=>sk H h λy=>my H (af E 0) λz Vr L Q Vw K D Vu T Vv V=>cL H A λY=>cm 95 #[.pointer y,.agg #[ab z,ab Vr,ab L,ab Q,ah Vw,ah K,ae D Vu T,ah Vv,ab V],ab Y] Vx λI O=>b4 O (bM h 1) λVt aW a1=>aR O #[ab k] 3 λX VA=>c6 22 (ae Vt aW a1) (ae (bm X) 1 1) VA λF P M ij=>cH ij (bM h 1) (ae F P M) λU=>N (tW A s a b t u c d i (i64.wrap (k+1)) (ag j 0 8 (ab k::jp (af E 0)::jp h::ag j 11 48 (ad (k<i)::ab k::jp Z::.agg #[ab e,ab B,ab S,ab Vs,ah l,ah m,ae n o p,ah q,ab r]::.pointer t::jp G::bI G 2::ae f g v::jp (af E 1)::ab x::jp h::jp h::jp h::jp h::.pointer y::.agg #[ab z,ab Vr,ab L,ab Q,ah Vw,ah K,ae D Vu T,ah Vv,ab V]::jp A::jp A::jp A::ab Y::ab I::jp h::jp h::jp h::bI h 1::ae Vt aW a1::ab k::ae (bm X) 1 1::ae F P M::jp h::bI h 1::ab (i64.wrap (k+1))::ag j 91 27 [])))) U) (W prog (sb f66 [1,1,1,1,1]) (zP s a b t (jp A::ag j 0 59 (ae u c d::ab i::ab k::ad (k<i)::ag j 60 58 []))) (b0 f66 R) w)):=by kernel_rfl
theorem Rr:W prog (sb f66 [1,1,1,1,1]) (zP s a b t j) (b0 f66 R) w=(qK (a:Nat) (a:Nat) 32 (.cells (jr (Int.toNat (a:Nat)) [ab 0,a6]).toArray 131) w λo n=>ff t λf=>cH n (bM f 3) (ae (bm o) (Int.toNat (a:Nat)) (Int.toNat (a:Nat))) λp=>ff t λg=>cH p (bM g 4) (ab (a:Nat)) λe=>ff t λh=>bt e (bM h 5) λc=>ff t λi=>cH e (bM i 5) (ab (i64.wrap (c+1))) λm=>ff t λk=>bt m (bM k 6) λd=>ff t λl=>cH m (bM l 6) (ab (i64.wrap (d+(a:Nat)))) λq=>R (ab 0) q):=by kernel_rfl
theorem Ri:bf prog f69 [a9 a,ab i] R w=(b4 w (af a 3) λj b c=>cond (i>=(b:Nat)) (R (ad false) w) (b4 w (af a 3) λd f g=>bk d f i 1 λB=>mz w B λx=>cq w λA u=>fg u (af a 1) λh e k=>cm 68 #[.pointer x] A λl y=>u y/\bk h e l 1 λt=>sk u t λD=>z' 70 #[.pointer x,.pointer D] y λm n o p q z=>cm 45 #[.pointer x] z λr v=>cond (r == 0) (du 62 #[a9 a,ab i] v λs C=>R (ad true) C) (R (ad true) v))):=by kernel_rfl
end
section
def tc (w w':ak) (e sz:Nat) (a b:al) (n cap:Nat) (xs:ax):Prop:=
 ai w w'/\a2 w' e sz b n cap xs/\(∀ k,aK b k->w.heap.size<=k)/\(b=none↔a=none)
theorem xv {z:a4} (D:prog.underlying t=some (.slice e)) (x:prog.info? e=some i) (au:i.zero=some z) (q:z.cells.size=i.size) (p:0<i.size)
  {a:aU} (A:xs.length=n * i.size) (C:bh w (some a) xs) (r:∀ u ∈ xs,single u=true) (s:n<=140737488355328) (j:n * i.bytes<=140737488355328) :
  ∃ h b w',(Builtin.append_ #[t,t] ty #[.slice (some ⟨w.heap.size,0,none⟩) 0 0,.slice (some a) n c]).run prog (w.alloc (.cells #[] e))=.ok (.slice h n b) w'/\tc w w' e i.size (some a) h n b xs:=by
 have l:a2 (w.alloc (.cells #[] e)) e i.size (some ⟨w.heap.size,0,none⟩) 0 0 []:=by refine ⟨by simp,.inr ⟨w.heap.size,[],rfl,?_,by omega,by simp [maxLen],by simp,by simp⟩⟩;exact pv w [] e
 obtain ⟨h,b,w',f,d,y,g⟩:=l.append (P:=prog) (ty:=ty) D x au q p A (C.new (hk _ _)) r (c:=c) (by omega) (by simpa using j);simp only [g3,oQ] at f d;refine ⟨h,b,w',f,?_,d,?_,?_⟩
 ·refine (hk w _).trans y ?_;rintro k B ⟨o,l⟩;simp at l <;> omega
 ·rintro k ⟨o,rfl⟩;rcases g with g | g
  ·simp at g <;> omega
  ·simp at g <;> omega
 ·rcases g with rfl | rfl<;>simp
theorem Ai (h:xs.length=n) (s:bh w a xs) (p:∀ u ∈ xs,single u=true) (x:n<=1000000000) (l:a=none->n=0) :
  a_ 73 [.slice a n c] w λv w'=>∃ e cap,v=.slice e n cap/\tc w w' 30 1 a e n cap xs:=by
 refine bc Tryz.func73 ?_;rw [QE];obtain ⟨i,q,au,d,g⟩:=fL (T:=30) (z:=.int .u64 0) (n:=1) (m:=8) (by kernel_rfl);cases a with
 |none=>
  refine eB rfl ⟨none,0,by rw [l rfl],ao.refl _ _,?_,?_,by simp⟩
  ·rw [l rfl] at h ⊢;rw [fB h];exact a2.nil _ _ _
  ·rintro k ⟨o,r⟩;cases r
 |some a=>refine cR rfl ?_;rintro b1 w1 rfl rfl;obtain ⟨e,b,w',f,j⟩:=xv (t:=94) (ty:=94) (z:=.int .u64 0) (n:=n) (c:=c) (w:=w) (a:=a) (xs:=xs) Tryz.underlying94 q au (by rw [d];rfl) (by omega) (by rw [h,d];omega) s p (by omega) (by rw [g];omega);exact ⟨e,n,b,w',f,e,b,rfl,by rw [d] at j;exact j⟩
structure a0 where
 words:bb
 down:Bool
structure dY (w:ak) (b aI:Nat) (n:a0):Prop where
 node:av w b [.slice (some ⟨aI,0,none⟩) n.words.length n.words.length,.bool n.down] 137
 words:av w aI (us n.words) 30
 len:n.words.length<=2048
 ud:8<=n.words.length
 wf:∀ x ∈ n.words,0<=x/\x<18446744073709551616
theorem dY.ne {w:ak} {b aI:Nat} {n:a0} (h:dY w b aI n):b≠aI:=h.node.ne h.words (by decide)
theorem dY.az {M:a5} {n:a0} (h:dY w b aI n) (a:ao M w w') (c:¬ M b) (d:¬ M aI):dY w' b aI n:=
 ⟨a.aj h.node c,a.aj h.words d,h.len,h.ud,h.wf⟩
theorem dY.new {n:a0} (h:dY w b aI n) (a:ai w w'):dY w' b aI n:=h.az a id id
def a0.get (n:a0) (i:Nat):Int:=n.words.getD i 0
theorem a0.get_some {n:a0} {i:Nat} (h:i<n.words.length):n.words[i]?=some (n.get i):=by simp [a0.get,h]
theorem dY.As {n:a0} (h:dY w b aI n) (i:Nat):0<=n.get i/\n.get i<18446744073709551616:=by
 by_cases a:i<n.words.length
 ·exact h.wf _ (cg (a0.get_some a))
 ·simp [a0.get,a]
theorem dY.cell {w:ak} {b aI:Nat} {n:a0} (h:dY w b aI n) {i:Nat} (a:i<n.words.length):w.cell? ⟨aI,i,none⟩=some (.int .u64 (n.get i)):=
 h.words.cell (s_ (a0.get_some a))
theorem EF {n:a0} (h:dY w b aI n):a_ 101 [.pointer (some ⟨b,0,none⟩)] w λv w'=>v=.bool (!n.down)/\w'=w:=by refine bc Tryz.func101 ?_;rw [Uj];exact ⟨n.down,h.node.cell rfl,rfl,rfl⟩
theorem xy {n:a0} (h:dY w b aI n):a_ 82 [.pointer (some ⟨b,0,none⟩)] w λv w'=>v=.int .i64 (n.words.length / 8:Nat)/\w'=w:=by refine bc Tryz.func82 ?_;rw [Tw];have:=h.len;refine ⟨_,_,_,h.node.cell rfl,?_,rfl⟩;rw [x6 (by omega),bC (by omega) (by omega)];rfl
theorem NQ (l:bb) (i:Nat) (x:Int):(us l).set i (.int .u64 x)=us (l.set i x):=by simp [us]
theorem dY.Gr {n:a0} (h:dY w b aI n) (i:Nat) {x:Int} (c:0<=x) (d:x<18446744073709551616):dY (w.setCell ⟨aI,i,none⟩ (.int .u64 x)) b aI { n with words:=n.words.set i x }:=by
 refine ⟨?_,?_,by simpa using h.len,by simpa using h.ud,?_⟩
 ·have:=h.node.Gl (i:=i) h.ne (.int .u64 x);simpa using this
 ·have:=h.words.setCell (i:=i) (.int .u64 x);rw [NQ] at this;exact this
 ·intro y a;rcases nQ a with a | rfl
  ·exact h.wf y a
  ·exact ⟨c,d⟩
def a0.back (n:a0):a0×Bool:=if n.down=true/\n.get 1<31 then (⟨n.words.set 1 (n.get 1+1),false⟩,true) else (n,false)
def a0.e3 (n:a0) (at_ count:Int):Int:=
 if count<1\/at_<0\/(n.words.length:Int)<=at_\/(n.words.length:Int) - at_<count then 2 else if n.down=true then 4 else 0
theorem a0.rS {n:a0} (h:n.e3 at_ count=0):1<=count/\0<=at_/\at_+count<=n.words.length/\n.down=false:=by
 unfold a0.e3 at h;split at h
 ·omega
 ·rename_i a;split at h
  ·omega
  ·rename_i ar;exact ⟨by omega,by omega,by omega,by simpa using ar⟩
theorem vd {n:a0} (h:dY w b aI n) (at_ count:Int):a_ 72 [.pointer (some ⟨b,0,none⟩),.int .i64 at_,.int .i64 count] w λv w'=>v=.int .i64 (n.e3 at_ count)/\w'=w:=by
 refine bc Tryz.func72 ?_;rw [Tt];have g:=h.len;refine a' (λd=>⟨?_,rfl⟩) (λd=>a' (λe=>⟨?_,rfl⟩) (λe=>⟨_,_,_,h.node.cell rfl,a' (λf=>⟨?_,rfl⟩) (λf=>⟨_,_,_,h.node.cell rfl,a' (λa=>⟨?_,rfl⟩) (λa=>⟨_,h.node.cell rfl,fS (λc=>⟨?_,rfl⟩) (λc=>⟨?_,rfl⟩)⟩)⟩)⟩))
 ·rw [a0.e3,if_pos (.inl d)]
 ·rw [a0.e3,if_pos (.inr (.inl e))]
 ·rw [a0.e3,if_pos (.inr (.inr (.inl f)))]
 ·rw [bC (by omega) (by omega)] at a;rw [a0.e3,if_pos (.inr (.inr (.inr (by omega))))]
 ·rw [bC (by omega) (by omega)] at a;rw [a0.e3,if_neg (by omega),if_pos c]
 ·rw [bC (by omega) (by omega)] at a;rw [a0.e3,if_neg (by omega),if_neg (by simp [c])]
def a0.read (n:a0) (at_ count:Int):bb:=(n.words.drop at_.toNat).take count.toNat
theorem yJ (l:bb) (k:Nat):(us l).take k=us (l.take k):=by simp [us]
theorem yK (l:bb) (k:Nat):(us l).drop k=us (l.drop k):=by simp [us]
theorem AJ (l m:bb):us l++us m=us (l++m):=by simp [us]
def Kk (n:a0) (at_ count:Int) (w:ak) (v:a4) (w':ak):Prop:=
 (n.e3 at_ count≠0/\v=.tuple #[.slice none 0 0,.int .i64 (n.e3 at_ count)]/\w'=w)\/
 (n.e3 at_ count=0/\∃ a cap,v=.tuple #[.slice (some a) count.toNat cap,.int .i64 0]/\ai w w'/\a2 w' 30 1 (some a) count.toNat cap (us (n.read at_ count))/\w.heap.size<=a.block)
theorem a0.xm {n:a0} (h:n.e3 at_ count=0):(n.read at_ count).length=count.toNat:=by obtain ⟨a,b,c,_⟩:=a0.rS h;simp [a0.read];omega
theorem vA {n:a0} (h:dY w b aI n) (at_ count:Int):a_ 40 [.pointer (some ⟨b,0,none⟩),.int .i64 at_,.int .i64 count] w (Kk n at_ count w):=by
 refine bc Tryz.func40 ?_;rw [TA];refine aC (vd h at_ count) ?_;rintro v w1 ⟨rfl,rfl⟩;refine ⟨_,rfl,dw (λc=>?_) (λc=>?_)⟩
 ·exact .inl ⟨c,rfl,rfl⟩
 ·obtain ⟨s,k,l,_⟩:=a0.rS c;have t:=h.len;refine ⟨_,_,_,h.node.cell rfl,?_⟩;rw [bC (by omega) (by omega)];refine kt k (by omega) l (by omega) (by omega) ?_;intro a o;rcases o with rfl | ⟨d,_⟩
  ·have i:bh w1 (some ⟨aI,0+at_.toNat * 1,none⟩) (us (n.read at_ count)):=by refine fk h.words ?_;rw [hC,a0.xm c,yK,yJ,a0.read];simp
   have e:(at_+count).toNat - at_.toNat=count.toNat:=by omega
   rw [e];refine aC (Ai (by rw [hC,a0.xm c]) i (pr _) (by omega) (by simp)) ?_;rintro v u ⟨f,cap,rfl,r,j,p,q⟩;refine ⟨_,_,_,rfl,.inr ⟨c,?_⟩⟩;cases f with
   |none=>simp at q
   |some f=>
    refine ⟨f,cap,rfl,r,j,?_⟩;rcases j.2 with ⟨d,_⟩ | ⟨g,cur,d,_⟩
    ·cases d
    ·exact p _ ⟨f.off,by simp at d;rw [d]⟩
  ·omega
theorem Kl {P:Program} (l:P.underlying t=some (.slice e)) (h:P.info? e=some i) (g:i.size=1) {o dl dc:Nat} {s:al} {m:Nat} {news:ax} (k:news.length=m)
  (hm:m<=dl) (r:bh w s news) (q:s=none->m=0) (hw:eh w ⟨b,o,none⟩ 0 news):(Builtin.copy_ #[t,t] ty #[.slice (some ⟨b,o,none⟩) dl dc,.slice s m c]).run P w=.ok (.int .i64 m) (ct w ⟨b,o,none⟩ 0 news):=by
 have a:Nat.min m dl=m:=Nat.min_eq_left hm;have f:=su (P:=P) hw;cases s with
 |none=>have:=q rfl;subst this;have:news=[]:=fB k;subst this;simp [Builtin.copy_,run_underlying l,Builtin.lenOf,a,sizeOf,typeInfo,h,Builtin.firstCells,goInt,storeCells,ct]
 |some s=>
  have d:(loadCells s m).run P w=.ok news.toArray w:=by
   have:b6 w s 0 news:=by
    rcases r with rfl | ⟨sb,so,he,n⟩
    ·trivial
    ·simp at he;subst he;exact kR λj v p=>by simpa using n j v p
   have:=br.run_loadCellsFrom (P:=P) (acc:=#[]) this;rw [k] at this;simpa [loadCells] using this
  simp [Builtin.copy_,run_underlying l,Builtin.lenOf,a,sizeOf,typeInfo,h,Builtin.firstCells,goInt,g,d,f]
def a0.write (n:a0) (at_:Nat) (ws:bb):a0:={ n with words:=n.words.take at_++ws++n.words.drop (at_+ws.length) }
theorem dY.write {w:ak} {b aI:Nat} {n:a0} (h:dY w b aI n) {o:Nat} {ws:bb} (c:o+ws.length<=n.words.length) (hw:∀ x ∈ ws,0<=x/\x<18446744073709551616):dY (ct w ⟨aI,o,none⟩ 0 (us ws)) b aI (n.write o ws):=by
 have hlen:(n.write o ws).words.length=n.words.length:=by simp [a0.write];omega
 refine ⟨?_,?_,by rw [hlen];exact h.len,by rw [hlen];exact h.ud,?_⟩
 ·rw [hlen];exact (hT _ _ _ _ _).aj h.node h.ne
 ·have:=h.words.ct (o:=o) (i:=0) (vs:=us ws);rw [pq (by rw [hC,hC];omega),lY,hC,yJ,yK,AJ,AJ] at this;exact this
 ·intro x a;simp only [a0.write,jL] at a;rcases a with (a | a) | a
  ·exact h.wf x (s6 a)
  ·exact hw x a
  ·exact h.wf x (oP a)
theorem C3 {n:a0} (h:dY w b aI n) (at_:Int) {ws:bb} (r:bh w a (us ws)) (hw:∀ x ∈ ws,0<=x/\x<18446744073709551616) (q:a=none->ws.length=0) :
  a_ 109 [.pointer (some ⟨b,0,none⟩),.int .i64 at_,.slice a ws.length c] w λv w'=>v=.int .i64 (n.e3 at_ ws.length)/\
   dY w' b aI (if n.e3 at_ ws.length=0 then n.write at_.toNat ws else n)/\ao (λk=>k=aI) w w':=by
 refine bc Tryz.func109 ?_;rw [Tx];refine aC (vd h at_ _) ?_;rintro v w1 ⟨rfl,rfl⟩;refine ⟨_,rfl,dw (λd=>?_) (λd=>?_)⟩
 ·rw [if_neg d];exact ⟨rfl,h,ao.refl _ _⟩
 ·obtain ⟨u,g,y,_⟩:=a0.rS d;have A:=h.len;rw [if_pos d,d];refine ⟨_,_,_,h.node.cell rfl,kt g (by omega) (by omega) (by omega) (by omega) ?_⟩;intro s j;rcases j with rfl | ⟨B,_⟩
  ·obtain ⟨i,p,au,f,l⟩:=fL (T:=30) (z:=.int .u64 0) (n:=1) (m:=8) (by kernel_rfl);have e:=Kl (P:=prog) (w:=w1) (t:=94) (ty:=3) (b:=aI) (o:=0+at_.toNat * 1) (dl:=(n.words.length:Int).toNat - at_.toNat) (dc:=(n.words.length:Int).toNat - at_.toNat) (c:=c) Tryz.underlying94 p f (hC ws) (by omega) r q
    (f7 h.words (by rw [hC,hC];omega) (pr ws))
   refine ⟨_,_,e,rfl,?_,hT _ _ _ _ _⟩;have:=h.write (o:=at_.toNat) (ws:=ws) (by omega) hw;simpa using this
  ·omega
def a0.gh (n:a0) (at_ old new:Int):a0:=if n.get at_.toNat=old then { n with words:=n.words.set at_.toNat new } else n
theorem N3 {n:a0} (h:dY w b aI n) (at_ old new:Int) (d:0<=new) (e:new<18446744073709551616) :
  a_ 139 [.pointer (some ⟨b,0,none⟩),.int .i64 at_,.int .u64 old,.int .u64 new] w λv w'=>
   v=.tuple #[.int .u64 (if n.e3 at_ 1=0 then n.get at_.toNat else 0),.int .i64 (n.e3 at_ 1)]/\dY w' b aI (if n.e3 at_ 1=0 then n.gh at_ old new else n)/\ao (λk=>k=aI) w w':=by
 refine bc Tryz.func139 ?_;rw [TX];refine aC (vd h at_ _) ?_;rintro v w1 ⟨rfl,rfl⟩;refine ⟨_,rfl,dw (λa=>?_) (λa=>?_)⟩
 ·rw [if_neg a,if_neg a];exact ⟨rfl,h,ao.refl _ _⟩
 ·obtain ⟨b1,aA,f,_⟩:=a0.rS a;rw [if_pos a,if_pos a,a];have c:0+at_.toNat * 1=at_.toNat:=by omega
  refine ⟨_,_,_,h.node.cell rfl,ed aA (by omega) ?_⟩;rw [c];refine ⟨_,h.cell (by omega),dJ (λhe=>?_) (λhe=>?_)⟩
  ·refine ⟨_,_,_,h.node.cell rfl,ed aA (by omega) ?_⟩;rw [c];refine ⟨⟨_,h.cell (by omega)⟩,h.words.frozen,?_⟩;rintro g rfl;refine ⟨rfl,?_,eV _ _ _ _⟩;rw [a0.gh,if_pos he];exact h.Gr _ d e
  ·rw [a0.gh,if_neg he];exact ⟨rfl,h,ao.refl _ _⟩
def a0.add (n:a0) (at_ a:Int):a0:={ n with words:=n.words.set at_.toNat (IntKind.u64.wrap (n.get at_.toNat+a)) }
theorem G' (x:Int):0<=IntKind.u64.wrap x/\IntKind.u64.wrap x<18446744073709551616:=by simp only [IntKind.wrap,IntKind.bits,IntKind.signed];simp;omega
theorem N4 {n:a0} (h:dY w b aI n) (at_ c:Int) :
  a_ 140 [.pointer (some ⟨b,0,none⟩),.int .i64 at_,.int .u64 c] w λv w'=>
   v=.tuple #[.int .u64 (if n.e3 at_ 1=0 then n.get at_.toNat else 0),.int .i64 (n.e3 at_ 1)]/\dY w' b aI (if n.e3 at_ 1=0 then n.add at_ c else n)/\ao (λk=>k=aI) w w':=by
 refine bc Tryz.func140 ?_;rw [TY];refine aC (vd h at_ _) ?_;rintro v w1 ⟨rfl,rfl⟩;refine ⟨_,rfl,dw (λa=>?_) (λa=>?_)⟩
 ·rw [if_neg a,if_neg a];exact ⟨rfl,h,ao.refl _ _⟩
 ·obtain ⟨b1,aA,e,_⟩:=a0.rS a;rw [if_pos a,if_pos a,a];have d:0+at_.toNat * 1=at_.toNat:=by omega
  refine ⟨_,_,_,h.node.cell rfl,ed aA (by omega) ?_⟩;rw [d];refine ⟨_,h.cell (by omega),_,_,_,h.node.cell rfl,ed aA (by omega) ?_⟩;rw [d];refine ⟨_,h.cell (by omega),ed aA (by omega) ?_⟩;rw [d];refine ⟨⟨_,h.cell (by omega)⟩,h.words.frozen,?_⟩;rintro f rfl;exact ⟨rfl,h.Gr _ (G' _).1 (G' _).2,eV _ _ _ _⟩
theorem CM (n:Nat) (v:a4):jr n [v]=List.replicate n v:=by
 induction n with
 |zero=>rfl
 |succ n a=>simp [jr,q'] at *
theorem Km {lines:Int} (d:1<=lines) (f:lines<=256):a_ 74 [.int .i64 lines] w λv w'=>
  v=.tuple #[.pointer (some ⟨w.heap.size+1,0,none⟩),.int .i64 0]/\dY w' (w.heap.size+1) w.heap.size ⟨List.replicate (8 * lines.toNat) 0,false⟩/\ai w w'/\w'.heap.size=w.heap.size+2:=by
 refine bc Tryz.func74 ?_;rw [Vj];refine a' (λh=>by omega) (λ_=>a' (λh=>by omega) (λ_=>?_))
 have e:IntKind.i64.wrap (lines * 8)=lines * 8:=bC (by omega) (by omega);rw [e];refine ⟨by omega,by omega,by omega,by omega,?_⟩;rintro b1 w1 rfl rfl aA g rfl rfl;have b:(lines * 8).toNat=8 * lines.toNat:=by omega
 rw [b,CM];have a:(w.alloc (.cells (List.replicate (8 * lines.toNat) (Value.int .u64 0)).toArray 30)).heap.size=w.heap.size+1:=by simp
 refine ⟨by rw [a],?_,(hk _ _).alloc _,by simp⟩;refine ⟨?_,?_,by simp;omega,by simp;omega,?_⟩
 ·have:=pv (w.alloc (.cells (List.replicate (8 * lines.toNat) (Value.int .u64 0)).toArray 30)) [.slice (some ⟨w.heap.size,0,none⟩) (8 * lines.toNat) (8 * lines.toNat),.bool false] 137;rw [a] at this;simpa using this
 ·have:=(pv w (List.replicate (8 * lines.toNat) (Value.int .u64 0)) 30).alloc (.cells #[.slice (some ⟨w.heap.size,0,none⟩) (8 * lines.toNat) (8 * lines.toNat),.bool false] 137);simpa [us] using this
 ·intro x c;simp only [AX] at c;omega
end
end Go.Proofs.YtmkljjbioomepaaGreat
