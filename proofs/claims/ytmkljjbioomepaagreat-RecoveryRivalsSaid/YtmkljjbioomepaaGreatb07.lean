import Derived.Test.YtmkljjbioomepaaGreatProg
import Derived.Test.YtmkljjbioomepaaGreatb03
import Derived.Test.YtmkljjbioomepaaGreatb02
import Derived.Test.YtmkljjbioomepaaGreatb06
set_option linter.all false
namespace Go.Proofs.YtmkljjbioomepaaGreat
open Go.Proofs.Tryz Go.bu
variable {a:an} {at_ count:Int} {b aJ c n:Nat} {e t ty:TypeId} {i:TypeInfo} {w w':ak} {xs:ax}
section
open IntKind
variable (w:ak) (R:cB) {a b c d e f:Nat} {i k l m n:Int} {A:aS} {s t u:an} {j:aq}
def se (e:aS) (g a:an) (b c:Nat) (d f:Int) (j:aq):aq:=.pointer (some e)::ag j 0 4 (.pointer g::ag j 4 12 (ae a b c::ab d::ab f::ag j 16 31 []))
def z' (a:an) (j:aq):aq:=ag j 0 5 (.pointer a::ag j 5 46 [])
theorem Uf:bf prog f22 [a_ a,ab i] R w=(de 43 #[a_ a,ab i] w λe h=>cond (!e) (R (ad false) h) (mB 44 #[a_ a,ab i] h λb j=>fk b λg=>b5 j (bT g 2) λc d f=>cv prog (c0 f22 [1,1,1,0,1,0,0]) (se (af a 0) b c d f (d:Nat) 0 (ab i::bb 2 (ad false::bb 2 (jp (af a 0)::ab i::ad e::ad (!e)::jp (af a 0)::ab i::.pointer b::.pointer b::jp g::bq g 2::bb 31 [])))) (aM 0 (aP f22 [1,1,1,1] R)) j)):=by kernel_rfl
theorem Rr (x:aq->aE):W prog (sb f22 [1,1,1,0,1,0,0]) (se A s t a b i k j) (aU x (aM 0 (aP f22 [1,1,1,1] R))) w=(cond (k<i) (bm t a k 2 λy=>Gv w y λg h d u=>aQ w #[.pointer none,a5] 105 λe F=>a' F (af e 0) 0 [.pointer g,ae h d u] λC=>mD C (af e 0) λl=>cm 45 #[.pointer l] C λm E=>cond (m>0) (ct E λH v=>e5 v (bT A 3) λn o p=>sH v (af e 0) λq=>aQ H #[.pointer q] 103 λz B=>v B/\c9 106 (ae n o p) (ae (bn z) 1 1) B λf r c D=>v D/\cI D (bT A 3) (ae f r c) λG=>x (se A s t a b i (i64.wrap (k+1)) (ag j 0 5 (jp (af e 0)::ag j 6 10 (ad (k<i)::jp y::.agg #[.pointer g,ae h d u]::jp (af e 0)::.pointer l::ab m::ad (m>0)::jp A::jp A::jp A::bq A 3::ae n o p::jp (af e 0)::.pointer q::ae (bn z) 1 1::ae f r c::jp A::bq A 3::ab (i64.wrap (k+1))::ag j 35 12 [])))) G) (x (se A s t a b i (i64.wrap (k+1)) (ag j 0 5 (jp (af e 0)::ag j 6 10 (ad (k<i)::jp y::.agg #[.pointer g,ae h d u]::jp (af e 0)::.pointer l::ab m::ad (m>0)::ag j 23 11 (ab (i64.wrap (k+1))::ag j 35 12 []))))) E)) (W prog (sb f22 [1,1,1,1]) (z' s (jp A::ag j 0 16 (ae t a b::ab i::ab k::ad (k<i)::ag j 17 30 []))) (bZ f22 R) w)):=by kernel_rfl
theorem Sn:W prog (sb f22 [1,1,1,1]) (z' s j) (bZ f22 R) w=(fk s λa=>cI w a (ad false) λe=>fk s λb=>cI e (bT b 2) (a5) λf=>fk s λc=>cI f (bT c 3) (a5) λh=>fk s λd=>cI h (bT d 4) (ab 0) λg=>R (ad true) g):=by kernel_rfl
def wU (e:aS) (i:an) (a b:Nat) (c:an) (d f:Nat) (g h:Int) (j:aq):aq:=.pointer (some e)::ag j 0 2 (ae i a b::ag j 2 9 (ae c d f::ab g::ab h::ag j 11 45 []))
def FC (a:aS) (d:an) (b c:Nat) (j:aq):aq:=.pointer (some a)::ag j 0 2 (ae d b c::ag j 2 57 [])
def uk (e:aS) (o:an) (a b:Nat) (p:Int) (c:an) (d f:Nat) (g h:Int) (i:an) (k l:Nat) (m n:Int) (j:aq):aq:=.pointer (some e)::ag j 0 2 (ae o a b::ab p::ag j 2 8 (ae c d f::ab g::ab h::ag j 10 5 (ae i k l::ab m::ab n::ag j 15 37 [])))
def FD (a:aS) (e:an) (b c:Nat) (d:an) (f g:Nat) (h i:Int) (j:aq):aq:=.pointer (some a)::ag j 0 2 (ae e b c::ag j 2 9 (ae d f g::ab h::ab i::ag j 11 45 []))
def wV (e:an) (a b:Nat) (c:an) (d f:Nat) (g h:Int) (j:aq):aq:=ag j 0 3 (ae e a b::ag j 3 39 (ae c d f::ab g::ab h::ag j 42 15 []))
def FE (c:an) (a b:Nat) (j:aq):aq:=ag j 0 3 (ae c a b::ag j 3 57 [])
theorem SU:bf prog f36 [a_ a] R w=(b5 w (af a 2) λd b c=>cv prog (c0 f36 [1,1,0,1,0,0]) (wU (af a 0) none 0 0 d b c (b:Nat) 0 (undef::a5::bb 6 (jp (af a 0)::jp (af a 0)::jp (af a 2)::bb 45 []))) (aM 0 (aP f36 [1,1,1] R)) w):=by kernel_rfl
theorem QE (u:aq->aE):W prog (sb f36 [1,1,0,1,0,0]) (wU A s a b t c d i k j) (aU u (aM 0 (aP f36 [1,1,1] R))) w=(cond (k<i) (bm t c k 7 λC=>S5 w C λf z l m n o p q r e g=>aQ w #[ad false,ab 0,a5,a5,ab 0,ab 0,ab 0] 102 λh D=>a' D (af h 0) 0 [ad f,ab z,ae l m n,ae o p q,ab r,ab e,ab g] λB=>b5 B (af h 2) λv x y=>cv prog (c0 f36 [1,1,0,1,0,0,1,1,0,0,1,1,0,0]) (uk A s a b k t c d i k v x y (x:Nat) 0 (aF j 0::aF j 1::jp (af h 0)::ag j 4 7 (ad (k<i)::ab k::jp C::.agg #[ad f,ab z,ae l m n,ae o p q,ab r,ab e,ab g]::jp (af h 2)::ag j 19 37 []))) (aM 2 (aM 1 (aU (λE w=>W prog (sb f36 [1,1,0,1,0,0,1,1,1]) E (aU u (aM 0 (aP f36 [1,1,1] R))) w) (aU u (aM 0 (aP f36 [1,1,1] R)))))) B) (W prog (sb f36 [1,1,1]) (FC A s a b (ag j 0 11 (ae t c d::ab i::ab k::ad (k<i)::ag j 12 44 []))) (bZ f36 R) w)):=by kernel_rfl
theorem Rh:W prog (sb f36 [1,1,1]) (FC A s a b j) (bZ f36 R) w=(b5 w (bT A 3) λd f g=>cv prog (c0 f36 [1,1,1,0,1,0,0]) (wV s a b d f g (f:Nat) 0 (jp A::ag j 0 38 (jp A::jp A::bq A 3::ag j 44 15 []))) (aM 4 (aP f36 [1,1,1,1] R)) w):=by kernel_rfl
theorem QF (B:aq->aE) (C:aq->aE):W prog (sb f36 [1,1,0,1,0,0,1,1,0,0,1,1,0,0]) (uk A s a b i t c d k l u e f m n j) (aU C (aM 2 (aM 1 (aU (λa7 w=>W prog (sb f36 [1,1,0,1,0,0,1,1,1]) a7 (aU B (aM 0 (aP f36 [1,1,1] R))) w) (aU B (aM 0 (aP f36 [1,1,1] R))))))) w=(cond (n<m) (bm u e n 2 λD=>Gv w D λo p q r=>aQ w #[.pointer none,a5] 105 λz H=>a' H (af z 0) 0 [.pointer o,ae p q r] λF=>mD F (af z 0) λg=>cm 45 #[.pointer g] F λh G=>cond (h>0) (aQ G #[ab (-1),ab i,ab n] 89 λE K=>c9 85 (ae s a b) (ae (bn E) 1 1) K λy v x a6=>C (uk A y v x i t c d k l u e f m (i64.wrap (n+1)) (aF j 0::aF j 1::aF j 2::ab n::jp (af z 0)::ag j 5 10 (ad (n<m)::ab n::jp D::.agg #[.pointer o,ae p q r]::jp (af z 0)::.pointer g::ab h::ad (h>0)::ae s a b::ab i::ab n::.agg #[ab (-1),ab i,ab n]::ae (bn E) 1 1::ae y v x::ab (i64.wrap (n+1))::ag j 30 22 []))) a6) (C (uk A s a b i t c d k l u e f m (i64.wrap (n+1)) (aF j 0::aF j 1::aF j 2::ab n::jp (af z 0)::ag j 5 10 (ad (n<m)::ab n::jp D::.agg #[.pointer o,ae p q r]::jp (af z 0)::.pointer g::ab h::ad (h>0)::ag j 23 6 (ab (i64.wrap (n+1))::ag j 30 22 [])))) G)) (W prog (sb f36 [1,1,0,1,0,0,1,1,1]) (FD A s a b t c d k l (aF j 0::aF j 1::ab i::ag j 2 13 (ae u e f::ab m::ab n::ad (n<m)::ag j 16 36 []))) (aU B (aM 0 (aP f36 [1,1,1] R))) w)):=by kernel_rfl
theorem Ri (e:aq->aE):W prog (sb f36 [1,1,0,1,0,0,1,1,1]) (FD A s a b t c d i k j) (aU e (aM 0 (aP f36 [1,1,1] R))) w=(e (wU A s a b t c d i (i64.wrap (k+1)) (ag j 0 34 (ab (i64.wrap (k+1))::ag j 35 21 []))) w):=by kernel_rfl
theorem QG (o:aq->aE):W prog (sb f36 [1,1,1,0,1,0,0]) (wV s a b t c d i k j) (aU o (aM 4 (aP f36 [1,1,1,1] R))) w=(cond (k<i) (bm t c k 1 λh=>mD w h λx=>cm 67 #[.pointer x] w λe p=>cm 68 #[.pointer x] p λg q=>aQ q #[ab k,ab e,ab g] 89 λn u=>c9 85 (ae s a b) (ae (bn n) 1 1) u λf l m r=>o (wV f l m t c d i (i64.wrap (k+1)) (ag j 0 7 (ab k::.pointer x::ag j 9 33 [ad (k<i),ab k,jp h,.pointer x,ae s a b,ab k,.pointer x,ab e,.pointer x,ab g,.agg #[ab k,ab e,ab g],ae (bn n) 1 1,ae f l m,ab (i64.wrap (k+1)),aF j 56]))) r) (W prog (sb f36 [1,1,1,1]) (FE s a b (ag j 0 42 (ae t c d::ab i::ab k::ad (k<i)::ag j 43 14 []))) (bZ f36 R) w)):=by kernel_rfl
theorem Rj:W prog (sb f36 [1,1,1,1]) (FE s a b j) (bZ f36 R) w=(R (ae s a b) w):=by kernel_rfl
theorem TV (C:Nat) (a b c:Int) (w:ak) (R:cB):bf prog f37 [a_ C,.agg #[ab a,ab b,ab c]] R w=(aQ w #[ab a,ab b,ab c] 89 λb1 w1=>bS w1 (af b1 0) λd=>cond (d>=0) (bS w1 (af b1 0) λf=>de 69 #[a_ C,ab f] w1 λg WA=>R (ad g) WA) (bS w1 (af b1 0) λh=>cond (h<(-1)) (R (ad false) w1) (bS w1 (af b1 1) λi=>mB 44 #[a_ C,ab i] w1 λk WB=>ct WB λD A=>cond (Option.isNone k) (R (ad false) D) (cN A (af b1 2) λl=>cond (l<0) (R (ad false) D) (cN A (af b1 2) λm=>fk k λme=>e5 A (bT me 2) λn o p=>cond (m>=(o:Nat)) (R (ad false) D) (fk k λWq=>e5 A (bT Wq 2) λq r s=>cN A (af b1 2) λt=>bm q r t 2 λbx=>sH A bx λv=>cm 45 #[.pointer v] D λy E=>A E/\cond (y == 0) (R (ad false) E) (ct E λWC B=>fk k λbv=>e5 B (bT bv 2) λz aa WI=>cN B (af b1 2) λac=>bm z aa ac 2 λaJ=>ct WC λQ e=>sH e aJ λG=>e5 e (af C 1) λV4 V5 WJ=>cN e (af b1 2) λV6=>bm V4 V5 V6 1 λWr=>sH e Wr λx=>(Av 70 #[.pointer G,.pointer x] Q λV7 V8 c8 am V9 S=>e S/\aQ S #[ab 0,a5] 131 λaA T=>e T/\a' T (af aA 0) 0 [ab V7,ae V8 c8 am] λM=>cond V9 (ct M λkU j=>fk k λWf=>e5 j (bT Wf 3) λV_ ap WK=>e5 j (bT aJ 1) λV' Wa WL=>bm V' Wa 0 1 λWg=>cN j Wg λWD=>Aq j (af aA 0) λWb Wc Wd We=>bm V_ ap WD 2 λdq=>a' kU dq 0 [ab Wb,ae Wc Wd We] λI=>b5 I (bT aJ 1) λU F b0=>hP U F b0 1 (F:Nat) (b0:Nat) 1 λWF WH WG=>eE 71 #[ae WF WH WG] I λV W X Wh=>cI Wh (bT aJ 1) (ae V W X) λJ=>fk k λWs=>bS J (bT Ws 4) λY=>fk k λaX=>cI J (bT aX 4) (ab (i64.wrap (Y - 1))) λcc=>R (ad true) cc) (R (ad true) M))/\aQ Q #[ab 0,a5] 131 λH N=>e N/\Av 70 #[.pointer G,.pointer x] N λZ V2 V3 Wi dk ce=>e ce/\a' ce (af H 0) 0 [ab Z,ae V2 V3 Wi] λO=>cond dk (ct O λWt u=>fk k λWu=>e5 u (bT Wu 3) λff eB be=>e5 u (bT aJ 1) λWj Wk WM=>bm Wj Wk 0 1 λci=>cN u ci λWE=>Aq u (af H 0) λbi Wl qC Wm=>bm ff eB WE 2 λWv=>a' Wt Wv 0 [ab bi,ae Wl qC Wm] λdJ=>b5 dJ (bT aJ 1) λWn K L=>hP Wn K L 1 (K:Nat) (L:Nat) 1 λdm Ww Wx=>eE 71 #[ae dm Ww Wx] dJ λjB Wo Wp co=>cI co (bT aJ 1) (ae jB Wo Wp) λP=>fk k λWy=>bS P (bT Wy 4) λhj=>fk k λWz=>cI P (bT Wz 4) (ab (i64.wrap (hj - 1))) λcs=>R (ad true) cs) (R (ad true) O)))))))):=by kernel_rfl
theorem Tm:bf prog f38 [a_ a] R w=(b5 w (af a 1) λd b c=>R (ab (b:Nat)) w):=by kernel_rfl
theorem TW:bf prog f39 [a_ a,ab i] R w=(cond (i<0) (R (.pointer none) w) (b5 w (af a 1) λe b c=>cond (i>=(b:Nat)) (R (.pointer none) w) (b5 w (af a 1) λd f g=>bm d f i 1 λh=>mD w h λx=>R (.pointer x) w))):=by kernel_rfl
theorem Tn:bf prog f43 [a_ a,ab i] R w=(mB 44 #[a_ a,ab i] w λd e=>cond (!(Option.isNone d)) (fk d λc=>jo e c λb=>R (ad b) e) (R (ad false) e)):=by kernel_rfl
theorem FN:bf prog f44 [a_ a,ab i] R w=(cond (i<0) (R (.pointer none) w) (b5 w (af a 2) λe b c=>cond (i>=(b:Nat)) (R (.pointer none) w) (b5 w (af a 2) λd f g=>bm d f i 7 λh=>R (.pointer (some h)) w))):=by kernel_rfl
def xp (s2:Int) (s8:aS) (a b:Int) (j:aq):aq:=ag j 0 2 (ab s2::ag j 2 5 (.pointer (some s8)::ag j 7 30 (ab a::ab b::ag j 37 33 [])))
def GH (a:aS) (j:aq):aq:=ag j 0 8 (.pointer (some a)::ag j 8 65 [])
def xq (s8:aS) (a b:Int) (j:aq):aq:=ag j 0 8 (.pointer (some s8)::ag j 8 56 (ab a::ab b::ag j 64 7 []))
def GI (a:aS) (j:aq):aq:=ag j 0 8 (.pointer (some a)::ag j 8 65 [])
theorem HX:bf prog f46 [ab i,ab k,ab l] R w=(cond (i<1) (R (.tuple #[.pointer none,ab 1]) w) (cond (i>5) (R (.tuple #[.pointer none,ab 1]) w) (cond (k<1) (R (.tuple #[.pointer none,ab 1]) w) (cond (k>6) (R (.tuple #[.pointer none,ab 1]) w) (cond (l<1) (R (.tuple #[.pointer none,ab 2]) w) (cond (l>256) (R (.tuple #[.pointer none,ab 2]) w) (qR k k 88 (.cells (jt (Int.toNat k) [ad false,ab 0,a5,a5,ab 0,ab 0,ab 0]).toArray 102) w λa c=>aQ c #[ab l,a5,ae (bn a) (Int.toNat k) (Int.toNat k),a5] 110 λb d=>cv prog (c0 f46 [1,1,1,0,1,0,0]) (xp l (af b 0) i 0 (ab i::ab k::bb 3 (.pointer none::ab 0::bb 3 (ad (k>6)::ab i::ad (i<1)::ad false::ab i::ad (i>5)::ad (i>5)::ad false::ab k::ad (k<1)::ad (k<1)::ad false::ab k::ad (k>6)::ad (k>6)::ad (l>256)::ab l::ad (l<1)::ad false::ab l::ad (l>256)::ad (l>256)::ab l::ab k::ae (bn a) (Int.toNat k) (Int.toNat k)::.agg #[ab l,a5,ae (bn a) (Int.toNat k) (Int.toNat k),a5]::jp (af b 0)::bb 33 [])))) (aM 1 (aP f46 [1,1,1,1] R)) d))))))):=by kernel_rfl
theorem TX (n:aq->aE):W prog (sb f46 [1,1,1,0,1,0,0]) (xp i A k l j) (aU n (aM 1 (aP f46 [1,1,1,1] R))) w=(cond (l<k) (Ar 74 #[ab i] w λc d m=>cond (d != 0) (R (.tuple #[.pointer none,ab d]) m) (b5 m (bT A 1) λf g h=>aQ m #[.pointer c] 92 λo p=>c9 107 (ae f g h) (ae (bn o) 1 1) p λe a b r=>cI r (bT A 1) (ae e a b) λq=>n (xp i A k (i64.wrap (l+1)) (ag j 0 7 (.pointer c::ab d::ag j 9 28 (ad (l<k)::.tuple #[.pointer c,ab d]::ab i::.tuple #[.pointer c,ab d]::.pointer c::ab d::ab d::ad ((d:Int) != 0)::aF j 45::jp A::jp A::jp A::bq A 1::ae f g h::.pointer c::ae (bn o) 1 1::ae e a b::jp A::bq A 1::ab (i64.wrap (l+1))::ag j 57 13 [])))) q)) (W prog (sb f46 [1,1,1,1]) (GH A (aF j 0::aF j 1::ab i::ag j 2 35 (ab k::ab l::ad (l<k)::ag j 38 32 []))) (bZ f46 R) w)):=by kernel_rfl
theorem UN:W prog (sb f46 [1,1,1,1]) (GH A j) (bZ f46 R) w=(b5 w (bT A 2) λb c d=>cv prog (c0 f46 [1,1,1,1,0,1,0,0]) (xq A (c:Nat) 0 (ag j 0 60 (jp A::jp A::bq A 2::ae b c d::ag j 66 7 []))) (aM 3 (aP f46 [1,1,1,1,1] R)) w):=by kernel_rfl
theorem TY (a:aq->aE):W prog (sb f46 [1,1,1,1,0,1,0,0]) (xq A i k j) (aU a (aM 3 (aP f46 [1,1,1,1,1] R))) w=(cond (k<i) (uO 53 #[.pointer (some A),ab k,ab 1] w λb=>a (xq A i (i64.wrap (k+1)) (ag j 0 10 (ab k::ag j 11 53 [ad (k<i),ab k,jp A,ab k,.tuple #[],ab (i64.wrap (k+1)),aF j 70]))) b) (W prog (sb f46 [1,1,1,1,1]) (GI A (ag j 0 64 (ab i::ab k::ad (k<i)::ag j 65 6 []))) (bZ f46 R) w)):=by kernel_rfl
theorem UO:W prog (sb f46 [1,1,1,1,1]) (GI A j) (bZ f46 R) w=(R (.tuple #[.pointer (some A),ab 0]) w):=by kernel_rfl
def um (s1 s2:Int) (c:aS) (a b:Int) (j:aq):aq:=ag j 0 1 (ab s1::ab s2::ag j 1 3 (.pointer (some c)::ag j 4 23 (ab a::ab b::ag j 27 21 [])))
theorem SV:bf prog f53 [a_ a,ab i,ab k] R w=(b5 w (af a 2) λe b c=>bm e b i 7 λh=>cI w h (ad true) λl=>cI l (bT h 1) (ab k) λm=>cI m (bT h 2) (a5) λj=>b5 j (af a 1) λd f g=>cv prog (c0 f53 [1,1,1,0,0]) (um i k h (f:Nat) 0 (jp (af a 0)::bb 6 (jp (af a 0)::jp (af a 0)::jp (af a 2)::ae e b c::ab i::jp h::jp h::jp h::jp h::ab k::jp h::jp h::jp h::bq h 1::jp h::bq h 2::jp (af a 0)::jp (af a 0)::jp (af a 1)::ae d f g::bb 21 []))) (aM 0 (bZ f53 R)) j):=by kernel_rfl
theorem QH (n:aq->aE):W prog (sb f53 [1,1,1,0,0]) (um i k A l m j) (aU n (aM 0 (bZ f53 R))) w=(cond (m<l) (Ar 80 #[ab i,ab k,ab m] w λc d o=>b5 o (bT A 2) λf g h=>aQ o #[.pointer c,a5] 105 λp q=>c9 99 (ae f g h) (ae (bn p) 1 1) q λb a e s=>cI s (bT A 2) (ae b a e) λr=>n (um i k A l (i64.wrap (m+1)) (ag j 0 4 (ab m::.pointer c::ab d::ag j 7 20 [ad (m<l),ab m,.tuple #[.pointer c,ab d],ab i,ab k,ab m,.tuple #[.pointer c,ab d],.pointer c,ab d,jp A,jp A,jp A,bq A 2,ae f g h,.pointer c,.agg #[.pointer c,a5],ae (bn p) 1 1,ae b a e,jp A,bq A 2,ab (i64.wrap (m+1))]))) r) (R (.tuple #[]) w)):=by kernel_rfl
theorem RH:bf prog f62 [a_ a,ab i] R w=(cond (i<0) (R (ad false) w) (b5 w (af a 3) λe b c=>cond (i>=(b:Nat)) (R (ad false) w) (b5 w (af a 3) λd f g=>eE 89 #[ae d f g,ab i,ab (i64.wrap (i+1))] w λh j k l=>cI l (af a 3) (ae h j k) λm=>R (ad true) m))):=by kernel_rfl
theorem SW:bf prog f63 [a_ a,ab i] R w=(mB 44 #[a_ a,ab i] w λe d=>cond (!(Option.isNone e)) (fk e λc=>bS d (bT c 4) λb=>R (ab b) d) (R (ab 0) d)):=by kernel_rfl
theorem TZ:bf prog f64 [a_ a,ab i] R w=(mB 44 #[a_ a,ab i] w λj q=>cond (Option.isNone j) (R (.tuple #[a5,ad false]) q) (fk j λl=>jo q l λb=>cond (!b) (R (.tuple #[a5,ad false]) q) (fk j λm=>b5 q (bT m 3) λc d f=>cond (Option.isNone c) (R (.tuple #[a5,ad false]) q) (fk j λn=>bS q (bT n 4) λg=>cond (g>0) (R (.tuple #[a5,ad false]) q) (fk j λo=>b5 q (bT o 3) λh e k=>fk j λp=>cI q (bT p 3) (a5) λr=>R (.tuple #[ae h e k,ad true]) r))))):=by kernel_rfl
def w2 (e:aS) (s2:an) (a b:Nat) (i c:an) (d f:Nat) (g h:Int) (j:aq):aq:=.pointer (some e)::ag j 0 1 (ae s2 a b::ag j 1 4 (.pointer i::ag j 5 33 (ae c d f::ab g::ab h::ag j 38 80 [])))
def FO (a:aS) (s2:an) (b c:Nat) (d:an) (j:aq):aq:=.pointer (some a)::ag j 0 1 (ae s2 b c::ag j 1 4 (.pointer d::ag j 5 116 []))
def uo (e:aS) (s2:an) (a b:Nat) (i c:an) (d f:Nat) (g h:Int) (j:aq):aq:=.pointer (some e)::ag j 0 1 (ae s2 a b::ag j 1 4 (.pointer i::ag j 5 54 (ae c d f::ab g::ab h::ag j 59 59 [])))
def Aa (s2:an) (a b:Nat) (c:an) (j:aq):aq:=ag j 0 2 (ae s2 a b::ag j 2 4 (.pointer c::ag j 6 116 []))
theorem T0:bf prog f66 [a_ a,ab i,ae s b c] R w=(mB 44 #[a_ a,ab i] w λj l=>cond (Option.isNone j) (R (ab 1) l) (fk j λe=>jo l e λd=>cond (!d) (R (ab 1) l) (fk j λk=>b5 l (bT k 3) λf g h=>cond (!(Option.isNone f)) (R (ab 3) l) (cond ((b:Int) == 0) (R (ab 1) l) (cond ((b:Int)>1024) (R (ab 18) l) (cv prog (c0 f66 [1,1,1,0,1,0,0]) (w2 (af a 0) s b c j s b c (b:Nat) 0 (ab i::bb 3 (ab 0::bb 6 (jp (af a 0)::ab i::.pointer j::ad (!d)::.pointer j::ad (Option.isNone j)::ad false::.pointer j::jp e::jp e::ad d::ad (!d)::ad (!d)::ad (!(Option.isNone f))::.pointer j::jp k::bq k 3::ae f g h::ad (!(Option.isNone f))::ad ((b:Int) == 0)::ae s b c::cX b::ad ((b:Int) == 0)::ad ((b:Int)>1024)::ae s b c::cX b::ad ((b:Int)>1024)::bb 80 [])))) (aM 1 (aP f66 [1,1,1,1] R)) l)))))):=by kernel_rfl
theorem Rk (N:aq->aE):W prog (sb f66 [1,1,1,0,1,0,0]) (w2 A s a b t u c d i k j) (aU N (aM 1 (aP f66 [1,1,1,1] R))) w=(cond (k<i) (bm u c k 9 λM=>jr w M λe h H a7 l m n o p q r=>aQ w #[ab 0,ab 0,ab 0,ab 0,ah 0,ah 0,a5,ah 0,ab 0] 158 λF S=>a' S (af F 0) 0 [ab e,ab h,ab H,ab a7,ah l,ah m,ae n o p,ah q,ab r] λV=>ct V λI D=>mC D (af F 0) λf g v x y z P O K a6 Q=>e5 D (bT A 1) λC E T=>cN D A λL=>cm 94 #[.agg #[ab f,ab g,ab v,ab x,ah y,ah z,ae P O K,ah a6,ab Q],ab (E:Nat),ab L] I λB G=>D G/\cond (B != 0) (R (ab B) G) (N (w2 A s a b t u c d i (i64.wrap (k+1)) (ag j 0 6 (jp (af F 0)::ab B::ag j 8 30 (ad (k<i)::jp M::.agg #[ab e,ab h,ab H,ab a7,ah l,ah m,ae n o p,ah q,ab r]::.agg #[ab f,ab g,ab v,ab x,ah y,ah z,ae P O K,ah a6,ab Q]::jp A::jp A::bq A 1::ae C E T::cX E::jp A::jp A::jp A::ab L::ab B::ab B::ad ((B:Int) != 0)::aF j 54::ab (i64.wrap (k+1))::ag j 56 62 [])))) G)) (W prog (sb f66 [1,1,1,1]) (FO A s a b t (ag j 0 38 (ae u c d::ab i::ab k::ad (k<i)::ag j 39 79 []))) (bZ f66 R) w)):=by kernel_rfl
theorem RV:W prog (sb f66 [1,1,1,1]) (FO A s a b t j) (bZ f66 R) w=(cv prog (c0 f66 [1,1,1,1,0,1,0,0]) (uo A s a b t s a b (a:Nat) 0 (ag j 0 59 (ag j 62 59 []))) (aM 3 (aP f66 [1,1,1,1,1] R)) w):=by kernel_rfl
theorem Q7 (V3:aq->aE):W prog (sb f66 [1,1,1,1,0,1,0,0]) (uo A s a b t u c d i k j) (aU V3 (aM 3 (aP f66 [1,1,1,1,1] R))) w=(cond (k<i) (bm u c k 9 λT=>jr w T λe B a6 K l m n o p q r=>aQ w #[ab 0,ab 0,ab 0,ab 0,ah 0,ah 0,a5,ah 0,ab 0] 158 λD V8=>a' V8 (af D 0) 0 [ab e,ab B,ab a6,ab K,ah l,ah m,ae n o p,ah q,ab r] λJ=>ct J λV' C=>fk t λG=>e5 C (bT G 2) λf g v=>cN C (af D 1) λx=>bm f g x 2 λh=>ct V' λV9 H=>sH H h λy=>mC H (af D 0) λz V4 Y M L V5 E N Q O a7=>cN H A λV6=>cm 95 #[.pointer y,.agg #[ab z,ab V4,ab Y,ab M,ah L,ah V5,ae E N Q,ah O,ab a7],ab V6] V9 λV_ P=>b5 P (bT h 1) λV2 Z X=>aQ P #[ab k] 3 λV U=>c9 22 (ae V2 Z X) (ae (bn V) 1 1) U λF S V7 I=>cI I (bT h 1) (ae F S V7) λhR=>V3 (uo A s a b t u c d i (i64.wrap (k+1)) (ag j 0 8 (ab k::jp (af D 0)::jp h::ag j 11 48 (ad (k<i)::ab k::jp T::.agg #[ab e,ab B,ab a6,ab K,ah l,ah m,ae n o p,ah q,ab r]::.pointer t::jp G::bq G 2::ae f g v::jp (af D 1)::ab x::jp h::jp h::jp h::jp h::.pointer y::.agg #[ab z,ab V4,ab Y,ab M,ah L,ah V5,ae E N Q,ah O,ab a7]::jp A::jp A::jp A::ab V6::ab V_::jp h::jp h::jp h::bq h 1::ae V2 Z X::ab k::ae (bn V) 1 1::ae F S V7::jp h::bq h 1::ab (i64.wrap (k+1))::ag j 91 27 [])))) hR) (W prog (sb f66 [1,1,1,1,1]) (Aa s a b t (jp A::ag j 0 59 (ae u c d::ab i::ab k::ad (k<i)::ag j 60 58 []))) (bZ f66 R) w)):=by kernel_rfl
theorem RW:W prog (sb f66 [1,1,1,1,1]) (Aa s a b t j) (bZ f66 R) w=(qR (a:Nat) (a:Nat) 32 (.cells (jt (Int.toNat (a:Nat)) [ab 0,a5]).toArray 131) w λq o=>fk t λf=>cI o (bT f 3) (ae (bn q) (Int.toNat (a:Nat)) (Int.toNat (a:Nat))) λp=>fk t λg=>cI p (bT g 4) (ab (a:Nat)) λm=>fk t λh=>bS m (bT h 5) λc=>fk t λi=>cI m (bT i 5) (ab (i64.wrap (c+1))) λe=>fk t λk=>bS e (bT k 6) λd=>fk t λl=>cI e (bT l 6) (ab (i64.wrap (d+(a:Nat)))) λn=>R (ab 0) n):=by kernel_rfl
theorem RI:bf prog f69 [a_ a,ab i] R w=(b5 w (af a 3) λj b c=>cond (i>=(b:Nat)) (R (ad false) w) (b5 w (af a 3) λd f g=>bm d f i 1 λC=>mD w C λx=>ct w λz u=>e5 u (af a 1) λh e k=>cm 68 #[.pointer x] z λl v=>u v/\bm h e l 1 λt=>sH u t λA=>Av 70 #[.pointer x,.pointer A] v λm n o p q D=>cm 45 #[.pointer x] D λr y=>cond (r == 0) (de 62 #[a_ a,ab i] y λs B=>R (ad true) B) (R (ad true) y))):=by kernel_rfl
end
section
def tp (w w':ak) (e sz:Nat) (a b:an) (n cap:Nat) (xs:ax):Prop:=
 ai w w'/\a0 w' e sz b n cap xs/\(∀ k,aL b k->w.heap.size<=k)/\(b=none↔a=none)
theorem xS {z:a2} (D:prog.underlying t=some (.slice e)) (x:prog.info? e=some i) (au:i.zero=some z) (q:z.cells.size=i.size) (p:0<i.size)
  {a:aS} (A:xs.length=n * i.size) (C:bh w (some a) xs) (r:∀ u ∈ xs,single u=true) (s:n<=140737488355328) (j:n * i.bytes<=140737488355328) :
  ∃ h b w',(Builtin.append_ #[t,t] ty #[.slice (some ⟨w.heap.size,0,none⟩) 0 0,.slice (some a) n c]).run prog (w.alloc (.cells #[] e))=.ok (.slice h n b) w'/\tp w w' e i.size (some a) h n b xs:=by
 have l:a0 (w.alloc (.cells #[] e)) e i.size (some ⟨w.heap.size,0,none⟩) 0 0 []:=by refine ⟨by simp,.inr ⟨w.heap.size,[],rfl,?_,by omega,by simp [maxLen],by simp,by simp⟩⟩;exact px w [] e
 obtain ⟨h,b,w',f,d,y,g⟩:=l.append (P:=prog) (ty:=ty) D x au q p A (C.new (hk _ _)) r (c:=c) (by omega) (by simpa using j);simp only [g6,mX] at f d;refine ⟨h,b,w',f,?_,d,?_,?_⟩
 ·refine (hk w _).trans y ?_;rintro k B ⟨o,l⟩;simp at l <;> omega
 ·rintro k ⟨o,rfl⟩;rcases g with g | g
  ·simp at g <;> omega
  ·simp at g <;> omega
 ·rcases g with rfl | rfl<;>simp
theorem AG (h:xs.length=n) (s:bh w a xs) (p:∀ u ∈ xs,single u=true) (x:n<=1000000000) (l:a=none->n=0) :
  a9 73 [.slice a n c] w λv w'=>∃ e cap,v=.slice e n cap/\tp w w' 30 1 a e n cap xs:=by
 refine bc Tryz.func73 ?_;rw [Q9];obtain ⟨i,q,au,d,g⟩:=fO (T:=30) (z:=.int .u64 0) (n:=1) (m:=8) (by kernel_rfl);cases a with
 |none=>
  refine ek rfl ⟨none,0,by rw [l rfl],ao.refl _ _,?_,?_,by simp⟩
  ·rw [l rfl] at h ⊢;rw [fI h];exact a0.nil _ _ _
  ·rintro k ⟨o,r⟩;cases r
 |some a=>refine cV rfl ?_;rintro b1 w1 rfl rfl;obtain ⟨e,b,w',f,j⟩:=xS (t:=94) (ty:=94) (z:=.int .u64 0) (n:=n) (c:=c) (w:=w) (a:=a) (xs:=xs) Tryz.underlying94 q au (by rw [d];rfl) (by omega) (by rw [h,d];omega) s p (by omega) (by rw [g];omega);exact ⟨e,n,b,w',f,e,b,rfl,by rw [d] at j;exact j⟩
structure aZ where
 words:bd
 down:Bool
structure dZ (w:ak) (b aJ:Nat) (n:aZ):Prop where
 node:av w b [.slice (some ⟨aJ,0,none⟩) n.words.length n.words.length,.bool n.down] 137
 words:av w aJ (us n.words) 30
 len:n.words.length<=2048
 uB:8<=n.words.length
 wf:∀ x ∈ n.words,0<=x/\x<18446744073709551616
theorem dZ.ne {w:ak} {b aJ:Nat} {n:aZ} (h:dZ w b aJ n):b≠aJ:=h.node.ne h.words (by decide)
theorem dZ.az {M:a3} {n:aZ} (h:dZ w b aJ n) (a:ao M w w') (c:¬ M b) (d:¬ M aJ):dZ w' b aJ n:=
 ⟨a.aj h.node c,a.aj h.words d,h.len,h.uB,h.wf⟩
theorem dZ.new {n:aZ} (h:dZ w b aJ n) (a:ai w w'):dZ w' b aJ n:=h.az a id id
def aZ.get (n:aZ) (i:Nat):Int:=n.words.getD i 0
theorem aZ.get_some {n:aZ} {i:Nat} (h:i<n.words.length):n.words[i]?=some (n.get i):=by simp [aZ.get,h]
theorem dZ.AM {n:aZ} (h:dZ w b aJ n) (i:Nat):0<=n.get i/\n.get i<18446744073709551616:=by
 by_cases a:i<n.words.length
 ·exact h.wf _ (b7 (aZ.get_some a))
 ·simp [aZ.get,a]
theorem dZ.cell {w:ak} {b aJ:Nat} {n:aZ} (h:dZ w b aJ n) {i:Nat} (a:i<n.words.length):w.cell? ⟨aJ,i,none⟩=some (.int .u64 (n.get i)):=
 h.words.cell (tu (aZ.get_some a))
theorem E5 {n:aZ} (h:dZ w b aJ n):a9 101 [.pointer (some ⟨b,0,none⟩)] w λv w'=>v=.bool (!n.down)/\w'=w:=by refine bc Tryz.func101 ?_;rw [UI];exact ⟨n.down,h.node.cell rfl,rfl,rfl⟩
theorem xV {n:aZ} (h:dZ w b aJ n):a9 82 [.pointer (some ⟨b,0,none⟩)] w λv w'=>v=.int .i64 (n.words.length / 8:Nat)/\w'=w:=by refine bc Tryz.func82 ?_;rw [TQ];have:=h.len;refine ⟨_,_,_,h.node.cell rfl,?_,rfl⟩;rw [yp (by omega),bC (by omega) (by omega)];rfl
theorem NC (l:bd) (i:Nat) (x:Int):(us l).set i (.int .u64 x)=us (l.set i x):=by simp [us]
theorem dZ.GQ {n:aZ} (h:dZ w b aJ n) (i:Nat) {x:Int} (c:0<=x) (d:x<18446744073709551616):dZ (w.setCell ⟨aJ,i,none⟩ (.int .u64 x)) b aJ { n with words:=n.words.set i x }:=by
 refine ⟨?_,?_,by simpa using h.len,by simpa using h.uB,?_⟩
 ·have:=h.node.GL (i:=i) h.ne (.int .u64 x);simpa using this
 ·have:=h.words.setCell (i:=i) (.int .u64 x);rw [NC] at this;exact this
 ·intro y a;rcases n0 a with a | rfl
  ·exact h.wf y a
  ·exact ⟨c,d⟩
def aZ.back (n:aZ):aZ×Bool:=if n.down=true/\n.get 1<31 then (⟨n.words.set 1 (n.get 1+1),false⟩,true) else (n,false)
def aZ.e_ (n:aZ) (at_ count:Int):Int:=
 if count<1\/at_<0\/(n.words.length:Int)<=at_\/(n.words.length:Int) - at_<count then 2 else if n.down=true then 4 else 0
theorem aZ.r9 {n:aZ} (h:n.e_ at_ count=0):1<=count/\0<=at_/\at_+count<=n.words.length/\n.down=false:=by
 unfold aZ.e_ at h;split at h
 ·omega
 ·rename_i a;split at h
  ·omega
  ·rename_i ar;exact ⟨by omega,by omega,by omega,by simpa using ar⟩
theorem vD {n:aZ} (h:dZ w b aJ n) (at_ count:Int):a9 72 [.pointer (some ⟨b,0,none⟩),.int .i64 at_,.int .i64 count] w λv w'=>v=.int .i64 (n.e_ at_ count)/\w'=w:=by
 refine bc Tryz.func72 ?_;rw [TN];have g:=h.len;refine a8 (λd=>⟨?_,rfl⟩) (λd=>a8 (λe=>⟨?_,rfl⟩) (λe=>⟨_,_,_,h.node.cell rfl,a8 (λf=>⟨?_,rfl⟩) (λf=>⟨_,_,_,h.node.cell rfl,a8 (λa=>⟨?_,rfl⟩) (λa=>⟨_,h.node.cell rfl,fX (λc=>⟨?_,rfl⟩) (λc=>⟨?_,rfl⟩)⟩)⟩)⟩))
 ·rw [aZ.e_,if_pos (.inl d)]
 ·rw [aZ.e_,if_pos (.inr (.inl e))]
 ·rw [aZ.e_,if_pos (.inr (.inr (.inl f)))]
 ·rw [bC (by omega) (by omega)] at a;rw [aZ.e_,if_pos (.inr (.inr (.inr (by omega))))]
 ·rw [bC (by omega) (by omega)] at a;rw [aZ.e_,if_neg (by omega),if_pos c]
 ·rw [bC (by omega) (by omega)] at a;rw [aZ.e_,if_neg (by omega),if_neg (by simp [c])]
def aZ.read (n:aZ) (at_ count:Int):bd:=(n.words.drop at_.toNat).take count.toNat
theorem yR (l:bd) (k:Nat):(us l).take k=us (l.take k):=by simp [us]
theorem yS (l:bd) (k:Nat):(us l).drop k=us (l.drop k):=by simp [us]
theorem AV (l m:bd):us l++us m=us (l++m):=by simp [us]
def Ll (n:aZ) (at_ count:Int) (w:ak) (v:a2) (w':ak):Prop:=
 (n.e_ at_ count≠0/\v=.tuple #[.slice none 0 0,.int .i64 (n.e_ at_ count)]/\w'=w)\/
 (n.e_ at_ count=0/\∃ a cap,v=.tuple #[.slice (some a) count.toNat cap,.int .i64 0]/\ai w w'/\a0 w' 30 1 (some a) count.toNat cap (us (n.read at_ count))/\w.heap.size<=a.block)
theorem aZ.xL {n:aZ} (h:n.e_ at_ count=0):(n.read at_ count).length=count.toNat:=by obtain ⟨a,b,c,_⟩:=aZ.r9 h;simp [aZ.read];omega
theorem vN {n:aZ} (h:dZ w b aJ n) (at_ count:Int):a9 40 [.pointer (some ⟨b,0,none⟩),.int .i64 at_,.int .i64 count] w (Ll n at_ count w):=by
 refine bc Tryz.func40 ?_;rw [Ud];refine aC (vD h at_ count) ?_;rintro v w1 ⟨rfl,rfl⟩;refine ⟨_,rfl,dw (λc=>?_) (λc=>?_)⟩
 ·exact .inl ⟨c,rfl,rfl⟩
 ·obtain ⟨s,k,l,_⟩:=aZ.r9 c;have t:=h.len;refine ⟨_,_,_,h.node.cell rfl,?_⟩;rw [bC (by omega) (by omega)];refine kA k (by omega) l (by omega) (by omega) ?_;intro a o;rcases o with rfl | ⟨d,_⟩
  ·have i:bh w1 (some ⟨aJ,0+at_.toNat * 1,none⟩) (us (n.read at_ count)):=by refine fm h.words ?_;rw [hE,aZ.xL c,yS,yR,aZ.read];simp
   have e:(at_+count).toNat - at_.toNat=count.toNat:=by omega
   rw [e];refine aC (AG (by rw [hE,aZ.xL c]) i (pz _) (by omega) (by simp)) ?_;rintro v u ⟨f,cap,rfl,r,j,p,q⟩;refine ⟨_,_,_,rfl,.inr ⟨c,?_⟩⟩;cases f with
   |none=>simp at q
   |some f=>
    refine ⟨f,cap,rfl,r,j,?_⟩;rcases j.2 with ⟨d,_⟩ | ⟨g,cur,d,_⟩
    ·cases d
    ·exact p _ ⟨f.off,by simp at d;rw [d]⟩
  ·omega
theorem Lm {P:Program} (l:P.underlying t=some (.slice e)) (h:P.info? e=some i) (g:i.size=1) {o dl dc:Nat} {s:an} {m:Nat} {news:ax} (k:news.length=m)
  (hm:m<=dl) (r:bh w s news) (q:s=none->m=0) (hw:ec w ⟨b,o,none⟩ 0 news):(Builtin.copy_ #[t,t] ty #[.slice (some ⟨b,o,none⟩) dl dc,.slice s m c]).run P w=.ok (.int .i64 m) (cr w ⟨b,o,none⟩ 0 news):=by
 have a:Nat.min m dl=m:=Nat.min_eq_left hm;have f:=sM (P:=P) hw;cases s with
 |none=>have:=q rfl;subst this;have:news=[]:=fI k;subst this;simp [Builtin.copy_,run_underlying l,Builtin.lenOf,a,sizeOf,typeInfo,h,Builtin.firstCells,goInt,storeCells,cr]
 |some s=>
  have d:(loadCells s m).run P w=.ok news.toArray w:=by
   have:b6 w s 0 news:=by
    rcases r with rfl | ⟨sb,so,he,n⟩
    ·trivial
    ·simp at he;subst he;exact kX λj v p=>by simpa using n j v p
   have:=bu.run_loadCellsFrom (P:=P) (acc:=#[]) this;rw [k] at this;simpa [loadCells] using this
  simp [Builtin.copy_,run_underlying l,Builtin.lenOf,a,sizeOf,typeInfo,h,Builtin.firstCells,goInt,g,d,f]
def aZ.write (n:aZ) (at_:Nat) (ws:bd):aZ:={ n with words:=n.words.take at_++ws++n.words.drop (at_+ws.length) }
theorem dZ.write {w:ak} {b aJ:Nat} {n:aZ} (h:dZ w b aJ n) {o:Nat} {ws:bd} (c:o+ws.length<=n.words.length) (hw:∀ x ∈ ws,0<=x/\x<18446744073709551616):dZ (cr w ⟨aJ,o,none⟩ 0 (us ws)) b aJ (n.write o ws):=by
 have hlen:(n.write o ws).words.length=n.words.length:=by simp [aZ.write];omega
 refine ⟨?_,?_,by rw [hlen];exact h.len,by rw [hlen];exact h.uB,?_⟩
 ·rw [hlen];exact (h0 _ _ _ _ _).aj h.node h.ne
 ·have:=h.words.cr (o:=o) (i:=0) (vs:=us ws);rw [py (by rw [hE,hE];omega),l0,hE,yR,yS,AV,AV] at this;exact this
 ·intro x a;simp only [aZ.write,jT] at a;rcases a with (a | a) | a
  ·exact h.wf x (tn a)
  ·exact hw x a
  ·exact h.wf x (oX a)
theorem Dn {n:aZ} (h:dZ w b aJ n) (at_:Int) {ws:bd} (r:bh w a (us ws)) (hw:∀ x ∈ ws,0<=x/\x<18446744073709551616) (q:a=none->ws.length=0) :
  a9 109 [.pointer (some ⟨b,0,none⟩),.int .i64 at_,.slice a ws.length c] w λv w'=>v=.int .i64 (n.e_ at_ ws.length)/\
   dZ w' b aJ (if n.e_ at_ ws.length=0 then n.write at_.toNat ws else n)/\ao (λk=>k=aJ) w w':=by
 refine bc Tryz.func109 ?_;rw [TR];refine aC (vD h at_ _) ?_;rintro v w1 ⟨rfl,rfl⟩;refine ⟨_,rfl,dw (λd=>?_) (λd=>?_)⟩
 ·rw [if_neg d];exact ⟨rfl,h,ao.refl _ _⟩
 ·obtain ⟨u,g,y,_⟩:=aZ.r9 d;have A:=h.len;rw [if_pos d,d];refine ⟨_,_,_,h.node.cell rfl,kA g (by omega) (by omega) (by omega) (by omega) ?_⟩;intro s j;rcases j with rfl | ⟨B,_⟩
  ·obtain ⟨i,p,au,f,l⟩:=fO (T:=30) (z:=.int .u64 0) (n:=1) (m:=8) (by kernel_rfl);have e:=Lm (P:=prog) (w:=w1) (t:=94) (ty:=3) (b:=aJ) (o:=0+at_.toNat * 1) (dl:=(n.words.length:Int).toNat - at_.toNat) (dc:=(n.words.length:Int).toNat - at_.toNat) (c:=c) Tryz.underlying94 p f (hE ws) (by omega) r q
    (gg h.words (by rw [hE,hE];omega) (pz ws))
   refine ⟨_,_,e,rfl,?_,h0 _ _ _ _ _⟩;have:=h.write (o:=at_.toNat) (ws:=ws) (by omega) hw;simpa using this
  ·omega
def aZ.gm (n:aZ) (at_ old new:Int):aZ:=if n.get at_.toNat=old then { n with words:=n.words.set at_.toNat new } else n
theorem PB {n:aZ} (h:dZ w b aJ n) (at_ old new:Int) (d:0<=new) (e:new<18446744073709551616) :
  a9 139 [.pointer (some ⟨b,0,none⟩),.int .i64 at_,.int .u64 old,.int .u64 new] w λv w'=>
   v=.tuple #[.int .u64 (if n.e_ at_ 1=0 then n.get at_.toNat else 0),.int .i64 (n.e_ at_ 1)]/\dZ w' b aJ (if n.e_ at_ 1=0 then n.gm at_ old new else n)/\ao (λk=>k=aJ) w w':=by
 refine bc Tryz.func139 ?_;rw [Ut];refine aC (vD h at_ _) ?_;rintro v w1 ⟨rfl,rfl⟩;refine ⟨_,rfl,dw (λa=>?_) (λa=>?_)⟩
 ·rw [if_neg a,if_neg a];exact ⟨rfl,h,ao.refl _ _⟩
 ·obtain ⟨b1,aA,f,_⟩:=aZ.r9 a;rw [if_pos a,if_pos a,a];have c:0+at_.toNat * 1=at_.toNat:=by omega
  refine ⟨_,_,_,h.node.cell rfl,ee aA (by omega) ?_⟩;rw [c];refine ⟨_,h.cell (by omega),dY (λhe=>?_) (λhe=>?_)⟩
  ·refine ⟨_,_,_,h.node.cell rfl,ee aA (by omega) ?_⟩;rw [c];refine ⟨⟨_,h.cell (by omega)⟩,h.words.frozen,?_⟩;rintro g rfl;refine ⟨rfl,?_,eY _ _ _ _⟩;rw [aZ.gm,if_pos he];exact h.GQ _ d e
  ·rw [aZ.gm,if_neg he];exact ⟨rfl,h,ao.refl _ _⟩
def aZ.add (n:aZ) (at_ a:Int):aZ:={ n with words:=n.words.set at_.toNat (IntKind.u64.wrap (n.get at_.toNat+a)) }
theorem Hp (x:Int):0<=IntKind.u64.wrap x/\IntKind.u64.wrap x<18446744073709551616:=by simp only [IntKind.wrap,IntKind.bits,IntKind.signed];simp;omega
theorem PC {n:aZ} (h:dZ w b aJ n) (at_ c:Int) :
  a9 140 [.pointer (some ⟨b,0,none⟩),.int .i64 at_,.int .u64 c] w λv w'=>
   v=.tuple #[.int .u64 (if n.e_ at_ 1=0 then n.get at_.toNat else 0),.int .i64 (n.e_ at_ 1)]/\dZ w' b aJ (if n.e_ at_ 1=0 then n.add at_ c else n)/\ao (λk=>k=aJ) w w':=by
 refine bc Tryz.func140 ?_;rw [Uu];refine aC (vD h at_ _) ?_;rintro v w1 ⟨rfl,rfl⟩;refine ⟨_,rfl,dw (λa=>?_) (λa=>?_)⟩
 ·rw [if_neg a,if_neg a];exact ⟨rfl,h,ao.refl _ _⟩
 ·obtain ⟨b1,aA,e,_⟩:=aZ.r9 a;rw [if_pos a,if_pos a,a];have d:0+at_.toNat * 1=at_.toNat:=by omega
  refine ⟨_,_,_,h.node.cell rfl,ee aA (by omega) ?_⟩;rw [d];refine ⟨_,h.cell (by omega),_,_,_,h.node.cell rfl,ee aA (by omega) ?_⟩;rw [d];refine ⟨_,h.cell (by omega),ee aA (by omega) ?_⟩;rw [d];refine ⟨⟨_,h.cell (by omega)⟩,h.words.frozen,?_⟩;rintro f rfl;exact ⟨rfl,h.GQ _ (Hp _).1 (Hp _).2,eY _ _ _ _⟩
theorem CP (n:Nat) (v:a2):jt n [v]=List.replicate n v:=by
 induction n with
 |zero=>rfl
 |succ n a=>simp [jt,rj] at *
theorem Ln {lines:Int} (d:1<=lines) (f:lines<=256):a9 74 [.int .i64 lines] w λv w'=>
  v=.tuple #[.pointer (some ⟨w.heap.size+1,0,none⟩),.int .i64 0]/\dZ w' (w.heap.size+1) w.heap.size ⟨List.replicate (8 * lines.toNat) 0,false⟩/\ai w w'/\w'.heap.size=w.heap.size+2:=by
 refine bc Tryz.func74 ?_;rw [VH];refine a8 (λh=>by omega) (λ_=>a8 (λh=>by omega) (λ_=>?_))
 have e:IntKind.i64.wrap (lines * 8)=lines * 8:=bC (by omega) (by omega);rw [e];refine ⟨by omega,by omega,by omega,by omega,?_⟩;rintro b1 w1 rfl rfl aA g rfl rfl;have b:(lines * 8).toNat=8 * lines.toNat:=by omega
 rw [b,CP];have a:(w.alloc (.cells (List.replicate (8 * lines.toNat) (Value.int .u64 0)).toArray 30)).heap.size=w.heap.size+1:=by simp
 refine ⟨by rw [a],?_,(hk _ _).alloc _,by simp⟩;refine ⟨?_,?_,by simp;omega,by simp;omega,?_⟩
 ·have:=px (w.alloc (.cells (List.replicate (8 * lines.toNat) (Value.int .u64 0)).toArray 30)) [.slice (some ⟨w.heap.size,0,none⟩) (8 * lines.toNat) (8 * lines.toNat),.bool false] 137;rw [a] at this;simpa using this
 ·have:=(px w (List.replicate (8 * lines.toNat) (Value.int .u64 0)) 30).alloc (.cells #[.slice (some ⟨w.heap.size,0,none⟩) (8 * lines.toNat) (8 * lines.toNat),.bool false] 137);simpa [us] using this
 ·intro x c;simp only [Bl] at c;omega
end
end Go.Proofs.YtmkljjbioomepaaGreat
