import Derived.Test.YtmkljjbioomepaaGreatProg
import Derived.Test.YtmkljjbioomepaaGreatf02
import Derived.Test.YtmkljjbioomepaaGreatf04
import Derived.Test.YtmkljjbioomepaaGreatf03
set_option linter.all false
namespace Go.Proofs.YtmkljjbioomepaaGreat
open Go.Proofs.Tryz Go.bd
variable {a:an}{at_ count lines:Int}{b aQ c i n:Nat}{e t ty:bU}{w w':aj}{xs:au}
section
open IntKind
variable (w:aj)(R:bg){a b c d e f:Nat}{i k l m n:Int}{A:aw}{s t u:an}{j:al}
def sM (e:aw)(g a:an)(b c:Nat)(d f:Int)(j:al):al:=.pointer (some e)::ae j 0 4 (.pointer g::ae j 4 12 (af a b c::ab d::ab f::ae j 16 31 []))
def BN (a:an)(j:al):al:=ae j 0 5 (.pointer a::ae j 5 46 [])
theorem Zn:bc prog f22 [bb a,ab i] R w=(c6 43 #[bb a,ab i] w λe h=>cond (!e) (R (ad false) h) (lY 44 #[bb a,ab i] h λb j=>fo b λg=>bY j (br g 2) λc d f=>cj prog (cN f22 [1,1,1,0,1,0,0]) (sM (ah a 0) b c d f (d:Nat) 0 (ab i::a1 2 (ad false::a1 2 (jp (ah a 0)::ab i::ad e::ad (!e)::jp (ah a 0)::ab i::.pointer b::.pointer b::jp g::a7 g 2::a1 31 [])))) (aL 0 (aS f22 [1,1,1,1] R)) j)):=by kernel_rfl
theorem Wv (x:al->aK):W prog (sb f22 [1,1,1,0,1,0,0]) (sM A s t a b i k j) (aM x (aL 0 (aS f22 [1,1,1,1] R))) w=(cond (k<i) (bk t a k 2 λy=>Ir w y λg h d u=>aR w #[.pointer none,a4] 105 λe H=>a8 H (ah e 0) 0 [.pointer g,af h d u] λC=>mL C (ah e 0) λl=>cx 45 #[.pointer l] C λm E=>cond (m>0) (ck E λF v=>dS v (br A 3) λn o p=>s9 v (ah e 0) λq=>aR F #[.pointer q] 103 λz D=>v D/\da 106 (af n o p) (af (bs z) 1 1) D λf r c B=>v B/\cM B (br A 3) (af f r c) λG=>x (sM A s t a b i (i64.wrap (k+1)) (ae j 0 5 (jp (ah e 0)::ae j 6 10 (ad (k<i)::jp y::.agg #[.pointer g,af h d u]::jp (ah e 0)::.pointer l::ab m::ad (m>0)::jp A::jp A::jp A::a7 A 3::af n o p::jp (ah e 0)::.pointer q::af (bs z) 1 1::af f r c::jp A::a7 A 3::ab (i64.wrap (k+1))::ae j 35 12 [])))) G) (x (sM A s t a b i (i64.wrap (k+1)) (ae j 0 5 (jp (ah e 0)::ae j 6 10 (ad (k<i)::jp y::.agg #[.pointer g,af h d u]::jp (ah e 0)::.pointer l::ab m::ad (m>0)::ae j 23 11 (ab (i64.wrap (k+1))::ae j 35 12 []))))) E)) (W prog (sb f22 [1,1,1,1]) (BN s (jp A::ae j 0 16 (af t a b::ab i::ab k::ad (k<i)::ae j 17 30 []))) (bV f22 R) w)):=by kernel_rfl
theorem Xs:W prog (sb f22 [1,1,1,1]) (BN s j) (bV f22 R) w=(fo s λa=>cM w a (ad false) λg=>fo s λb=>cM g (br b 2) (a4) λh=>fo s λc=>cM h (br c 3) (a4) λf=>fo s λd=>cM f (br d 4) (ab 0) λe=>R (ad true) e):=by kernel_rfl
def xT (e:aw)(i:an)(a b:Nat)(c:an)(d f:Nat)(g h:Int)(j:al):al:=.pointer (some e)::ae j 0 2 (af i a b::ae j 2 9 (af c d f::ab g::ab h::ae j 11 45 []))
def Ht (a:aw)(d:an)(b c:Nat)(j:al):al:=.pointer (some a)::ae j 0 2 (af d b c::ae j 2 57 [])
def u' (e:aw)(o:an)(a b:Nat)(p:Int)(c:an)(d f:Nat)(g h:Int)(i:an)(k l:Nat)(m n:Int)(j:al):al:=.pointer (some e)::ae j 0 2 (af o a b::ab p::ae j 2 8 (af c d f::ab g::ab h::ae j 10 5 (af i k l::ab m::ab n::ae j 15 37 [])))
def Hu (a:aw)(e:an)(b c:Nat)(d:an)(f g:Nat)(h i:Int)(j:al):al:=.pointer (some a)::ae j 0 2 (af e b c::ae j 2 9 (af d f g::ab h::ab i::ae j 11 45 []))
def xU (e:an)(a b:Nat)(c:an)(d f:Nat)(g h:Int)(j:al):al:=ae j 0 3 (af e a b::ae j 3 39 (af c d f::ab g::ab h::ae j 42 15 []))
def Hn (c:an)(a b:Nat)(j:al):al:=ae j 0 3 (af c a b::ae j 3 57 [])
theorem t8:bc prog f36 [bb a] R w=(bY w (ah a 2) λd b c=>cj prog (cN f36 [1,1,0,1,0,0]) (xT (ah a 0) none 0 0 d b c (b:Nat) 0 (undef::a4::a1 6 (jp (ah a 0)::jp (ah a 0)::jp (ah a 2)::a1 45 []))) (aL 0 (aS f36 [1,1,1] R)) w):=by kernel_rfl
theorem Uh (z:al->aK):W prog (sb f36 [1,1,0,1,0,0]) (xT A s a b t c d i k j) (aM z (aL 0 (aS f36 [1,1,1] R))) w=(cond (k<i) (bk t c k 7 λC=>WG w C λf u l m n o p q r e g=>aR w #[ad false,ab 0,a4,a4,ab 0,ab 0,ab 0] 102 λh E=>a8 E (ah h 0) 0 [ad f,ab u,af l m n,af o p q,ab r,ab e,ab g] λB=>bY B (ah h 2) λv x y=>cj prog (cN f36 [1,1,0,1,0,0,1,1,0,0,1,1,0,0]) (u' A s a b k t c d i k v x y (x:Nat) 0 (aB j 0::aB j 1::jp (ah h 0)::ae j 4 7 (ad (k<i)::ab k::jp C::.agg #[ad f,ab u,af l m n,af o p q,ab r,ab e,ab g]::jp (ah h 2)::ae j 19 37 []))) (aL 2 (aL 1 (aM (λD w=>W prog (sb f36 [1,1,0,1,0,0,1,1,1]) D (aM z (aL 0 (aS f36 [1,1,1] R))) w) (aM z (aL 0 (aS f36 [1,1,1] R)))))) B) (W prog (sb f36 [1,1,1]) (Ht A s a b (ae j 0 11 (af t c d::ab i::ab k::ad (k<i)::ae j 12 44 []))) (bV f36 R) w)):=by kernel_rfl
theorem VA:W prog (sb f36 [1,1,1]) (Ht A s a b j) (bV f36 R) w=(bY w (br A 3) λd f g=>cj prog (cN f36 [1,1,1,0,1,0,0]) (xU s a b d f g (f:Nat) 0 (jp A::ae j 0 38 (jp A::jp A::a7 A 3::ae j 44 15 []))) (aL 4 (aS f36 [1,1,1,1] R)) w):=by kernel_rfl
theorem Ui (B:al->aK)(C:al->aK):W prog (sb f36 [1,1,0,1,0,0,1,1,0,0,1,1,0,0]) (u' A s a b i t c d k l u e f m n j) (aM C (aL 2 (aL 1 (aM (λbf w=>W prog (sb f36 [1,1,0,1,0,0,1,1,1]) bf (aM B (aL 0 (aS f36 [1,1,1] R))) w) (aM B (aL 0 (aS f36 [1,1,1] R))))))) w=(cond (n<m) (bk u e n 2 λD=>Ir w D λo p q r=>aR w #[.pointer none,a4] 105 λy K=>a8 K (ah y 0) 0 [.pointer o,af p q r] λF=>mL F (ah y 0) λg=>cx 45 #[.pointer g] F λh G=>cond (h>0) (aR G #[ab (-1),ab i,ab n] 89 λE H=>da 85 (af s a b) (af (bs E) 1 1) H λz v x I=>C (u' A z v x i t c d k l u e f m (i64.wrap (n+1)) (aB j 0::aB j 1::aB j 2::ab n::jp (ah y 0)::ae j 5 10 (ad (n<m)::ab n::jp D::.agg #[.pointer o,af p q r]::jp (ah y 0)::.pointer g::ab h::ad (h>0)::af s a b::ab i::ab n::.agg #[ab (-1),ab i,ab n]::af (bs E) 1 1::af z v x::ab (i64.wrap (n+1))::ae j 30 22 []))) I) (C (u' A s a b i t c d k l u e f m (i64.wrap (n+1)) (aB j 0::aB j 1::aB j 2::ab n::jp (ah y 0)::ae j 5 10 (ad (n<m)::ab n::jp D::.agg #[.pointer o,af p q r]::jp (ah y 0)::.pointer g::ab h::ad (h>0)::ae j 23 6 (ab (i64.wrap (n+1))::ae j 30 22 [])))) G)) (W prog (sb f36 [1,1,0,1,0,0,1,1,1]) (Hu A s a b t c d k l (aB j 0::aB j 1::ab i::ae j 2 13 (af u e f::ab m::ab n::ad (n<m)::ae j 16 36 []))) (aM B (aL 0 (aS f36 [1,1,1] R))) w)):=by kernel_rfl
theorem VB (e:al->aK):W prog (sb f36 [1,1,0,1,0,0,1,1,1]) (Hu A s a b t c d i k j) (aM e (aL 0 (aS f36 [1,1,1] R))) w=(e (xT A s a b t c d i (i64.wrap (k+1)) (ae j 0 34 (ab (i64.wrap (k+1))::ae j 35 21 []))) w):=by kernel_rfl
theorem Uj (h:al->aK):W prog (sb f36 [1,1,1,0,1,0,0]) (xU s a b t c d i k j) (aM h (aL 4 (aS f36 [1,1,1,1] R))) w=(cond (k<i) (bk t c k 1 λo=>mL w o λx=>cx 67 #[.pointer x] w λe r=>cx 68 #[.pointer x] r λf u=>aR u #[ab k,ab e,ab f] 89 λn q=>da 85 (af s a b) (af (bs n) 1 1) q λg l m p=>h (xU g l m t c d i (i64.wrap (k+1)) (ae j 0 7 (ab k::.pointer x::ae j 9 33 [ad (k<i),ab k,jp o,.pointer x,af s a b,ab k,.pointer x,ab e,.pointer x,ab f,.agg #[ab k,ab e,ab f],af (bs n) 1 1,af g l m,ab (i64.wrap (k+1)),aB j 56]))) p) (W prog (sb f36 [1,1,1,1]) (Hn s a b (ae j 0 42 (af t c d::ab i::ab k::ad (k<i)::ae j 43 14 []))) (bV f36 R) w)):=by kernel_rfl
theorem VC:W prog (sb f36 [1,1,1,1]) (Hn s a b j) (bV f36 R) w=(R (af s a b) w):=by kernel_rfl
theorem Y3 (C:Nat)(a b c:Int)(w:aj)(R:bg):bc prog f37 [bb C,.agg #[ab a,ab b,ab c]] R w=(aR w #[ab a,ab b,ab c] 89 λb1 w1=>bN w1 (ah b1 0) λd=>cond (d>=0) (bN w1 (ah b1 0) λf=>c6 69 #[bb C,ab f] w1 λg ch=>R (ad g) ch) (bN w1 (ah b1 0) λh=>cond (h<(-1)) (R (ad false) w1) (bN w1 (ah b1 1) λi=>lY 44 #[bb C,ab i] w1 λk cj=>ck cj λD A=>cond (Option.isNone k) (R (ad false) D) (cA A (ah b1 2) λl=>cond (l<0) (R (ad false) D) (cA A (ah b1 2) λm=>fo k λbW=>dS A (br bW 2) λn o p=>cond (m>=(o:Nat)) (R (ad false) D) (fo k λbX=>dS A (br bX 2) λq r s=>cA A (ah b1 2) λt=>bk q r t 2 λaq=>s9 A aq λv=>cx 45 #[.pointer v] D λy E=>A E/\cond (y == 0) (R (ad false) E) (ck E λcl B=>fo k λbv=>dS B (br bv 2) λz aa cy=>cA B (ah b1 2) λac=>bk z aa ac 2 λaQ=>ck cl λS e=>s9 e aQ λG=>dS e (ah C 1) λaB aE cC=>cA e (ah b1 2) λaI=>bk aB aE aI 1 λb4=>s9 e b4 λx=>(B2 70 #[.pointer G,.pointer x] S λaL aM aP am aT T=>e T/\aR T #[ab 0,a4] 131 λaz U=>e U/\a8 U (ah az 0) 0 [ab aL,af aM aP am] λM=>cond aT (ck M λg' j=>fo k λa'=>dS j (br a' 3) λaV ap cD=>dS j (br aQ 1) λaW aZ cG=>bk aW aZ 0 1 λbh=>cA j bh λcm=>BY j (ah az 0) λa1 a5 a7 a9=>bk aV ap cm 2 λbm=>a8 g' bm 0 [ab a1,af a5 a7 a9] λI=>bY I (br aQ 1) λV F b8=>g7 V F b8 1 (F:Nat) (b8:Nat) 1 λcr cv cu=>eV 71 #[af cr cv cu] I λW X Y bo=>cM bo (br aQ 1) (af W X Y) λJ=>fo k λb5=>bN J (br b5 4) λZ=>fo k λa0=>cM J (br a0 4) (ab (i64.wrap (Z-1))) λcc=>R (ad true) cc) (R (ad true) M))/\aR S #[ab 0,a4] 131 λH N=>e N/\B2 70 #[.pointer G,.pointer x] N λae ag ao bq bs ce=>e ce/\a8 ce (ah H 0) 0 [ab ae,af ag ao bq] λO=>cond bs (ck O λb6 u=>fo k λb7=>dS u (br b7 3) λbx bD be=>dS u (br aQ 1) λbG bH cH=>bk bG bH 0 1 λci=>cA u ci λcq=>BY u (ah H 0) λbi bJ bK bL=>bk bx bD cq 2 λb9=>a8 b6 b9 0 [ab bi,af bJ bK bL] λP=>bY P (br aQ 1) λbO K L=>g7 bO K L 1 (K:Nat) (L:Nat) 1 λb_ ca cb=>eV 71 #[af b_ ca cb] P λbQ bR bV co=>cM co (br aQ 1) (af bQ bR bV) λQ=>fo k λcd=>bN Q (br cd 4) λhj=>fo k λcf=>cM Q (br cf 4) (ab (i64.wrap (hj-1))) λcs=>R (ad true) cs) (R (ad true) O)))))))):=by kernel_rfl
theorem YI:bc prog f38 [bb a] R w=(bY w (ah a 1) λd b c=>R (ab (b:Nat)) w):=by kernel_rfl
theorem Y4:bc prog f39 [bb a,ab i] R w=(cond (i<0) (R (.pointer none) w) (bY w (ah a 1) λe b c=>cond (i>=(b:Nat)) (R (.pointer none) w) (bY w (ah a 1) λd f g=>bk d f i 1 λh=>mL w h λx=>R (.pointer x) w))):=by kernel_rfl
theorem YJ:bc prog f43 [bb a,ab i] R w=(lY 44 #[bb a,ab i] w λd e=>cond (!(Option.isNone d)) (fo d λc=>js e c λb=>R (ad b) e) (R (ad false) e)):=by kernel_rfl
theorem HF:bc prog f44 [bb a,ab i] R w=(cond (i<0) (R (.pointer none) w) (bY w (ah a 2) λe b c=>cond (i>=(b:Nat)) (R (.pointer none) w) (bY w (ah a 2) λd f g=>bk d f i 7 λh=>R (.pointer (some h)) w))):=by kernel_rfl
def yK (s2:Int)(s8:aw)(a b:Int)(j:al):al:=ae j 0 2 (ab s2::ae j 2 5 (.pointer (some s8)::ae j 7 30 (ab a::ab b::ae j 37 33 [])))
def I9 (a:aw)(j:al):al:=ae j 0 8 (.pointer (some a)::ae j 8 65 [])
def yL (s8:aw)(a b:Int)(j:al):al:=ae j 0 8 (.pointer (some s8)::ae j 8 56 (ab a::ab b::ae j 64 7 []))
def I_ (a:aw)(j:al):al:=ae j 0 8 (.pointer (some a)::ae j 8 65 [])
theorem KE:bc prog f46 [ab i,ab k,ab l] R w=(cond (i<1) (R (.tuple #[.pointer none,ab 1]) w) (cond (i>5) (R (.tuple #[.pointer none,ab 1]) w) (cond (k<1) (R (.tuple #[.pointer none,ab 1]) w) (cond (k>6) (R (.tuple #[.pointer none,ab 1]) w) (cond (l<1) (R (.tuple #[.pointer none,ab 2]) w) (cond (l>256) (R (.tuple #[.pointer none,ab 2]) w) (pM k k 88 (.cells (ju (Int.toNat k) [ad false,ab 0,a4,a4,ab 0,ab 0,ab 0]).toArray 102) w λa d=>aR d #[ab l,a4,af (bs a) (Int.toNat k) (Int.toNat k),a4] 110 λb c=>cj prog (cN f46 [1,1,1,0,1,0,0]) (yK l (ah b 0) i 0 (ab i::ab k::a1 3 (.pointer none::ab 0::a1 3 (ad (k>6)::ab i::ad (i<1)::ad false::ab i::ad (i>5)::ad (i>5)::ad false::ab k::ad (k<1)::ad (k<1)::ad false::ab k::ad (k>6)::ad (k>6)::ad (l>256)::ab l::ad (l<1)::ad false::ab l::ad (l>256)::ad (l>256)::ab l::ab k::af (bs a) (Int.toNat k) (Int.toNat k)::.agg #[ab l,a4,af (bs a) (Int.toNat k) (Int.toNat k),a4]::jp (ah b 0)::a1 33 [])))) (aL 1 (aS f46 [1,1,1,1] R)) c))))))):=by kernel_rfl
theorem Zq (n:al->aK):W prog (sb f46 [1,1,1,0,1,0,0]) (yK i A k l j) (aM n (aL 1 (aS f46 [1,1,1,1] R))) w=(cond (l<k) (BZ 74 #[ab i] w λc d e=>cond (d != 0) (R (.tuple #[.pointer none,ab d]) e) (bY e (br A 1) λf g h=>aR e #[.pointer c] 92 λo r=>da 107 (af f g h) (af (bs o) 1 1) r λb a m q=>cM q (br A 1) (af b a m) λp=>n (yK i A k (i64.wrap (l+1)) (ae j 0 7 (.pointer c::ab d::ae j 9 28 (ad (l<k)::.tuple #[.pointer c,ab d]::ab i::.tuple #[.pointer c,ab d]::.pointer c::ab d::ab d::ad ((d:Int) != 0)::aB j 45::jp A::jp A::jp A::a7 A 1::af f g h::.pointer c::af (bs o) 1 1::af b a m::jp A::a7 A 1::ab (i64.wrap (l+1))::ae j 57 13 [])))) p)) (W prog (sb f46 [1,1,1,1]) (I9 A (aB j 0::aB j 1::ab i::ae j 2 35 (ab k::ab l::ad (l<k)::ae j 38 32 []))) (bV f46 R) w)):=by kernel_rfl
theorem Z2:W prog (sb f46 [1,1,1,1]) (I9 A j) (bV f46 R) w=(bY w (br A 2) λb c d=>cj prog (cN f46 [1,1,1,1,0,1,0,0]) (yL A (c:Nat) 0 (ae j 0 60 (jp A::jp A::a7 A 2::af b c d::ae j 66 7 []))) (aL 3 (aS f46 [1,1,1,1,1] R)) w):=by kernel_rfl
theorem Zr (a:al->aK):W prog (sb f46 [1,1,1,1,0,1,0,0]) (yL A i k j) (aM a (aL 3 (aS f46 [1,1,1,1,1] R))) w=(cond (k<i) (vy 53 #[.pointer (some A),ab k,ab 1] w λb=>a (yL A i (i64.wrap (k+1)) (ae j 0 10 (ab k::ae j 11 53 [ad (k<i),ab k,jp A,ab k,.tuple #[],ab (i64.wrap (k+1)),aB j 70]))) b) (W prog (sb f46 [1,1,1,1,1]) (I_ A (ae j 0 64 (ab i::ab k::ad (k<i)::ae j 65 6 []))) (bV f46 R) w)):=by kernel_rfl
theorem Z3:W prog (sb f46 [1,1,1,1,1]) (I_ A j) (bV f46 R) w=(R (.tuple #[.pointer (some A),ab 0]) w):=by kernel_rfl
def va (s1 s2:Int)(c:aw)(a b:Int)(j:al):al:=ae j 0 1 (ab s1::ab s2::ae j 1 3 (.pointer (some c)::ae j 4 23 (ab a::ab b::ae j 27 21 [])))
theorem t9:bc prog f53 [bb a,ab i,ab k] R w=(bY w (ah a 2) λe b c=>bk e b i 7 λh=>cM w h (ad true) λl=>cM l (br h 1) (ab k) λm=>cM m (br h 2) (a4) λj=>bY j (ah a 1) λd f g=>cj prog (cN f53 [1,1,1,0,0]) (va i k h (f:Nat) 0 (jp (ah a 0)::a1 6 (jp (ah a 0)::jp (ah a 0)::jp (ah a 2)::af e b c::ab i::jp h::jp h::jp h::jp h::ab k::jp h::jp h::jp h::a7 h 1::jp h::a7 h 2::jp (ah a 0)::jp (ah a 0)::jp (ah a 1)::af d f g::a1 21 []))) (aL 0 (bV f53 R)) j):=by kernel_rfl
theorem UP (n:al->aK):W prog (sb f53 [1,1,1,0,0]) (va i k A l m j) (aM n (aL 0 (bV f53 R))) w=(cond (m<l) (BZ 80 #[ab i,ab k,ab m] w λc d p=>bY p (br A 2) λf g h=>aR p #[.pointer c,a4] 105 λo s=>da 99 (af f g h) (af (bs o) 1 1) s λb a e r=>cM r (br A 2) (af b a e) λq=>n (va i k A l (i64.wrap (m+1)) (ae j 0 4 (ab m::.pointer c::ab d::ae j 7 20 [ad (m<l),ab m,.tuple #[.pointer c,ab d],ab i,ab k,ab m,.tuple #[.pointer c,ab d],.pointer c,ab d,jp A,jp A,jp A,a7 A 2,af f g h,.pointer c,.agg #[.pointer c,a4],af (bs o) 1 1,af b a e,jp A,a7 A 2,ab (i64.wrap (m+1))]))) q) (R (.tuple #[]) w)):=by kernel_rfl
theorem ro:bc prog f62 [bb a,ab i] R w=(cond (i<0) (R (ad false) w) (bY w (ah a 3) λe b c=>cond (i>=(b:Nat)) (R (ad false) w) (bY w (ah a 3) λd f g=>eV 89 #[af d f g,ab i,ab (i64.wrap (i+1))] w λh j k l=>cM l (ah a 3) (af h j k) λm=>R (ad true) m))):=by kernel_rfl
theorem Yo:bc prog f63 [bb a,ab i] R w=(lY 44 #[bb a,ab i] w λd e=>cond (!(Option.isNone d)) (fo d λc=>bN e (br c 4) λb=>R (ab b) e) (R (ab 0) e)):=by kernel_rfl
theorem Zs:bc prog f64 [bb a,ab i] R w=(lY 44 #[bb a,ab i] w λj q=>cond (Option.isNone j) (R (.tuple #[a4,ad false]) q) (fo j λl=>js q l λb=>cond (!b) (R (.tuple #[a4,ad false]) q) (fo j λm=>bY q (br m 3) λc d f=>cond (Option.isNone c) (R (.tuple #[a4,ad false]) q) (fo j λn=>bN q (br n 4) λg=>cond (g>0) (R (.tuple #[a4,ad false]) q) (fo j λo=>bY q (br o 3) λh e k=>fo j λp=>cM q (br p 3) (a4) λr=>R (.tuple #[af h e k,ad true]) r))))):=by kernel_rfl
def x_ (e:aw)(s2:an)(a b:Nat)(i c:an)(d f:Nat)(g h:Int)(j:al):al:=.pointer (some e)::ae j 0 1 (af s2 a b::ae j 1 4 (.pointer i::ae j 5 33 (af c d f::ab g::ab h::ae j 38 80 [])))
def HG (a:aw)(s2:an)(b c:Nat)(d:an)(j:al):al:=.pointer (some a)::ae j 0 1 (af s2 b c::ae j 1 4 (.pointer d::ae j 5 116 []))
def u_ (e:aw)(s2:an)(a b:Nat)(i c:an)(d f:Nat)(g h:Int)(j:al):al:=.pointer (some e)::ae j 0 1 (af s2 a b::ae j 1 4 (.pointer i::ae j 5 54 (af c d f::ab g::ab h::ae j 59 59 [])))
def BK (s2:an)(a b:Nat)(c:an)(j:al):al:=ae j 0 2 (af s2 a b::ae j 2 4 (.pointer c::ae j 6 116 []))
theorem Zt:bc prog f66 [bb a,ab i,af s b c] R w=(lY 44 #[bb a,ab i] w λj l=>cond (Option.isNone j) (R (ab 1) l) (fo j λe=>js l e λd=>cond (!d) (R (ab 1) l) (fo j λk=>bY l (br k 3) λf g h=>cond (!(Option.isNone f)) (R (ab 3) l) (cond ((b:Int) == 0) (R (ab 1) l) (cond ((b:Int)>1024) (R (ab 18) l) (cj prog (cN f66 [1,1,1,0,1,0,0]) (x_ (ah a 0) s b c j s b c (b:Nat) 0 (ab i::a1 3 (ab 0::a1 6 (jp (ah a 0)::ab i::.pointer j::ad (!d)::.pointer j::ad (Option.isNone j)::ad false::.pointer j::jp e::jp e::ad d::ad (!d)::ad (!d)::ad (!(Option.isNone f))::.pointer j::jp k::a7 k 3::af f g h::ad (!(Option.isNone f))::ad ((b:Int) == 0)::af s b c::cd b::ad ((b:Int) == 0)::ad ((b:Int)>1024)::af s b c::cd b::ad ((b:Int)>1024)::a1 80 [])))) (aL 1 (aS f66 [1,1,1,1] R)) l)))))):=by kernel_rfl
theorem VD (L:al->aK):W prog (sb f66 [1,1,1,0,1,0,0]) (x_ A s a b t u c d i k j) (aM L (aL 1 (aS f66 [1,1,1,1] R))) w=(cond (k<i) (bk u c k 9 λI=>jt w I λe h K H l m n o p q r=>aR w #[ab 0,ab 0,ab 0,ab 0,ag 0,ag 0,a4,ag 0,ab 0] 158 λF J=>a8 J (ah F 0) 0 [ab e,ab h,ab K,ab H,ag l,ag m,af n o p,ag q,ab r] λS=>ck S λT D=>mK D (ah F 0) λf g v x y z O Q M P bf=>dS D (br A 1) λC G V=>cA D A λN=>cx 94 #[.agg #[ab f,ab g,ab v,ab x,ag y,ag z,af O Q M,ag P,ab bf],ab (G:Nat),ab N] T λB E=>D E/\cond (B != 0) (R (ab B) E) (L (x_ A s a b t u c d i (i64.wrap (k+1)) (ae j 0 6 (jp (ah F 0)::ab B::ae j 8 30 (ad (k<i)::jp I::.agg #[ab e,ab h,ab K,ab H,ag l,ag m,af n o p,ag q,ab r]::.agg #[ab f,ab g,ab v,ab x,ag y,ag z,af O Q M,ag P,ab bf]::jp A::jp A::a7 A 1::af C G V::cd G::jp A::jp A::jp A::ab N::ab B::ab B::ad ((B:Int) != 0)::aB j 54::ab (i64.wrap (k+1))::ae j 56 62 [])))) E)) (W prog (sb f66 [1,1,1,1]) (HG A s a b t (ae j 0 38 (af u c d::ab i::ab k::ad (k<i)::ae j 39 79 []))) (bV f66 R) w)):=by kernel_rfl
theorem XG:W prog (sb f66 [1,1,1,1]) (HG A s a b t j) (bV f66 R) w=(cj prog (cN f66 [1,1,1,1,0,1,0,0]) (u_ A s a b t s a b (a:Nat) 0 (ae j 0 59 (ae j 62 59 []))) (aL 3 (aS f66 [1,1,1,1,1] R)) w):=by kernel_rfl
theorem VE (Z:al->aK):W prog (sb f66 [1,1,1,1,0,1,0,0]) (u_ A s a b t u c d i k j) (aM Z (aL 3 (aS f66 [1,1,1,1,1] R))) w=(cond (k<i) (bk u c k 9 λO=>jt w O λe B P bf l m n o p q r=>aR w #[ab 0,ab 0,ab 0,ab 0,ag 0,ag 0,a4,ag 0,ab 0] 158 λD I=>a8 I (ah D 0) 0 [ab e,ab B,ab P,ab bf,ag l,ag m,af n o p,ag q,ab r] λa1=>ck a1 λiN C=>fo t λG=>dS C (br G 2) λf g v=>cA C (ah D 1) λx=>bk f g x 2 λh=>ck iN λaV H=>s9 H h λy=>mK H (ah D 0) λz Y aP aq aB ao E K aI V N=>cA H A λS=>cx 95 #[.pointer y,.agg #[ab z,ab Y,ab aP,ab aq,ag aB,ag ao,af E K aI,ag V,ab N],ab S] aV λaW aE=>bY aE (br h 1) λM Q X=>aR aE #[ab k] 3 λT U=>da 22 (af M Q X) (af (bs T) 1 1) U λF L aT aZ=>cM aZ (br h 1) (af F L aT) λJ=>Z (u_ A s a b t u c d i (i64.wrap (k+1)) (ae j 0 8 (ab k::jp (ah D 0)::jp h::ae j 11 48 (ad (k<i)::ab k::jp O::.agg #[ab e,ab B,ab P,ab bf,ag l,ag m,af n o p,ag q,ab r]::.pointer t::jp G::a7 G 2::af f g v::jp (ah D 1)::ab x::jp h::jp h::jp h::jp h::.pointer y::.agg #[ab z,ab Y,ab aP,ab aq,ag aB,ag ao,af E K aI,ag V,ab N]::jp A::jp A::jp A::ab S::ab aW::jp h::jp h::jp h::a7 h 1::af M Q X::ab k::af (bs T) 1 1::af F L aT::jp h::a7 h 1::ab (i64.wrap (k+1))::ae j 91 27 [])))) J) (W prog (sb f66 [1,1,1,1,1]) (BK s a b t (jp A::ae j 0 59 (af u c d::ab i::ab k::ad (k<i)::ae j 60 58 []))) (bV f66 R) w)):=by kernel_rfl
theorem XH:W prog (sb f66 [1,1,1,1,1]) (BK s a b t j) (bV f66 R) w=(pM (a:Nat) (a:Nat) 32 (.cells (ju (Int.toNat (a:Nat)) [ab 0,a4]).toArray 131) w λn p=>fo t λf=>cM p (br f 3) (af (bs n) (Int.toNat (a:Nat)) (Int.toNat (a:Nat))) λq=>fo t λg=>cM q (br g 4) (ab (a:Nat)) λm=>fo t λh=>bN m (br h 5) λc=>fo t λi=>cM m (br i 5) (ab (i64.wrap (c+1))) λe=>fo t λk=>bN e (br k 6) λd=>fo t λl=>cM e (br l 6) (ab (i64.wrap (d+(a:Nat)))) λo=>R (ab 0) o):=by kernel_rfl
theorem Xc:bc prog f69 [bb a,ab i] R w=(bY w (ah a 3) λj b c=>cond (i>=(b:Nat)) (R (ad false) w) (bY w (ah a 3) λd f g=>bk d f i 1 λC=>mL w C λx=>ck w λB u=>dS u (ah a 1) λh e k=>cx 68 #[.pointer x] B λl y=>u y/\bk h e l 1 λt=>s9 u t λz=>B2 70 #[.pointer x,.pointer z] y λm n o p q D=>cx 45 #[.pointer x] D λr v=>cond (r == 0) (c6 62 #[bb a,ab i] v λs A=>R (ad true) A) (R (ad true) v))):=by kernel_rfl
end
section
def ug (w w':aj)(e sz:Nat)(a bS:an)(n cap:Nat)(xs:au):Prop:=
 ai w w'/\aZ w' e sz bS n cap xs/\(∀ k,aP bS k->w.heap.size<=k)/\(bS=none↔a=none)
theorem y9 {i:TypeInfo}{z:bl}(C:prog.underlying t=some (.slice e))(s:prog.info? e=some i)(ax:i.zero=some z)(j:z.cells.size=i.size)(h:0<i.size)
  {a:aw} (y:xs.length=n*i.size) (B:bh w (some a) xs) (p:∀ u ∈ xs,single u=true) (q:n<=140737488355328) (r:n*i.bytes<=140737488355328) :
  ∃ bS b w',(Builtin.append_ #[t,t] ty #[.slice (some ⟨w.heap.size,0,none⟩) 0 0,.slice (some a) n c]).run prog (w.alloc (.cells #[] e))=.ok (.slice bS n b) w'/\ug w w' e i.size (some a) bS n b xs:=by
 have l:aZ (w.alloc (.cells #[] e)) e i.size (some ⟨w.heap.size,0,none⟩) 0 0 []:=by refine⟨by simp,.inr ⟨w.heap.size,[],rfl,?_,by omega,by grind,by simp,by simp⟩⟩;exact pR w [] e
 obtain⟨bS,b,w',f,d,x,g⟩:=l.append (P:=prog) (ty:=ty) C s ax j h y (B.new (hn _ _)) p (c:=c) (by omega) (by grind);simp only[h_,qc]at f d;refine⟨bS,b,w',f,?_,d,?_,?_⟩
 ·refine(hn w _).trans x ?_;rintro k A ⟨o,l⟩
  grind
 ·rintro k ⟨o,rfl⟩;rcases g with g | g
  ·grind
  simp_all
 grind
theorem Cf (e:xs.length=n)(q:bh w a xs)(g:∀ u ∈ xs,single u=true)(r:n<=1000000000)(l:a=none->n=0) :
  a9 73 [.slice a n c] w λv w'=>∃ bS cap,v=.slice bS n cap/\ug w w' 30 1 a bS n cap xs:=by
 refine a' Tryz.func73 ?_;rw[U7];obtain⟨i,j,ax,b,h⟩:=ft (T:=30) (z:=.int .u64 0) (n:=1) (m:=8) (by kernel_rfl);cases a with
 |none=>
  refine fq rfl ⟨none,0,by grind,ao.refl _ _,?_,?_,by simp⟩
  ·rw[l rfl]at e ⊢;rw[hh e];exact aZ.nil _ _ _
  ·rintro k ⟨o,p⟩;cases p
 |some a=>
  refine dm rfl ?_;rintro b1 w1 rfl rfl;obtain⟨bS,d,w',f,s⟩:=y9 (t:=94) (ty:=94) (z:=.int .u64 0) (n:=n) (c:=c) (w:=w) (a:=a) (xs:=xs) Tryz.underlying94 j ax (by rw[b];rfl) (by omega) (by grind) q g (by omega) (by grind)
  grind
structure aO where
 words:ba
 down:Bool
structure d9 (w:aj)(b aQ:Nat)(n:aO):Prop where
 node:aq w b [.slice (some ⟨aQ,0,none⟩) n.words.length n.words.length,.bool n.down] 137
 words:aq w aQ (us n.words) 30
 len:n.words.length<=2048
 vm:8<=n.words.length
 wf:∀ x ∈ n.words,0<=x/\x<18446744073709551616
theorem d9.ne {w:aj}{b aQ:Nat}{n:aO}(h:d9 w b aQ n):b≠aQ:=h.node.ne h.words (by decide)
theorem d9.aC {M:a6}{n:aO}(h:d9 w b aQ n)(a:ao M w w')(c:¬ M b)(d:¬ M aQ):d9 w' b aQ n:=
 ⟨a.ak h.node c,a.ak h.words d,h.len,h.vm,h.wf⟩
theorem d9.new {n:aO}(h:d9 w b aQ n)(a:ai w w'):d9 w' b aQ n:=h.aC a id id
def aO.get (n:aO)(i:Nat):Int:=n.words.getD i 0
theorem aO.get_some {n:aO}(h:i<n.words.length):n.words[i]?=some (n.get i):=by
 grind[aO.get]
theorem d9.I6 {n:aO}(h:d9 w b aQ n)(i:Nat):0<=n.get i/\n.get i<18446744073709551616:=by
 by_cases a:i<n.words.length
 ·exact h.wf _ (cu (aO.get_some a))
 grind[aO.get]
theorem d9.cell {w:aj}{b aQ:Nat}{n:aO}(h:d9 w b aQ n){i:Nat}(a:i<n.words.length):w.cell? ⟨aQ,i,none⟩=some (.int .u64 (n.get i)):=
 h.words.cell (ue (aO.get_some a))
theorem GU {n:aO}(h:d9 w b aQ n):a9 101 [.pointer (some ⟨b,0,none⟩)] w λv w'=>v=.bool (!n.down)/\w'=w:=by refine a' Tryz.func101 ?_;rw[ZX];exact⟨n.down,h.node.cell rfl,rfl,rfl⟩
theorem zb {n:aO}(h:d9 w b aQ n):a9 82 [.pointer (some ⟨b,0,none⟩)] w λv w'=>v=.int .i64 (n.words.length / 8:Nat)/\w'=w:=by refine a' Tryz.func82 ?_;rw[YX];have:=h.len;refine⟨_,_,_,h.node.cell rfl,?_,rfl⟩;rw[zi (by omega),bq (by omega) (by omega)];rfl
theorem RS (l:ba)(i:Nat)(x:Int):(us l).set i (.int .u64 x)=us (l.set i x):=by simp[us]
theorem d9.IN {n:aO}(h:d9 w b aQ n)(i:Nat){x:Int}(c:0<=x)(d:x<18446744073709551616):d9 (w.setCell ⟨aQ,i,none⟩ (.int .u64 x)) b aQ {n with words:=n.words.set i x}:=by
 refine⟨?_,?_,by simpa using h.len,by simpa using h.vm,?_⟩
 ·have:=h.node.II (i:=i) h.ne (.int .u64 x)
  grind
 ·have:=h.words.setCell (i:=i) (.int .u64 x)
  grind[RS]
 ·intro y a;rcases m5 a with a | rfl
  ·exact h.wf y a
  grind
def aO.back (n:aO):aO×Bool:=if n.down=true/\n.get 1<31 then(⟨n.words.set 1 (n.get 1+1),false⟩,true)else(n,false)
def aO.e0 (n:aO)(at_ count:Int):Int:=
 if count<1\/at_<0\/(n.words.length:Int)<=at_\/(n.words.length:Int)-at_<count then 2 else if n.down=true then 4 else 0
theorem aO.sB {n:aO}(h:n.e0 at_ count=0):1<=count/\0<=at_/\at_+count<=n.words.length/\n.down=false:=by
 grind[aO.e0]
theorem wE {n:aO}(h:d9 w b aQ n)(at_ count:Int):a9 72 [.pointer (some ⟨b,0,none⟩),.int .i64 at_,.int .i64 count] w λv w'=>v=.int .i64 (n.e0 at_ count)/\w'=w:=by
 refine a' Tryz.func72 ?_;rw[YU];have g:=h.len;refine a5 (λc=>⟨?_,rfl⟩) (λc=>a5 (λd=>⟨?_,rfl⟩) (λd=>⟨_,_,_,h.node.cell rfl,a5 (λe=>⟨?_,rfl⟩) (λe=>⟨_,_,_,h.node.cell rfl,a5 (λa=>⟨?_,rfl⟩) (λa=>⟨_,h.node.cell rfl,ek (λf=>⟨?_,rfl⟩) (λf=>⟨?_,rfl⟩)⟩)⟩)⟩))
 ·rw[aO.e0,bm (.inl c)]
 ·rw[aO.e0,bm (.inr (.inl d))]
 ·rw[aO.e0,bm (.inr (.inr (.inl e)))]
 ·rw[bq (by omega) (by omega)]at a;rw[aO.e0,bm (.inr (.inr (.inr (by omega))))]
 ·rw[bq (by omega) (by omega)]at a;rw[aO.e0,aW (by omega),bm f]
 ·rw[bq (by omega) (by omega)]at a;rw[aO.e0,aW (by omega),aW (by grind)]
def aO.read (n:aO)(at_ count:Int):ba:=(n.words.drop at_.toNat).take count.toNat
theorem Ay (l:ba)(k:Nat):(us l).take k=us (l.take k):=by simp[us]
theorem Az (l:ba)(k:Nat):(us l).drop k=us (l.drop k):=by simp[us]
theorem zV (l m:ba):us l++us m=us (l++m):=by simp[us]
def OA (n:aO)(at_ count:Int)(w:aj)(v:bl)(w':aj):Prop:=
 (n.e0 at_ count≠0/\v=.tuple #[.slice none 0 0,.int .i64 (n.e0 at_ count)]/\w'=w)\/
 (n.e0 at_ count=0/\∃ a cap,v=.tuple #[.slice (some a) count.toNat cap,.int .i64 0]/\ai w w'/\aZ w' 30 1 (some a) count.toNat cap (us (n.read at_ count))/\w.heap.size<=a.block)
theorem aO.vB {n:aO}(h:n.e0 at_ count=0):(n.read at_ count).length=count.toNat:=by
 obtain⟨a,b,c,_⟩:=aO.sB h
 grind[aO.read]
theorem uh {n:aO}(h:d9 w b aQ n)(at_ count:Int):a9 40 [.pointer (some ⟨b,0,none⟩),.int .i64 at_,.int .i64 count] w (OA n at_ count w):=by
 refine a' Tryz.func40 ?_;rw[Zl];refine aE (wE h at_ count) ?_;rintro v w1 ⟨rfl,rfl⟩;refine⟨_,rfl,dw (λc=>?_) (λc=>?_)⟩
 ·exact .inl ⟨c,rfl,rfl⟩
 ·obtain⟨q,j,k,_⟩:=aO.sB c;have s:=h.len;refine⟨_,_,_,h.node.cell rfl,?_⟩;rw[bq (by omega) (by omega)];refine jq j (by omega) k (by omega) (by omega) ?_;intro a l;rcases l with rfl | ⟨f,_⟩
  ·have d:bh w1 (some ⟨aQ,0+at_.toNat * 1,none⟩) (us (n.read at_ count)):=by
    refine e6 h.words ?_
    grind[ht,aO.vB,Az,Ay,aO.read]
   have e:(at_+count).toNat-at_.toNat=count.toNat:=by omega
   rw[e];refine aE (Cf (by rw[ht,aO.vB c]) d (oJ _) (by omega) (by simp)) ?_;rintro v t ⟨bS,cap,rfl,p,i,o,r⟩;refine⟨_,_,_,rfl,.inr ⟨c,?_⟩⟩;cases bS with
   |none=>grind
   |some bS=>
    refine⟨bS,cap,rfl,p,i,?_⟩;rcases i.2 with⟨f,_⟩ | ⟨g,cur,f,_⟩
    ·cases f
    ·exact o _ ⟨bS.off,by grind⟩
  ·omega
theorem OB {P:c7}{i:TypeInfo}(l:P.underlying t=some (.slice e))(h:P.info? e=some i)(g:i.size=1){o dl dc:Nat}{s:an}{m:Nat}{news:au}(k:news.length=m)
  (hm:m<=dl) (p:bh w s news) (n:s=none->m=0) (hw:dT w ⟨b,o,none⟩ 0 news):(Builtin.copy_ #[t,t] ty #[.slice (some ⟨b,o,none⟩) dl dc,.slice s m c]).run P w=.ok (.int .i64 m) (cv w ⟨b,o,none⟩ 0 news):=by
 have a:Nat.min m dl=m:=Nat.min_eq_left hm;have f:=td (P:=P) hw;cases s with
 |none=>have:=n rfl;subst this;have:news=[]:=hh k;subst this;simp[Builtin.copy_,run_underlying l,Builtin.lenOf,a,sizeOf,typeInfo,h,Builtin.firstCells,goInt,storeCells,cv]
 |some s=>
  have d:(loadCells s m).run P w=.ok news.toArray w:=by
   have:b6 w s 0 news:=by
    rcases p with rfl | ⟨sb,so,he,q⟩
    ·trivial
    ·simp at he;subst he;exact jk λj v r=>by grind
   have:=bd.run_loadCellsFrom (P:=P) (acc:=#[]) this;rw[k]at this;simpa[loadCells]using this
  simp[Builtin.copy_,run_underlying l,Builtin.lenOf,a,sizeOf,typeInfo,h,Builtin.firstCells,goInt,g,d,f]
def aO.write (n:aO)(at_:Nat)(ws:ba):aO:={n with words:=n.words.take at_++ws++n.words.drop (at_+ws.length)}
theorem d9.write {w:aj}{b aQ:Nat}{n:aO}(h:d9 w b aQ n){o:Nat}{ws:ba}(c:o+ws.length<=n.words.length)(hw:∀ x ∈ ws,0<=x/\x<18446744073709551616):d9 (cv w ⟨aQ,o,none⟩ 0 (us ws)) b aQ (n.write o ws):=by
 have hlen:(n.write o ws).words.length=n.words.length:=by simp[aO.write];omega
 refine⟨?_,?_,by rw[hlen];exact h.len,by rw[hlen];exact h.vm,?_⟩
 ·rw[hlen];exact(hD _ _ _ _ _).ak h.node h.ne
 ·have:=h.words.cv (o:=o) (i:=0) (vs:=us ws);rw[pS (by grind[ht]),m1,ht,Ay,Az,zV,zV]at this;exact this
 ·intro x a;simp only[aO.write,kh]at a;rcases a with(a | a) | a
  ·exact h.wf x (v3 a)
  ·grind
  ·exact h.wf x (qb a)
theorem E5 {n:aO}(h:d9 w b aQ n)(at_:Int){ws:ba}(r:bh w a (us ws))(hw:∀ x ∈ ws,0<=x/\x<18446744073709551616)(q:a=none->ws.length=0) :
  a9 109 [.pointer (some ⟨b,0,none⟩),.int .i64 at_,.slice a ws.length c] w λv w'=>v=.int .i64 (n.e0 at_ ws.length)/\
   d9 w' b aQ (if n.e0 at_ ws.length=0 then n.write at_.toNat ws else n)/\ao (λk=>k=aQ) w w':=by
 refine a' Tryz.func109 ?_;rw[YY];refine aE (wE h at_ _) ?_;rintro v w1 ⟨rfl,rfl⟩;refine⟨_,rfl,dw (λd=>?_) (λd=>?_)⟩
 ·rw[aW d];exact⟨rfl,h,ao.refl _ _⟩
 ·obtain⟨s,g,u,_⟩:=aO.sB d;have y:=h.len;rw[bm d,d];refine⟨_,_,_,h.node.cell rfl,jq g (by omega) (by omega) (by omega) (by omega) ?_⟩;intro bS j;rcases j with rfl | ⟨A,_⟩
  ·obtain ⟨i,p,ax,f,l⟩:=ft (T:=30) (z:=.int .u64 0) (n:=1) (m:=8) (by kernel_rfl);have e:=OB (P:=prog) (w:=w1) (t:=94) (ty:=3) (b:=aQ) (o:=0+at_.toNat * 1) (dl:=(n.words.length:Int).toNat - at_.toNat) (dc:=(n.words.length:Int).toNat - at_.toNat) (c:=c) Tryz.underlying94 p f (ht ws) (by omega) r q
    (fU h.words (by grind[ht]) (oJ ws))
   refine⟨_,_,e,rfl,?_,hD _ _ _ _ _⟩;have:=h.write (o:=at_.toNat) (ws:=ws) (by omega) hw
   grind
  ·omega
def aO.gz (n:aO)(at_ old new:Int):aO:=if n.get at_.toNat=old then{n with words:=n.words.set at_.toNat new}else n
theorem Th {n:aO}(h:d9 w b aQ n)(at_ old new:Int)(d:0<=new)(e:new<18446744073709551616) :
  a9 139 [.pointer (some ⟨b,0,none⟩),.int .i64 at_,.int .u64 old,.int .u64 new] w λv w'=>
   v=.tuple #[.int .u64 (if n.e0 at_ 1=0 then n.get at_.toNat else 0),.int .i64 (n.e0 at_ 1)]/\d9 w' b aQ (if n.e0 at_ 1=0 then n.gz at_ old new else n)/\ao (λk=>k=aQ) w w':=by
 refine a' Tryz.func139 ?_;rw[ZA];refine aE (wE h at_ _) ?_;rintro v w1 ⟨rfl,rfl⟩;refine⟨_,rfl,dw (λa=>?_) (λa=>?_)⟩
 ·rw[aW a,aW a];exact⟨rfl,h,ao.refl _ _⟩
 ·obtain⟨b1,az,f,_⟩:=aO.sB a;rw[bm a,bm a,a];have c:0+at_.toNat*1=at_.toNat:=by omega
  refine⟨_,_,_,h.node.cell rfl,dM az (by omega) ?_⟩;rw[c];refine⟨_,h.cell (by omega),dJ (λhe=>?_) (λhe=>?_)⟩
  ·refine⟨_,_,_,h.node.cell rfl,dM az (by omega) ?_⟩;rw[c];refine⟨⟨_,h.cell (by omega)⟩,h.words.frozen,?_⟩;rintro g rfl;refine⟨rfl,?_,eY _ _ _ _⟩;rw[aO.gz,bm he];exact h.IN _ d e
  ·rw[aO.gz,aW he];exact⟨rfl,h,ao.refl _ _⟩
def aO.add (n:aO)(at_ a:Int):aO:={n with words:=n.words.set at_.toNat (IntKind.u64.wrap (n.get at_.toNat+a))}
theorem CO (x:Int):0<=IntKind.u64.wrap x/\IntKind.u64.wrap x<18446744073709551616:=by simp only[IntKind.wrap,IntKind.bits,IntKind.signed];grind
theorem Ti {n:aO}(h:d9 w b aQ n)(at_ c:Int) :
  a9 140 [.pointer (some ⟨b,0,none⟩),.int .i64 at_,.int .u64 c] w λv w'=>
   v=.tuple #[.int .u64 (if n.e0 at_ 1=0 then n.get at_.toNat else 0),.int .i64 (n.e0 at_ 1)]/\d9 w' b aQ (if n.e0 at_ 1=0 then n.add at_ c else n)/\ao (λk=>k=aQ) w w':=by
 refine a' Tryz.func140 ?_;rw[ZB];refine aE (wE h at_ _) ?_;rintro v w1 ⟨rfl,rfl⟩;refine⟨_,rfl,dw (λa=>?_) (λa=>?_)⟩
 ·rw[aW a,aW a];exact⟨rfl,h,ao.refl _ _⟩
 ·obtain⟨b1,az,e,_⟩:=aO.sB a;rw[bm a,bm a,a];have d:0+at_.toNat*1=at_.toNat:=by omega
  refine⟨_,_,_,h.node.cell rfl,dM az (by omega) ?_⟩;rw[d];refine⟨_,h.cell (by omega),_,_,_,h.node.cell rfl,dM az (by omega) ?_⟩;rw[d];refine⟨_,h.cell (by omega),dM az (by omega) ?_⟩;rw[d];refine⟨⟨_,h.cell (by omega)⟩,h.words.frozen,?_⟩;rintro f rfl;exact⟨rfl,h.IN _ (CO _).1 (CO _).2,eY _ _ _ _⟩
theorem EH (n:Nat)(v:bl):ju n [v]=List.replicate n v:=by
 induction n with
 |zero=>rfl
 |succ n a=>simp[ju,rL]at *
theorem OC (c:1<=lines)(d:lines<=256):a9 74 [.int .i64 lines] w λv w'=>
  v=.tuple #[.pointer (some ⟨w.heap.size+1,0,none⟩),.int .i64 0]/\d9 w' (w.heap.size+1) w.heap.size ⟨List.replicate (8*lines.toNat) 0,false⟩/\ai w w'/\w'.heap.size=w.heap.size+2:=by
 refine a' Tryz.func74 ?_;rw[Kt];refine a5 (λh=>by omega) (λ_=>a5 (λh=>by omega) (λ_=>?_))
 have e:IntKind.i64.wrap (lines*8)=lines*8:=bq (by omega) (by omega);rw[e];refine⟨by omega,by omega,by omega,by omega,?_⟩;rintro b1 w1 rfl rfl az f rfl rfl;have a:(lines*8).toNat=8*lines.toNat:=by omega
 rw[a,EH];have b:(w.alloc (.cells (List.replicate (8*lines.toNat) (Value.int .u64 0)).toArray 30)).heap.size=w.heap.size+1:=by simp
 refine⟨by rw[b],?_,(hn _ _).alloc _,by simp⟩;refine⟨?_,?_,by grind,by grind,?_⟩
 ·have:=pR (w.alloc (.cells (List.replicate (8*lines.toNat) (Value.int .u64 0)).toArray 30)) [.slice (some ⟨w.heap.size,0,none⟩) (8*lines.toNat) (8*lines.toNat),.bool false] 137
  grind
 ·have:=(pR w (List.replicate (8*lines.toNat) (Value.int .u64 0)) 30).alloc (.cells #[.slice (some ⟨w.heap.size,0,none⟩) (8*lines.toNat) (8*lines.toNat),.bool false] 137);simpa[us]using this
 grind
end
section
def aI.last (v:aI):Int:=if v.Kind=1 then 3 else 2
theorem zF (w:aj)(v:aI):a9 133 [v.val] w λx w'=>x=.int .i64 v.last/\ai w w':=by refine a' Tryz.func133 ?_;refine Eq.mpr (J_ v.Kind v.Node v.cI v.N v.Old v.ai v.Words v.dd v.c0 v.Key v.cB w _) ?_;rintro b1 w1 rfl rfl;have c:=oY w v;have b:=hn w (.cells v.cells.toArray cK);refine⟨_,c.cell rfl,dJ (λa=>⟨?_,b⟩) (λa=>⟨?_,b⟩)⟩<;>simp[aI.last,a]
def aI.iK (v:aI):Int:=if v.Kind=1 then v.N else if v.Kind=3\/v.Kind=4 then 1 else 0
theorem MC (w:aj)(v:aI):a9 233 [v.val] w λx w'=>x=.int .i64 v.iK/\ai w w':=by
 refine a' Tryz.func233 ?_;refine Eq.mpr (Ki v.Kind v.Node v.cI v.N v.Old v.ai v.Words v.dd v.c0 v.Key v.cB w _) ?_;rintro b1 w1 rfl rfl;have c:=oY w v;have a:=hn w (.cells v.cells.toArray cK);refine⟨_,c.cell rfl,dJ (λd=>⟨_,c.cell rfl,?_,a⟩) (λd=>dJ (λb=>dJ (λ_=>⟨?_,a⟩) (λh=>b_ b h)) (λb=>dJ (λe=>⟨?_,a⟩) (λe=>⟨?_,a⟩)))⟩
 ·grind[aI.iK]
 ·grind[aI.iK]
 ·grind[aI.iK]
 grind[aI.iK]
def aI.e7 (v:aI):Int:=v.cI / 8
def aI.hb (v:aI):Int:=(v.cI+v.count-1) / 8
theorem F4 (w:aj)(v:aI)(c:0<=v.cI)(e:v.cI<=1000000)(f:1<=v.count)(g:v.count<=1000000) :
  a9 132 [v.val] w λx w'=>x=.tuple #[.int .i64 v.e7,.int .i64 v.hb]/\ai w w':=by
 refine a' Tryz.func132 ?_;refine Eq.mpr (Fr v.Kind v.Node v.cI v.N v.Old v.ai v.Words v.dd v.c0 v.Key v.cB w _) ?_;rintro b1 w1 rfl rfl h rfl;have a:aq (w.alloc (.cells v.cells.toArray cK)).drew w.heap.size v.cells cK:=oY w v;have d:Go.bd.ai w (w.alloc (.cells v.cells.toArray cK)).drew:=(hn w (.cells v.cells.toArray cK)).drew;refine⟨λu=>Go.bd.ai (w.alloc (.cells v.cells.toArray cK)).drew u,ao.refl _ _,_,λu hu=>(ai.ak hu a).cell rfl,_,λu hu=>(ai.ak hu a).cell rfl,mV (λu hu=>g8 (ai.ak hu a)) ?_⟩;refine aE (wR _ v) ?_;rintro x i ⟨rfl,b⟩;refine⟨_,rfl,b,?_,d.new b⟩;rw[bq (x:=v.cI+v.count) (by omega) (by omega),bq (x:=v.cI+v.count-1) (by omega) (by omega),zi c,zi (by omega),bq (by omega) (by omega),bq (by omega) (by omega)];rfl
def aI.inside (v:aI)(nodes lines:Int):Bool:=
 decide (1<=nodes/\nodes<=5/\1<=lines/\lines<=256/\0<=v.Node/\v.Node<nodes/\0<=v.cI/\v.cI<lines*8/\v.count<=1024/\v.hb<lines/\v.hb-v.e7<128)
theorem OD (w:aj)(v:aI)(nodes lines:Int)(q:1<=v.count):a9 131 [v.val,.int .i64 nodes,.int .i64 lines] w λx w'=>x=.bool (v.inside nodes lines)/\ai w w':=by
 refine a' Tryz.func131 ?_;refine Eq.mpr (Kv v.Kind v.Node v.cI v.N v.Old v.ai v.Words v.dd v.c0 v.Key v.cB nodes lines w _) ?_;rintro b1 w1 rfl rfl;have b:=oY w v;have a:=hn w (.cells v.cells.toArray cK);have no:∀ {w'},Go.bd.ai w w'->¬ (1<=nodes/\nodes<=5/\1<=lines/\lines<=256/\0<=v.Node/\v.Node<nodes/\0<=v.cI/\v.cI<lines * 8/\v.count<=1024/\v.hb<lines/\v.hb - v.e7<128)->
   (Value.bool false=.bool (v.inside nodes lines)/\Go.bd.ai w w'):=λc h=>⟨by simp only[aI.inside,decide_eq_false h],c⟩
 refine a5 (λe=>no a (by omega)) (λe=>a5 (λf=>no a (by omega)) (λf=>a5 (λg=>no a (by omega)) (λg=>a5 (λi=>no a (by omega)) (λi=>
  ⟨_,b.cell rfl,a5 (λj=>no a (by omega)) (λj=>⟨_,b.cell rfl,a5 (λk=>no a (by omega)) (λk=>⟨_,b.cell rfl,a5 (λl=>no a (by omega)) (λl=>⟨_,b.cell rfl,?_⟩)⟩)⟩)⟩))))
 rw[bq (x:=lines*8) (by omega) (by omega)];refine a5 (λn=>no a (by omega)) (λn=>i' (g8 b) ?_);refine aE (wR _ v) ?_;rintro x t ⟨rfl,c⟩;refine⟨_,rfl,a5 (λo=>no (a.new c) (by omega)) (λo=>i' (g8 (ai.ak c b)) ?_)⟩;refine aE (F4 _ v (by omega) (by omega) q (by omega)) ?_;rintro x u ⟨rfl,d⟩;have s:v.e7=v.cI / 8:=rfl;have r:v.hb=(v.cI+v.count-1) / 8:=rfl;refine⟨_,_,rfl,a5 (λp=>⟨?_,(a.new c).new d⟩) (λp=>no ((a.new c).new d) (by omega))⟩;rw[bq (x:=v.hb-v.e7) (by omega) (by omega)];congr 1;unfold aI.inside
 grind
def aI.valid (v:aI)(nodes lines:Int):Int:=
 if v.count<1 then 1 else if v.inside nodes lines=false then 2 else if v.e7<=v.last/\v.last<v.hb then 2 else 0
theorem pI {v:aI}{nodes:Int}(h:v.inside nodes lines=true):1<=nodes/\nodes<=5/\1<=lines/\lines<=256/\0<=v.Node/\v.Node<nodes/\0<=v.cI/\v.cI<lines*8/\v.count<=1024/\v.hb<lines/\v.hb-v.e7<128:=qa h
theorem AA (w:aj)(v:aI)(nodes lines:Int):a9 94 [v.val,.int .i64 nodes,.int .i64 lines] w λx w'=>x=.int .i64 (v.valid nodes lines)/\ai w w':=by
 refine a' Tryz.func94 ?_;refine Eq.mpr (KP v.Kind v.Node v.cI v.N v.Old v.ai v.Words v.dd v.c0 v.Key v.cB nodes lines w _) ?_;rintro b1 w1 rfl rfl;have o:=oY w v;have t:=hn w (.cells v.cells.toArray cK);refine i' (g8 o) ?_;refine aE (wR _ v) ?_;rintro x y ⟨rfl,p⟩;have b:=ai.ak p o;have i:=t.new p;refine⟨_,rfl,a5 (λq=>⟨by grind[aI.valid],i⟩) (λq=>i' (g8 b) ?_)⟩;refine aE (OD _ v nodes lines (by omega)) ?_;rintro x z ⟨rfl,e⟩;have c:=ai.ak e b;have j:=i.new e;refine⟨_,rfl,eu (λn=>⟨by grind[aI.valid],j⟩) (λn=>i' (g8 c) ?_)⟩;have u:=pI n;refine aE (F4 _ v (by omega) (by omega) (by omega) (by omega)) ?_;rintro x A ⟨rfl,f⟩;have d:=ai.ak f c;have l:=j.new f;refine⟨_,_,rfl,i' (g8 d) ?_⟩;refine aE (zF _ v) ?_;rintro x B ⟨rfl,g⟩;have k:=ai.ak g d;have a:=l.new g;refine⟨_,rfl,a5 (λr=>i' (g8 k) ?_) (λr=>⟨?_,a⟩)⟩
 ·refine aE (zF _ v) ?_;rintro x C ⟨rfl,h⟩;refine⟨_,rfl,a5 (λs=>⟨?_,a.new h⟩) (λs=>⟨?_,a.new h⟩)⟩
  ·grind[aI.valid]
  grind[aI.valid]
 grind[aI.valid]
def aI.cls (v:aI):Int:=if v.e7<=v.last then 1 else 2
theorem PF (w:aj)(v:aI)(e:0<=v.cI)(f:v.cI<=1000000):a9 185 [v.val] w λx w'=>x=.int .i64 v.cls/\ai w w':=by
 refine a' Tryz.func185 ?_;refine Eq.mpr (KS v.Kind v.Node v.cI v.N v.Old v.ai v.Words v.dd v.c0 v.Key v.cB w _) ?_;rintro b1 w1 rfl rfl g rfl;have b:aq (w.alloc (.cells v.cells.toArray cK)).drew w.heap.size v.cells cK:=oY w v;have d:Go.bd.ai w (w.alloc (.cells v.cells.toArray cK)).drew:=(hn w (.cells v.cells.toArray cK)).drew;refine⟨λu=>Go.bd.ai (w.alloc (.cells v.cells.toArray cK)).drew u,ao.refl _ _,_,λu hu=>(ai.ak hu b).cell rfl,mV (λu hu=>g8 (ai.ak hu b)) ?_⟩;refine aE (zF _ v) ?_;rintro x i ⟨rfl,a⟩;refine⟨_,rfl,a,?_⟩;rw[zi e,bq (by omega) (by omega)];have c:v.e7=v.cI / 8:=rfl;refine a5 (λh=>⟨?_,d.new a⟩) (λh=>⟨?_,d.new a⟩)
 ·rw[aI.cls,c,bm h]
 ·rw[aI.cls,c,aW h]
def aI.check (v:aI)(inc b key a:Int):Int:=
 if v.cls=1/\v.Kind=1 then 0 else if inc<0\/inc<b then 5 else if v.cls=1 then 0 else if v.cB<0\/v.cB≠a\/v.Key≠key then 5 else 0
theorem PG (w:aj)(v:aI)(inc c key b:Int)(k:0<=v.cI)(l:v.cI<=1000000)(r:inc<=1000000)(n:v.cB<9223372036854775808) :
  a9 136 [v.val,.int .i64 inc,.int .u64 c,.int .u64 key,.int .u64 b] w λx w'=>x=.int .i64 (v.check inc c key b)/\ai w w':=by
 refine a' Tryz.func136 ?_;refine Eq.mpr (KQ v.Kind v.Node v.cI v.N v.Old v.ai v.Words v.dd v.c0 v.Key v.cB inc c key b w _) ?_;rintro b1 w1 rfl rfl;have g:=oY w v;have o:=hn w (.cells v.cells.toArray cK);refine i' (g8 g) ?_;refine aE (PF _ v k l) ?_;rintro x s ⟨rfl,j⟩;have d:=ai.ak j g;have a:=o.new j;refine⟨_,rfl,dJ (λi=>?_) (λi=>?_)⟩
 ·refine⟨_,d.cell rfl,dJ (λe=>⟨by grind[aI.check],a⟩) (λe=>a5 (λf=>⟨by grind[aI.check],a⟩) (λf=>?_))⟩
  rw[jx (x:=inc) (by omega) (by omega)]
  grind[aI.check]
 ·refine a5 (λf=>⟨by grind[aI.check],a⟩) (λf=>?_)
  rw[jx (x:=inc) (by omega) (by omega)];refine a5 (λq=>⟨by grind[aI.check],a⟩) (λq=>dJ (λh=>b_ h i) (λ_=>⟨_,d.cell rfl,a5 (λax=>⟨by grind[aI.check],a⟩) (λax=>⟨_,d.cell rfl,?_⟩)⟩));dsimp only;rw[jx (x:=v.cB) (by omega) (by omega)];refine dw (λhu=>⟨by grind[aI.check],a⟩) (λhu=>⟨_,d.cell rfl,dw (λp=>⟨by grind[aI.check],a⟩) (λp=>⟨?_,a⟩)⟩)
  grind[aI.check]
abbrev iT:bU:=131
def fits (v:aI)(d:bR):Bool:=
 if d.Code=0 then decide ((d.dd:Int)=v.iK)else if d.Code=4\/d.Code=5 then decide (d.dd=0)else false
theorem RT (w:aj)(v:aI)(d:bR):a9 192 [v.val,d.val] w λx w'=>x=.bool (fits v d)/\ai w w':=by
 refine a' Tryz.func192 ?_;refine Eq.mpr (K8 v.Kind v.Node v.cI v.N v.Old v.ai v.Words v.dd v.c0 v.Key v.cB d.Code d.Words d.dd d.c0 w _) ?_;rintro b1 w1 rfl rfl az k rfl rfl;have i:=(oY w v).alloc (.cells d.cells.toArray iT);have a:=pR (w.alloc (.cells v.cells.toArray cK)) d.cells iT;have b:=(hn w (.cells v.cells.toArray cK)).alloc (.cells d.cells.toArray iT);have j:∀ x:Nat,(((x:Nat):Int) == 0)=decide (x=0):=λx=>by
  grind
 refine⟨_,a.cell rfl,dJ (λc=>?_) (λc=>dJ (λe=>dJ (λ_=>⟨_,_,_,a.cell rfl,?_,b⟩) (λh=>b_ e h)) (λe=>dJ (λg=>⟨_,_,_,a.cell rfl,?_,b⟩) (λg=>⟨?_,b⟩)))⟩
 ·rintro l rfl;refine⟨λu=>Go.bd.ai ((w.alloc (.cells v.cells.toArray cK)).alloc (.cells d.cells.toArray iT)).drew u,ao.refl _ _,_,_,_,λu hu=>(ai.ak hu a).cell rfl,mV (λu hu=>g8 (ai.ak hu i)) ?_⟩;refine aE (MC _ v) ?_;rintro x n ⟨rfl,f⟩;refine⟨_,rfl,f,?_,b.drew.new f⟩;rw[fits,bm c];rfl
 ·grind[fits]
 ·grind[fits]
 grind[fits]
def dQ (vs:List aI):List au:=vs.map aI.cells
def fL (ds:List bR):List au:=ds.map bR.cells
theorem vK (vs:List aI):∀ r ∈ dQ vs,r.length=9:=by intro r a;simp only[dQ,dD]at a;obtain⟨v,_,rfl⟩:=a;rfl
theorem zc (ds:List bR):∀ r ∈ fL ds,r.length=2:=by intro r a;simp only[fL,dD]at a;obtain⟨v,_,rfl⟩:=a;rfl
theorem zW {vs:List aI}{v:aI}(h:vs[i]?=some v):(dQ vs)[i]?=some v.cells:=by grind[dQ]
theorem DD {ds:List bR}{d:bR}(h:ds[i]?=some d):(fL ds)[i]?=some d.cells:=by grind[fL]
def ql (vs:List aI)(ds:List bR):Bool:=decide (vs.length=ds.length) && (vs.zip ds).all λp=>fits p.1 p.2
theorem Tj {b:an}{B a0:Nat}{vs:List aI}{ds:List bR}(G:bh w a (dQ vs).flatten)(C:bh w b (fL ds).flatten)(O:vs.length<=1000000)(K:ds.length<=1000000000) :
  a9 149 [.slice a vs.length B,.slice b ds.length a0] w λx w'=>x=.bool (ql vs ds)/\ai w w':=by
 refine a' Tryz.func149 ?_;rw[Lx];refine dw (λh=>⟨?_,ao.refl _ _⟩) (λh=>?_)
 ·grind[ql]
 have hlen:vs.length=ds.length:=by omega
 refine cP mix (λm env u=>∃ (i:Nat) (j:au),i<=vs.length/\m=vs.length-i/\env=yR b ds.length a0 a vs.length B vs.length i j/\ai w u/\(∀ k,k<i->∀ v d,vs[k]?=some v->ds[k]?=some d->fits v d=true)) vs.length
  ⟨0,_,by omega,by omega,rfl,ao.refl _ _,λk g=>by omega⟩ ?_
 rintro m env u ⟨i,j,N,rfl,rfl,g,e⟩;rw[ZC];refine a5 (λy=>?_) (λy=>?_)
 ·have E:i<vs.length:=by omega
  have ar:vs[i]?=some vs[i]:=by grind
  have D:ds[i]?=some ds[i]:=by grind
  obtain⟨L,Q,rfl,H,s⟩:=(G.new g).row (vK vs) (by omega) (zW ar);obtain⟨M,R,rfl,_,_⟩:=(C.new g).row (zc ds) (by omega) (DD D);refine dM (by omega) (by omega) ?_;refine i' (v:=vs[i]) (by grind) ?_;rintro b1 w1 q o;obtain⟨ax,n⟩:=bo q o;refine⟨fU (vs:=aI.cells vs[i]) ax (by simp[aI.cells]) (aI.single vs[i]),?_⟩;rintro F p S rfl;obtain⟨f,A⟩:=oV (vs:=aI.cells vs[i]) ax (by simp[aI.cells]) n (by omega) p;clear o p ax n;have c:Go.bd.ai w F.drew:=(ao.new g A).drew;refine⟨λz=>Go.bd.ai F.drew z,ao.refl _ _,mV (v:=vs[i]) (λz ax=>g8 (ai.ak ax f)) ?_⟩;refine dM (by omega) (by omega) ?_;refine⟨ds[i].Code,ds[i].Words,ds[i].dd,ds[i].c0,λz ax=>?_,?_⟩
  ·obtain⟨b',P,he,r,_⟩:=(C.new (ao.new c ax)).row (zc ds) (by omega) (DD D);simp only[hA,Addr.mk.injEq,and_true]at he;rw[he.1,he.2];exact r
  refine aE (RT _ vs[i] ds[i]) ?_;rintro x T ⟨rfl,l⟩;refine⟨_,rfl,eu (λI=>?_) (λI=>?_)⟩
  ·refine⟨?_,ao.new c l⟩;congr 1;symm;unfold ql;rw[Bool.and_eq_false_iff];refine .inr ?_;rw[List.all_eq_false];exact⟨(vs[i],ds[i]),cu (i:=i) (by grind),by grind⟩
  ·rw[show IntKind.i64.wrap ((i:Int)+1)=((i+1:Nat):Int) by rw[bq (by omega) (by omega)];rfl];refine⟨vs.length-(i+1),by omega,i+1,_,by omega,rfl,rfl,ao.new c l,?_⟩
   grind
 ·have J:i=vs.length:=by omega
  rw[JV];refine⟨?_,g⟩;congr 1;symm;unfold ql;rw[fP];refine⟨by grind,?_⟩;rw[iz];rintro⟨v,d⟩ hm;obtain⟨k,t,he⟩:=List.mem_iff_getElem.1 hm;simp only[List.length_zip]at t;simp only[List.getElem_zip,Prod.mk.injEq]at he;exact e k (by omega) v d (by grind) (by grind)
end
end Go.Proofs.YtmkljjbioomepaaGreat
