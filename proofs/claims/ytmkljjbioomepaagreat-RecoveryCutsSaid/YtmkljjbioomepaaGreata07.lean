import Derived.Test.YtmkljjbioomepaaGreatProg
import Derived.Test.YtmkljjbioomepaaGreata03
import Derived.Test.YtmkljjbioomepaaGreata02
import Derived.Test.YtmkljjbioomepaaGreata06
set_option linter.all false
namespace Go.Proofs.YtmkljjbioomepaaGreat
open Go.Proofs.Tryz Go.b8
variable {a:ax} {at_ count:Int} {b a4 c n:Nat} {e t ty:TypeId} {i:TypeInfo} {w w':av} {xs:aH}
section
open IntKind
variable (w:av) (R:dW) {a b c d e f:Nat} {i k l m n:Int} {A:bh} {s t u:ax} {j:aB}
def Gr (cJ:bh) (eV a:ax) (b c:Nat) (d f:Int) (j:aB):aB:=.pointer (some cJ)::ag j 0 4 (.pointer eV::ag j 4 12 (ad a b c::I d::I f::ag j 16 31 []))
def Vj (eV:ax) (j:aB):aB:=ag j 0 5 (.pointer eV::ag j 5 46 [])
theorem ayF:bS prog f22 [bM a,I i] R w=(fu 43 #[bM a,I i] w λe j=>cond (!e) (R (U false) j) (wL 44 #[bM a,I i] j λb h=>jg b λg=>de h (cX g 2) λc d f=>dT prog (e0 f22 [1,1,1,0,1,0,0]) (Gr (ae a 0) b c d f (d:Nat) 0 (I i::bQ 2 (U false::bQ 2 (jp (ae a 0)::I i::U e::U (!e)::jp (ae a 0)::I i::.pointer b::.pointer b::jp g::cz g 2::bQ 31 [])))) (a8 0 (ba f22 [1,1,1,1] R)) h)):=by kernel_rfl
theorem avT (x:aB->aV):W prog (sb f22 [1,1,1,0,1,0,0]) (Gr A s t a b i k j) (bk x (a8 0 (ba f22 [1,1,1,1] R))) w=(cond (k<i) (cb t a k 2 λy=>afb w y λg h d v=>bb w #[.pointer none,bC] 105 λe G=>bJ G (ae e 0) 0 [.pointer g,ad h d v] λB=>wN B (ae e 0) λl=>dI 45 #[.pointer l] B λm E=>cond (m>0) (dP E λF u=>iE u (cX A 3) λn o p=>HD u (ae e 0) λq=>bb F #[.pointer q] 103 λC D=>u D/\fk 106 (ad n o p) (ad (b7 C) 1 1) D λf r c z=>u z/\ev z (cX A 3) (ad f r c) λH=>x (Gr A s t a b i (i64.wrap (k+1)) (ag j 0 5 (jp (ae e 0)::ag j 6 10 (U (k<i)::jp y::.agg #[.pointer g,ad h d v]::jp (ae e 0)::.pointer l::I m::U (m>0)::jp A::jp A::jp A::cz A 3::ad n o p::jp (ae e 0)::.pointer q::ad (b7 C) 1 1::ad f r c::jp A::cz A 3::I (i64.wrap (k+1))::ag j 35 12 [])))) H) (x (Gr A s t a b i (i64.wrap (k+1)) (ag j 0 5 (jp (ae e 0)::ag j 6 10 (U (k<i)::jp y::.agg #[.pointer g,ad h d v]::jp (ae e 0)::.pointer l::I m::U (m>0)::ag j 23 11 (I (i64.wrap (k+1))::ag j 35 12 []))))) E)) (W prog (sb f22 [1,1,1,1]) (Vj s (jp A::ag j 0 16 (ad t a b::I i::I k::U (k<i)::ag j 17 30 []))) (c3 f22 R) w)):=by kernel_rfl
theorem aw':W prog (sb f22 [1,1,1,1]) (Vj s j) (c3 f22 R) w=(jg s λa=>ev w a (U false) λh=>jg s λb=>ev h (cX b 2) (bC) λf=>jg s λc=>ev f (cX c 3) (bC) λg=>jg s λd=>ev g (cX d 4) (I 0) λe=>R (U true) e):=by kernel_rfl
def NX (cJ:bh) (dm:ax) (a b:Nat) (c:ax) (d f:Nat) (g h:Int) (j:aB):aB:=.pointer (some cJ)::ag j 0 2 (ad dm a b::ag j 2 9 (ad c d f::I g::I h::ag j 11 45 []))
def ad6 (a:bh) (dm:ax) (b c:Nat) (j:aB):aB:=.pointer (some a)::ag j 0 2 (ad dm b c::ag j 2 57 [])
def Jl (cJ:bh) (dm:ax) (a b:Nat) (dS:Int) (c:ax) (d f:Nat) (g h:Int) (i:ax) (k l:Nat) (m n:Int) (j:aB):aB:=.pointer (some cJ)::ag j 0 2 (ad dm a b::I dS::ag j 2 8 (ad c d f::I g::I h::ag j 10 5 (ad i k l::I m::I n::ag j 15 37 [])))
def ad7 (a:bh) (dm:ax) (b c:Nat) (d:ax) (f g:Nat) (h i:Int) (j:aB):aB:=.pointer (some a)::ag j 0 2 (ad dm b c::ag j 2 9 (ad d f g::I h::I i::ag j 11 45 []))
def NY (dm:ax) (a b:Nat) (c:ax) (d f:Nat) (g h:Int) (j:aB):aB:=ag j 0 3 (ad dm a b::ag j 3 39 (ad c d f::I g::I h::ag j 42 15 []))
def ad8 (dm:ax) (a b:Nat) (j:aB):aB:=ag j 0 3 (ad dm a b::ag j 3 57 [])
theorem axl:bS prog f36 [bM a] R w=(de w (ae a 2) λd b c=>dT prog (e0 f36 [1,1,0,1,0,0]) (NX (ae a 0) none 0 0 d b c (b:Nat) 0 (undef::bC::bQ 6 (jp (ae a 0)::jp (ae a 0)::jp (ae a 2)::bQ 45 []))) (a8 0 (ba f36 [1,1,1] R)) w):=by kernel_rfl
theorem avk (z:aB->aV):W prog (sb f36 [1,1,0,1,0,0]) (NX A s a b t c d i k j) (bk z (a8 0 (ba f36 [1,1,1] R))) w=(cond (k<i) (cb t c k 7 λC=>axy w C λf u l m n o p q r e g=>bb w #[U false,I 0,bC,bC,I 0,I 0,I 0] 102 λh D=>bJ D (ae h 0) 0 [U f,I u,ad l m n,ad o p q,I r,I e,I g] λB=>de B (ae h 2) λv x y=>dT prog (e0 f36 [1,1,0,1,0,0,1,1,0,0,1,1,0,0]) (Jl A s a b k t c d i k v x y (x:Nat) 0 (aW j 0::aW j 1::jp (ae h 0)::ag j 4 7 (U (k<i)::I k::jp C::.agg #[U f,I u,ad l m n,ad o p q,I r,I e,I g]::jp (ae h 2)::ag j 19 37 []))) (a8 2 (a8 1 (bk (λE w=>W prog (sb f36 [1,1,0,1,0,0,1,1,1]) E (bk z (a8 0 (ba f36 [1,1,1] R))) w) (bk z (a8 0 (ba f36 [1,1,1] R)))))) B) (W prog (sb f36 [1,1,1]) (ad6 A s a b (ag j 0 11 (ad t c d::I i::I k::U (k<i)::ag j 12 44 []))) (c3 f36 R) w)):=by kernel_rfl
theorem avA:W prog (sb f36 [1,1,1]) (ad6 A s a b j) (c3 f36 R) w=(de w (cX A 3) λd f g=>dT prog (e0 f36 [1,1,1,0,1,0,0]) (NY s a b d f g (f:Nat) 0 (jp A::ag j 0 38 (jp A::jp A::cz A 3::ag j 44 15 []))) (a8 4 (ba f36 [1,1,1,1] R)) w):=by kernel_rfl
theorem avl (B:aB->aV) (C:aB->aV):W prog (sb f36 [1,1,0,1,0,0,1,1,0,0,1,1,0,0]) (Jl A s a b i t c d k l u e f m n j) (bk C (a8 2 (a8 1 (bk (λbG w=>W prog (sb f36 [1,1,0,1,0,0,1,1,1]) bG (bk B (a8 0 (ba f36 [1,1,1] R))) w) (bk B (a8 0 (ba f36 [1,1,1] R))))))) w=(cond (n<m) (cb u e n 2 λD=>afb w D λo p q r=>bb w #[.pointer none,bC] 105 λz bF=>bJ bF (ae z 0) 0 [.pointer o,ad p q r] λE=>wN E (ae z 0) λg=>dI 45 #[.pointer g] E λh G=>cond (h>0) (bb G #[I (-1),I i,I n] 89 λF H=>fk 85 (ad s a b) (ad (b7 F) 1 1) H λy v x K=>C (Jl A y v x i t c d k l u e f m (i64.wrap (n+1)) (aW j 0::aW j 1::aW j 2::I n::jp (ae z 0)::ag j 5 10 (U (n<m)::I n::jp D::.agg #[.pointer o,ad p q r]::jp (ae z 0)::.pointer g::I h::U (h>0)::ad s a b::I i::I n::.agg #[I (-1),I i,I n]::ad (b7 F) 1 1::ad y v x::I (i64.wrap (n+1))::ag j 30 22 []))) K) (C (Jl A s a b i t c d k l u e f m (i64.wrap (n+1)) (aW j 0::aW j 1::aW j 2::I n::jp (ae z 0)::ag j 5 10 (U (n<m)::I n::jp D::.agg #[.pointer o,ad p q r]::jp (ae z 0)::.pointer g::I h::U (h>0)::ag j 23 6 (I (i64.wrap (n+1))::ag j 30 22 [])))) G)) (W prog (sb f36 [1,1,0,1,0,0,1,1,1]) (ad7 A s a b t c d k l (aW j 0::aW j 1::I i::ag j 2 13 (ad u e f::I m::I n::U (n<m)::ag j 16 36 []))) (bk B (a8 0 (ba f36 [1,1,1] R))) w)):=by kernel_rfl
theorem avB (e:aB->aV):W prog (sb f36 [1,1,0,1,0,0,1,1,1]) (ad7 A s a b t c d i k j) (bk e (a8 0 (ba f36 [1,1,1] R))) w=(e (NX A s a b t c d i (i64.wrap (k+1)) (ag j 0 34 (I (i64.wrap (k+1))::ag j 35 21 []))) w):=by kernel_rfl
theorem avm (n:aB->aV):W prog (sb f36 [1,1,1,0,1,0,0]) (NY s a b t c d i k j) (bk n (a8 4 (ba f36 [1,1,1,1] R))) w=(cond (k<i) (cb t c k 1 λh=>wN w h λx=>dI 67 #[.pointer x] w λe u=>dI 68 #[.pointer x] u λg q=>bb q #[I k,I e,I g] 89 λo r=>fk 85 (ad s a b) (ad (b7 o) 1 1) r λf l m p=>n (NY f l m t c d i (i64.wrap (k+1)) (ag j 0 7 (I k::.pointer x::ag j 9 33 [U (k<i),I k,jp h,.pointer x,ad s a b,I k,.pointer x,I e,.pointer x,I g,.agg #[I k,I e,I g],ad (b7 o) 1 1,ad f l m,I (i64.wrap (k+1)),aW j 56]))) p) (W prog (sb f36 [1,1,1,1]) (ad8 s a b (ag j 0 42 (ad t c d::I i::I k::U (k<i)::ag j 43 14 []))) (c3 f36 R) w)):=by kernel_rfl
theorem avC:W prog (sb f36 [1,1,1,1]) (ad8 s a b j) (c3 f36 R) w=(R (ad s a b) w):=by kernel_rfl
theorem ayl (hV:Nat) (a b c:Int) (w:av) (R:dW):bS prog f37 [bM hV,.agg #[I a,I b,I c]] R w=(bb w #[I a,I b,I c] 89 λb1 w1=>cQ w1 (ae b1 0) λd=>cond (d>=0) (cQ w1 (ae b1 0) λf=>fu 69 #[bM hV,I f] w1 λg aS=>R (U g) aS) (cQ w1 (ae b1 0) λh=>cond (h<(-1)) (R (U false) w1) (cQ w1 (ae b1 1) λi=>wL 44 #[bM hV,I i] w1 λk aY=>dP aY λbZ hb=>cond (Option.isNone k) (R (U false) bZ) (eG hb (ae b1 2) λl=>cond (l<0) (R (U false) bZ) (eG hb (ae b1 2) λm=>jg k λvG=>iE hb (cX vG 2) λn o p=>cond (m>=(o:Nat)) (R (U false) bZ) (jg k λao2=>iE hb (cX ao2 2) λq r s=>eG hb (ae b1 2) λt=>cb q r t 2 λch=>HD hb ch λv=>dI 45 #[.pointer v] bZ λy cK=>hb cK/\cond (y == 0) (R (U false) cK) (dP cK λdh o8=>jg k λbv=>iE o8 (cX bv 2) λz aa oC=>eG o8 (ae b1 2) λac=>cb z aa ac 2 λa4=>dP dh λcR Bj=>HD Bj a4 λnF=>iE Bj (ae hV 1) λoD k8 s7=>eG Bj (ae b1 2) λrU=>cb oD k8 rU 1 λGj=>HD Bj Gj λx=>(VL 70 #[.pointer nF,.pointer x] cR λrV rW fi am vB e6=>Bj e6/\bb e6 #[I 0,bC] 131 λaP hD=>Bj hD/\bJ hD (ae aP 0) 0 [I rV,ad rW fi am] λaaV=>cond vB (dP aaV λs9 x1=>jg k λec=>iE x1 (cX ec 3) λvC ap Ge=>iE x1 (cX a4 1) λDs Du Nu=>cb Ds Du 0 1 λjB=>eG x1 jB λee=>VG x1 (ae aP 0) λI8 I9 I_ I'=>cb vC ap ee 2 λfJ=>bJ s9 fJ 0 [I I8,ad I9 I_ I'] λkz=>de kz (cX a4 1) λDq dr c2=>ns Dq dr c2 1 (dr:Nat) (c2:Nat) 1 λqc L2 L1=>hJ 71 #[ad qc L2 L1] kz λeA hE jU x5=>ev x5 (cX a4 1) (ad eA hE jU) λnG=>jg k λmX=>cQ nG (cX mX 4) λrT=>jg k λbo=>ev nG (cX bo 4) (I (i64.wrap (rT - 1))) λcc=>R (U true) cc) (R (U true) aaV))/\bb cR #[I 0,bC] 131 λbT SB=>Bj SB/\VL 70 #[.pointer nF,.pointer x] SB λvz x4 Bp lP fD ce=>Bj ce/\bJ ce (ae bT 0) 0 [I vz,ad x4 Bp lP] λx9=>cond fD (dP x9 λao5 Np=>jg k λaaY=>iE Np (cX aaY 3) λiZ hF be=>iE Np (cX a4 1) λGh Sw aaT=>cb Gh Sw 0 1 λci=>eG Np ci λe_=>VG Np (ae bT 0) λbi Sx Dy qj=>cb iZ hF e_ 2 λlp=>bJ ao5 lp 0 [I bi,ad Sx Dy qj] λgq=>de gq (cX a4 1) λDz Nx aaU=>ns Dz Nx aaU 1 (Nx:Nat) (aaU:Nat) 1 λfE ao6 ao7=>hJ 71 #[ad fE ao6 ao7] gq λqk ao0 ao1 co=>ev co (cX a4 1) (ad qk ao0 ao1) λaa0=>jg k λao9=>cQ aa0 (cX ao9 4) λmD=>jg k λao_=>ev aa0 (cX ao_ 4) (I (i64.wrap (mD - 1))) λcs=>R (U true) cs) (R (U true) x9)))))))):=by kernel_rfl
theorem axQ:bS prog f38 [bM a] R w=(de w (ae a 1) λd b c=>R (I (b:Nat)) w):=by kernel_rfl
theorem aym:bS prog f39 [bM a,I i] R w=(cond (i<0) (R (.pointer none) w) (de w (ae a 1) λe b c=>cond (i>=(b:Nat)) (R (.pointer none) w) (de w (ae a 1) λd f g=>cb d f i 1 λh=>wN w h λx=>R (.pointer x) w))):=by kernel_rfl
theorem axR:bS prog f43 [bM a,I i] R w=(wL 44 #[bM a,I i] w λd e=>cond (!(Option.isNone d)) (jg d λc=>p4 e c λb=>R (U b) e) (R (U false) e)):=by kernel_rfl
theorem aee:bS prog f44 [bM a,I i] R w=(cond (i<0) (R (.pointer none) w) (de w (ae a 2) λe b c=>cond (i>=(b:Nat)) (R (.pointer none) w) (de w (ae a 2) λd f g=>cb d f i 7 λh=>R (.pointer (some h)) w))):=by kernel_rfl
def PR (s2:Int) (s8:bh) (a b:Int) (j:aB):aB:=ag j 0 2 (I s2::ag j 2 5 (.pointer (some s8)::ag j 7 30 (I a::I b::ag j 37 33 [])))
def afu (a:bh) (j:aB):aB:=ag j 0 8 (.pointer (some a)::ag j 8 65 [])
def PS (s8:bh) (a b:Int) (j:aB):aB:=ag j 0 8 (.pointer (some s8)::ag j 8 56 (I a::I b::ag j 64 7 []))
def afv (a:bh) (j:aB):aB:=ag j 0 8 (.pointer (some a)::ag j 8 65 [])
theorem ag7:bS prog f46 [I i,I k,I l] R w=(cond (i<1) (R (.tuple #[.pointer none,I 1]) w) (cond (i>5) (R (.tuple #[.pointer none,I 1]) w) (cond (k<1) (R (.tuple #[.pointer none,I 1]) w) (cond (k>6) (R (.tuple #[.pointer none,I 1]) w) (cond (l<1) (R (.tuple #[.pointer none,I 2]) w) (cond (l>256) (R (.tuple #[.pointer none,I 2]) w) (EI k k 88 (.cells (p8 (Int.toNat k) [U false,I 0,bC,bC,I 0,I 0,I 0]).toArray 102) w λa d=>bb d #[I l,bC,ad (b7 a) (Int.toNat k) (Int.toNat k),bC] 110 λb c=>dT prog (e0 f46 [1,1,1,0,1,0,0]) (PR l (ae b 0) i 0 (I i::I k::bQ 3 (.pointer none::I 0::bQ 3 (U (k>6)::I i::U (i<1)::U false::I i::U (i>5)::U (i>5)::U false::I k::U (k<1)::U (k<1)::U false::I k::U (k>6)::U (k>6)::U (l>256)::I l::U (l<1)::U false::I l::U (l>256)::U (l>256)::I l::I k::ad (b7 a) (Int.toNat k) (Int.toNat k)::.agg #[I l,bC,ad (b7 a) (Int.toNat k) (Int.toNat k),bC]::jp (ae b 0)::bQ 33 [])))) (a8 1 (ba f46 [1,1,1,1] R)) c))))))):=by kernel_rfl
theorem ayn (n:aB->aV):W prog (sb f46 [1,1,1,0,1,0,0]) (PR i A k l j) (bk n (a8 1 (ba f46 [1,1,1,1] R))) w=(cond (l<k) (VH 74 #[I i] w λc d m=>cond (d != 0) (R (.tuple #[.pointer none,I d]) m) (de m (cX A 1) λf g h=>bb m #[.pointer c] 92 λo q=>fk 107 (ad f g h) (ad (b7 o) 1 1) q λe a b r=>ev r (cX A 1) (ad e a b) λp=>n (PR i A k (i64.wrap (l+1)) (ag j 0 7 (.pointer c::I d::ag j 9 28 (U (l<k)::.tuple #[.pointer c,I d]::I i::.tuple #[.pointer c,I d]::.pointer c::I d::I d::U ((d:Int) != 0)::aW j 45::jp A::jp A::jp A::cz A 1::ad f g h::.pointer c::ad (b7 o) 1 1::ad e a b::jp A::cz A 1::I (i64.wrap (l+1))::ag j 57 13 [])))) p)) (W prog (sb f46 [1,1,1,1]) (afu A (aW j 0::aW j 1::I i::ag j 2 35 (I k::I l::U (l<k)::ag j 38 32 []))) (c3 f46 R) w)):=by kernel_rfl
theorem ay':W prog (sb f46 [1,1,1,1]) (afu A j) (c3 f46 R) w=(de w (cX A 2) λb c d=>dT prog (e0 f46 [1,1,1,1,0,1,0,0]) (PS A (c:Nat) 0 (ag j 0 60 (jp A::jp A::cz A 2::ad b c d::ag j 66 7 []))) (a8 3 (ba f46 [1,1,1,1,1] R)) w):=by kernel_rfl
theorem ayo (a:aB->aV):W prog (sb f46 [1,1,1,1,0,1,0,0]) (PS A i k j) (bk a (a8 3 (ba f46 [1,1,1,1,1] R))) w=(cond (k<i) (Lt 53 #[.pointer (some A),I k,I 1] w λb=>a (PS A i (i64.wrap (k+1)) (ag j 0 10 (I k::ag j 11 53 [U (k<i),I k,jp A,I k,.tuple #[],I (i64.wrap (k+1)),aW j 70]))) b) (W prog (sb f46 [1,1,1,1,1]) (afv A (ag j 0 64 (I i::I k::U (k<i)::ag j 65 6 []))) (c3 f46 R) w)):=by kernel_rfl
theorem aza:W prog (sb f46 [1,1,1,1,1]) (afv A j) (c3 f46 R) w=(R (.tuple #[.pointer (some A),I 0]) w):=by kernel_rfl
def Jm (s1 s2:Int) (fM:bh) (a b:Int) (j:aB):aB:=ag j 0 1 (I s1::I s2::ag j 1 3 (.pointer (some fM)::ag j 4 23 (I a::I b::ag j 27 21 [])))
theorem axm:bS prog f53 [bM a,I i,I k] R w=(de w (ae a 2) λe b c=>cb e b i 7 λh=>ev w h (U true) λm=>ev m (cX h 1) (I k) λl=>ev l (cX h 2) (bC) λj=>de j (ae a 1) λd f g=>dT prog (e0 f53 [1,1,1,0,0]) (Jm i k h (f:Nat) 0 (jp (ae a 0)::bQ 6 (jp (ae a 0)::jp (ae a 0)::jp (ae a 2)::ad e b c::I i::jp h::jp h::jp h::jp h::I k::jp h::jp h::jp h::cz h 1::jp h::cz h 2::jp (ae a 0)::jp (ae a 0)::jp (ae a 1)::ad d f g::bQ 21 []))) (a8 0 (c3 f53 R)) j):=by kernel_rfl
theorem auZ (n:aB->aV):W prog (sb f53 [1,1,1,0,0]) (Jm i k A l m j) (bk n (a8 0 (c3 f53 R))) w=(cond (m<l) (VH 80 #[I i,I k,I m] w λc d p=>de p (cX A 2) λf g h=>bb p #[.pointer c,bC] 105 λo r=>fk 99 (ad f g h) (ad (b7 o) 1 1) r λb a e s=>ev s (cX A 2) (ad b a e) λq=>n (Jm i k A l (i64.wrap (m+1)) (ag j 0 4 (I m::.pointer c::I d::ag j 7 20 [U (m<l),I m,.tuple #[.pointer c,I d],I i,I k,I m,.tuple #[.pointer c,I d],.pointer c,I d,jp A,jp A,jp A,cz A 2,ad f g h,.pointer c,.agg #[.pointer c,bC],ad (b7 o) 1 1,ad b a e,jp A,cz A 2,I (i64.wrap (m+1))]))) q) (R (.tuple #[]) w)):=by kernel_rfl
theorem av9:bS prog f62 [bM a,I i] R w=(cond (i<0) (R (U false) w) (de w (ae a 3) λe b c=>cond (i>=(b:Nat)) (R (U false) w) (de w (ae a 3) λd f g=>hJ 89 #[ad d f g,I i,I (i64.wrap (i+1))] w λh j k m=>ev m (ae a 3) (ad h j k) λl=>R (U true) l))):=by kernel_rfl
theorem axn:bS prog f63 [bM a,I i] R w=(wL 44 #[bM a,I i] w λd e=>cond (!(Option.isNone d)) (jg d λc=>cQ e (cX c 4) λb=>R (I b) e) (R (I 0) e)):=by kernel_rfl
theorem ayp:bS prog f64 [bM a,I i] R w=(wL 44 #[bM a,I i] w λj q=>cond (Option.isNone j) (R (.tuple #[bC,U false]) q) (jg j λl=>p4 q l λb=>cond (!b) (R (.tuple #[bC,U false]) q) (jg j λm=>de q (cX m 3) λc d f=>cond (Option.isNone c) (R (.tuple #[bC,U false]) q) (jg j λn=>cQ q (cX n 4) λg=>cond (g>0) (R (.tuple #[bC,U false]) q) (jg j λo=>de q (cX o 3) λh e k=>jg j λp=>ev q (cX p 3) (bC) λr=>R (.tuple #[ad h e k,U true]) r))))):=by kernel_rfl
def N4 (cJ:bh) (s2:ax) (a b:Nat) (dE c:ax) (d f:Nat) (g h:Int) (j:aB):aB:=.pointer (some cJ)::ag j 0 1 (ad s2 a b::ag j 1 4 (.pointer dE::ag j 5 33 (ad c d f::I g::I h::ag j 38 80 [])))
def aef (a:bh) (s2:ax) (b c:Nat) (dE:ax) (j:aB):aB:=.pointer (some a)::ag j 0 1 (ad s2 b c::ag j 1 4 (.pointer dE::ag j 5 116 []))
def Jn (cJ:bh) (s2:ax) (a b:Nat) (dE c:ax) (d f:Nat) (g h:Int) (j:aB):aB:=.pointer (some cJ)::ag j 0 1 (ad s2 a b::ag j 1 4 (.pointer dE::ag j 5 54 (ad c d f::I g::I h::ag j 59 59 [])))
def Vk (s2:ax) (a b:Nat) (dE:ax) (j:aB):aB:=ag j 0 2 (ad s2 a b::ag j 2 4 (.pointer dE::ag j 6 116 []))
theorem ayq:bS prog f66 [bM a,I i,ad s b c] R w=(wL 44 #[bM a,I i] w λj l=>cond (Option.isNone j) (R (I 1) l) (jg j λe=>p4 l e λd=>cond (!d) (R (I 1) l) (jg j λk=>de l (cX k 3) λf g h=>cond (!(Option.isNone f)) (R (I 3) l) (cond ((b:Int) == 0) (R (I 1) l) (cond ((b:Int)>1024) (R (I 18) l) (dT prog (e0 f66 [1,1,1,0,1,0,0]) (N4 (ae a 0) s b c j s b c (b:Nat) 0 (I i::bQ 3 (I 0::bQ 6 (jp (ae a 0)::I i::.pointer j::U (!d)::.pointer j::U (Option.isNone j)::U false::.pointer j::jp e::jp e::U d::U (!d)::U (!d)::U (!(Option.isNone f))::.pointer j::jp k::cz k 3::ad f g h::U (!(Option.isNone f))::U ((b:Int) == 0)::ad s b c::eZ b::U ((b:Int) == 0)::U ((b:Int)>1024)::ad s b c::eZ b::U ((b:Int)>1024)::bQ 80 [])))) (a8 1 (ba f66 [1,1,1,1] R)) l)))))):=by kernel_rfl
theorem avD (H:aB->aV):W prog (sb f66 [1,1,1,0,1,0,0]) (N4 A s a b t u c d i k j) (bk H (a8 1 (ba f66 [1,1,1,1] R))) w=(cond (k<i) (cb u c k 9 λK=>p6 w K λe h L bF l m n o p q r=>bb w #[I 0,I 0,I 0,I 0,ah 0,ah 0,bC,ah 0,I 0] 158 λF fS=>bJ fS (ae F 0) 0 [I e,I h,I L,I bF,ah l,ah m,ad n o p,ah q,I r] λS=>dP S λV D=>wM D (ae F 0) λf g v x y z M N Q bG O=>iE D (cX A 1) λC G T=>eG D A λP=>dI 94 #[.agg #[I f,I g,I v,I x,ah y,ah z,ad M N Q,ah bG,I O],I (G:Nat),I P] V λB E=>D E/\cond (B != 0) (R (I B) E) (H (N4 A s a b t u c d i (i64.wrap (k+1)) (ag j 0 6 (jp (ae F 0)::I B::ag j 8 30 (U (k<i)::jp K::.agg #[I e,I h,I L,I bF,ah l,ah m,ad n o p,ah q,I r]::.agg #[I f,I g,I v,I x,ah y,ah z,ad M N Q,ah bG,I O]::jp A::jp A::cz A 1::ad C G T::eZ G::jp A::jp A::jp A::I P::I B::I B::U ((B:Int) != 0)::aW j 54::I (i64.wrap (k+1))::ag j 56 62 [])))) E)) (W prog (sb f66 [1,1,1,1]) (aef A s a b t (ag j 0 38 (ad u c d::I i::I k::U (k<i)::ag j 39 79 []))) (c3 f66 R) w)):=by kernel_rfl
theorem awk:W prog (sb f66 [1,1,1,1]) (aef A s a b t j) (c3 f66 R) w=(dT prog (e0 f66 [1,1,1,1,0,1,0,0]) (Jn A s a b t s a b (a:Nat) 0 (ag j 0 59 (ag j 62 59 []))) (a8 3 (ba f66 [1,1,1,1,1] R)) w):=by kernel_rfl
theorem avE (ee:aB->aV):W prog (sb f66 [1,1,1,1,0,1,0,0]) (Jn A s a b t u c d i k j) (bk ee (a8 3 (ba f66 [1,1,1,1,1] R))) w=(cond (k<i) (cb u c k 9 λN=>p6 w N λe C O bG l m n o p q r=>bb w #[I 0,I 0,I 0,I 0,ah 0,ah 0,bC,ah 0,I 0] 158 λD sV=>bJ sV (ae D 0) 0 [I e,I C,I O,I bG,ah l,ah m,ad n o p,ah q,I r] λkP=>dP kP λsW B=>jg t λG=>iE B (cX G 2) λf g v=>eG B (ae D 1) λx=>cb f g x 2 λh=>dP sW λkO H=>HD H h λy=>wM H (ae D 0) λz Q T e7 M Y E X bF e_ Z=>eG H A λe9=>dI 95 #[.pointer y,.agg #[I z,I Q,I T,I e7,ah M,ah Y,ad E X bF,ah e_,I Z],I e9] kO λlh kr=>de kr (cX h 1) λfS L V=>bb kr #[I k] 3 λK qN=>fk 22 (ad fS L V) (ad (b7 K) 1 1) qN λF S P nv=>ev nv (cX h 1) (ad F S P) λkN=>ee (Jn A s a b t u c d i (i64.wrap (k+1)) (ag j 0 8 (I k::jp (ae D 0)::jp h::ag j 11 48 (U (k<i)::I k::jp N::.agg #[I e,I C,I O,I bG,ah l,ah m,ad n o p,ah q,I r]::.pointer t::jp G::cz G 2::ad f g v::jp (ae D 1)::I x::jp h::jp h::jp h::jp h::.pointer y::.agg #[I z,I Q,I T,I e7,ah M,ah Y,ad E X bF,ah e_,I Z]::jp A::jp A::jp A::I e9::I lh::jp h::jp h::jp h::cz h 1::ad fS L V::I k::ad (b7 K) 1 1::ad F S P::jp h::cz h 1::I (i64.wrap (k+1))::ag j 91 27 [])))) kN) (W prog (sb f66 [1,1,1,1,1]) (Vk s a b t (jp A::ag j 0 59 (ad u c d::I i::I k::U (k<i)::ag j 60 58 []))) (c3 f66 R) w)):=by kernel_rfl
theorem awl:W prog (sb f66 [1,1,1,1,1]) (Vk s a b t j) (c3 f66 R) w=(EI (a:Nat) (a:Nat) 32 (.cells (p8 (Int.toNat (a:Nat)) [I 0,bC]).toArray 131) w λo q=>jg t λf=>ev q (cX f 3) (ad (b7 o) (Int.toNat (a:Nat)) (Int.toNat (a:Nat))) λn=>jg t λg=>ev n (cX g 4) (I (a:Nat)) λm=>jg t λh=>cQ m (cX h 5) λc=>jg t λi=>ev m (cX i 5) (I (i64.wrap (c+1))) λe=>jg t λk=>cQ e (cX k 6) λd=>jg t λl=>ev e (cX l 6) (I (i64.wrap (d+(a:Nat)))) λp=>R (I 0) p):=by kernel_rfl
theorem av_:bS prog f69 [bM a,I i] R w=(de w (ae a 3) λj b c=>cond (i>=(b:Nat)) (R (U false) w) (de w (ae a 3) λd f g=>cb d f i 1 λA=>wN w A λx=>dP w λz u=>iE u (ae a 1) λh e k=>dI 68 #[.pointer x] z λl y=>u y/\cb h e l 1 λt=>HD u t λB=>VL 70 #[.pointer x,.pointer B] y λm n o p q C=>dI 45 #[.pointer x] C λr v=>cond (r == 0) (fu 62 #[bM a,I i] v λs D=>R (U true) D) (R (U true) v))):=by kernel_rfl
end
section
def Iv (w w':av) (e sz:Nat) (a cB:ax) (n cap:Nat) (xs:aH):Prop:=
 ai w w'/\bu w' e sz cB n cap xs/\(∀ k,a7 cB k->w.heap.size<=k)/\(cB=none↔a=none)
theorem Qn {z:bx} (aZ:prog.underlying t=some (.slice e)) (aD:prog.info? e=some i) (aE:i.zero=some z) (sv:z.cells.size=i.size) (cr:0<i.size)
  {a:bh} (au:xs.length=n * i.size) (aA:bW w (some a) xs) (af:∀ u ∈ xs,single u=true) (bA:n<=140737488355328) (cv:n * i.bytes<=140737488355328) :
  ∃ cB bU w',(Builtin.append_ #[t,t] ty #[.slice (some ⟨w.heap.size,0,none⟩) 0 0,.slice (some a) n c]).run prog (w.alloc (.cells #[] e))=.ok (.slice cB n bU) w'/\Iv w w' e i.size (some a) cB n bU xs:=by
 have aq:bu (w.alloc (.cells #[] e)) e i.size (some ⟨w.heap.size,0,none⟩) 0 0 []:=by refine ⟨by simp,.inr ⟨w.heap.size,[],rfl,?_,by omega,by simp [maxLen],by simp,by simp⟩⟩;exact Cj w [] e
 obtain ⟨cB,bU,w',fV,cV,J,bc⟩:=aq.append (P:=prog) (ty:=ty) aZ aD aE sv cr au (aA.new (mE _ _)) af (c:=c) (by omega) (by simpa using cv);simp only [l6,xN] at fV cV;refine ⟨cB,bU,w',fV,?_,cV,?_,?_⟩
 ·refine (mE w _).trans J ?_;rintro k aK ⟨o,aq⟩;simp at aq <;> omega
 ·rintro k ⟨o,rfl⟩;rcases bc with bc | bc
  ·simp at bc <;> omega
  ·simp at bc <;> omega
 ·rcases bc with rfl | rfl<;>simp
theorem VY (au:xs.length=n) (aA:bW w a xs) (af:∀ u ∈ xs,single u=true) (ak:n<=1000000000) (aj:a=none->n=0) :
  bK 73 [.slice a n c] w λv w'=>∃ cB cap,v=.slice cB n cap/\Iv w w' 30 1 a cB n cap xs:=by
 refine bO Tryz.func73 ?_;rw [avq];obtain ⟨i,aD,aE,cr,gm⟩:=j5 (T:=30) (z:=.int .u64 0) (n:=1) (m:=8) (by kernel_rfl);cases a with
 |none=>
  refine g8 rfl ⟨none,0,by rw [aj rfl],ay.refl _ _,?_,?_,by simp⟩
  ·rw [aj rfl] at au ⊢;rw [jR au];exact bu.nil _ _ _
  ·rintro k ⟨o,aq⟩;cases aq
 |some a=>refine eX rfl ?_;rintro b1 w1 rfl rfl;obtain ⟨cB,bU,w',fV,ab⟩:=Qn (t:=94) (ty:=94) (z:=.int .u64 0) (n:=n) (c:=c) (w:=w) (a:=a) (xs:=xs) Tryz.underlying94 aD aE (by rw [cr];rfl) (by omega) (by rw [au,cr];omega) aA af (by omega) (by rw [gm];omega);exact ⟨cB,n,bU,w',fV,cB,bU,rfl,by rw [cr] at ab;exact ab⟩
structure bt where
 words:bR
 down:Bool
structure gY (w:av) (b a4:Nat) (n:bt):Prop where
 node:aF w b [.slice (some ⟨a4,0,none⟩) n.words.length n.words.length,.bool n.down] 137
 words:aF w a4 (us n.words) 30
 len:n.words.length<=2048
 Le:8<=n.words.length
 wf:∀ x ∈ n.words,0<=x/\x<18446744073709551616
theorem gY.ne {w:av} {b a4:Nat} {n:bt} (h:gY w b a4 n):b≠a4:=h.node.ne h.words (by decide)
theorem gY.aO {M:bB} {n:bt} (h:gY w b a4 n) (J:ay M w w') (af:¬ M b) (al:¬ M a4):gY w' b a4 n:=
 ⟨J.an h.node af,J.an h.words al,h.len,h.Le,h.wf⟩
theorem gY.new {n:bt} (h:gY w b a4 n) (J:ai w w'):gY w' b a4 n:=h.aO J id id
def bt.get (n:bt) (i:Nat):Int:=n.words.getD i 0
theorem bt.get_some {n:bt} {i:Nat} (h:i<n.words.length):n.words[i]?=some (n.get i):=by simp [bt.get,h]
theorem gY.V6 {n:bt} (h:gY w b a4 n) (i:Nat):0<=n.get i/\n.get i<18446744073709551616:=by
 by_cases aD:i<n.words.length
 ·exact h.wf _ (dn (bt.get_some aD))
 ·simp [bt.get,aD]
theorem gY.cell {w:av} {b a4:Nat} {n:bt} (h:gY w b a4 n) {i:Nat} (aD:i<n.words.length):w.cell? ⟨a4,i,none⟩=some (.int .u64 (n.get i)):=
 h.words.cell (It (bt.get_some aD))
theorem aaH {n:bt} (h:gY w b a4 n):bK 101 [.pointer (some ⟨b,0,none⟩)] w λv w'=>v=.bool (!n.down)/\w'=w:=by refine bO Tryz.func101 ?_;rw [azj];exact ⟨n.down,h.node.cell rfl,rfl,rfl⟩
theorem Qq {n:bt} (h:gY w b a4 n):bK 82 [.pointer (some ⟨b,0,none⟩)] w λv w'=>v=.int .i64 (n.words.length / 8:Nat)/\w'=w:=by refine bO Tryz.func82 ?_;rw [ayg];have:=h.len;refine ⟨_,_,_,h.node.cell rfl,?_,rfl⟩;rw [Q3 (by omega),cn (by omega) (by omega)];rfl
theorem amG (l:bR) (i:Nat) (x:Int):(us l).set i (.int .u64 x)=us (l.set i x):=by simp [us]
theorem gY.afE {n:bt} (h:gY w b a4 n) (i:Nat) {x:Int} (aN:0<=x) (af:x<18446744073709551616):gY (w.setCell ⟨a4,i,none⟩ (.int .u64 x)) b a4 { n with words:=n.words.set i x }:=by
 refine ⟨?_,?_,by simpa using h.len,by simpa using h.Le,?_⟩
 ·have:=h.node.afz (i:=i) h.ne (.int .u64 x);simpa using this
 ·have:=h.words.setCell (i:=i) (.int .u64 x);rw [amG] at this;exact this
 ·intro y az;rcases zi az with az | rfl
  ·exact h.wf y az
  ·exact ⟨aN,af⟩
def bt.back (n:bt):bt×Bool:=if n.down=true/\n.get 1<31 then (⟨n.words.set 1 (n.get 1+1),false⟩,true) else (n,false)
def bt.iM (n:bt) (at_ count:Int):Int:=
 if count<1\/at_<0\/(n.words.length:Int)<=at_\/(n.words.length:Int) - at_<count then 2 else if n.down=true then 4 else 0
theorem bt.Gm {n:bt} (h:n.iM at_ count=0):1<=count/\0<=at_/\at_+count<=n.words.length/\n.down=false:=by
 unfold bt.iM at h;split at h
 ·omega
 ·rename_i ab;split at h
  ·omega
  ·rename_i aC;exact ⟨by omega,by omega,by omega,by simpa using aC⟩
theorem ME {n:bt} (h:gY w b a4 n) (at_ count:Int):bK 72 [.pointer (some ⟨b,0,none⟩),.int .i64 at_,.int .i64 count] w λv w'=>v=.int .i64 (n.iM at_ count)/\w'=w:=by
 refine bO Tryz.func72 ?_;rw [ayd];have au:=h.len;refine bL (λaf=>⟨?_,rfl⟩) (λaf=>bL (λal=>⟨?_,rfl⟩) (λal=>⟨_,_,_,h.node.cell rfl,bL (λaL=>⟨?_,rfl⟩) (λaL=>⟨_,_,_,h.node.cell rfl,bL (λca=>⟨?_,rfl⟩) (λca=>⟨_,h.node.cell rfl,kk (λc9=>⟨?_,rfl⟩) (λc9=>⟨?_,rfl⟩)⟩)⟩)⟩))
 ·rw [bt.iM,if_pos (.inl af)]
 ·rw [bt.iM,if_pos (.inr (.inl al))]
 ·rw [bt.iM,if_pos (.inr (.inr (.inl aL)))]
 ·rw [cn (by omega) (by omega)] at ca;rw [bt.iM,if_pos (.inr (.inr (.inr (by omega))))]
 ·rw [cn (by omega) (by omega)] at ca;rw [bt.iM,if_neg (by omega),if_pos c9]
 ·rw [cn (by omega) (by omega)] at ca;rw [bt.iM,if_neg (by omega),if_neg (by simp [c9])]
def bt.read (n:bt) (at_ count:Int):bR:=(n.words.drop at_.toNat).take count.toNat
theorem Rr (l:bR) (k:Nat):(us l).take k=us (l.take k):=by simp [us]
theorem Rs (l:bR) (k:Nat):(us l).drop k=us (l.drop k):=by simp [us]
theorem Wx (l m:bR):us l++us m=us (l++m):=by simp [us]
def akr (n:bt) (at_ count:Int) (w:av) (v:bx) (w':av):Prop:=
 (n.iM at_ count≠0/\v=.tuple #[.slice none 0 0,.int .i64 (n.iM at_ count)]/\w'=w)\/
 (n.iM at_ count=0/\∃ a cap,v=.tuple #[.slice (some a) count.toNat cap,.int .i64 0]/\ai w w'/\bu w' 30 1 (some a) count.toNat cap (us (n.read at_ count))/\w.heap.size<=a.block)
theorem bt.Qf {n:bt} (h:n.iM at_ count=0):(n.read at_ count).length=count.toNat:=by obtain ⟨af,al,aL,_⟩:=bt.Gm h;simp [bt.read];omega
theorem MR {n:bt} (h:gY w b a4 n) (at_ count:Int):bK 40 [.pointer (some ⟨b,0,none⟩),.int .i64 at_,.int .i64 count] w (akr n at_ count w):=by
 refine bO Tryz.func40 ?_;rw [ayD];refine aR (ME h at_ count) ?_;rintro v w1 ⟨rfl,rfl⟩;refine ⟨_,rfl,fX (λab=>?_) (λab=>?_)⟩
 ·exact .inl ⟨ab,rfl,rfl⟩
 ·obtain ⟨af,al,aL,_⟩:=bt.Gm ab;have au:=h.len;refine ⟨_,_,_,h.node.cell rfl,?_⟩;rw [cn (by omega) (by omega)];refine sB al (by omega) aL (by omega) (by omega) ?_;intro a bc;rcases bc with rfl | ⟨ao,_⟩
  ·have dw:bW w1 (some ⟨a4,0+at_.toNat * 1,none⟩) (us (n.read at_ count)):=by refine jk h.words ?_;rw [m9,bt.Qf ab,Rs,Rr,bt.read];simp
   have e:(at_+count).toNat - at_.toNat=count.toNat:=by omega
   rw [e];refine aR (VY (by rw [m9,bt.Qf ab]) dw (Cl _) (by omega) (by simp)) ?_;rintro v aS ⟨cB,cap,rfl,aj,aq,ak,aD⟩;refine ⟨_,_,_,rfl,.inr ⟨ab,?_⟩⟩;cases cB with
   |none=>simp at aD
   |some cB=>
    refine ⟨cB,cap,rfl,aj,aq,?_⟩;rcases aq.2 with ⟨ao,_⟩ | ⟨g,cur,ao,_⟩
    ·cases ao
    ·exact ak _ ⟨cB.off,by simp at ao;rw [ao]⟩
  ·omega
theorem aks {P:Program} (aZ:P.underlying t=some (.slice e)) (aD:P.info? e=some i) (cr:i.size=1) {o dl dc:Nat} {s:ax} {m:Nat} {news:aH} (au:news.length=m)
  (hm:m<=dl) (aX:bW w s news) (aj:s=none->m=0) (hw:ha w ⟨b,o,none⟩ 0 news):(Builtin.copy_ #[t,t] ty #[.slice (some ⟨b,o,none⟩) dl dc,.slice s m c]).run P w=.ok (.int .i64 m) (dO w ⟨b,o,none⟩ 0 news):=by
 have OR:Nat.min m dl=m:=Nat.min_eq_left hm;have cq:=HK (P:=P) hw;cases s with
 |none=>have:=aj rfl;subst this;have:news=[]:=jR au;subst this;simp [Builtin.copy_,run_underlying aZ,Builtin.lenOf,OR,sizeOf,typeInfo,aD,Builtin.firstCells,goInt,storeCells,dO]
 |some s=>
  have ar0:(loadCells s m).run P w=.ok news.toArray w:=by
   have:df w s 0 news:=by
    rcases aX with rfl | ⟨sb,so,he,ab⟩
    ·trivial
    ·simp at he;subst he;exact td λj v c_=>by simpa using ab j v c_
   have:=b8.run_loadCellsFrom (P:=P) (acc:=#[]) this;rw [au] at this;simpa [loadCells] using this
  simp [Builtin.copy_,run_underlying aZ,Builtin.lenOf,OR,sizeOf,typeInfo,aD,Builtin.firstCells,goInt,cr,ar0,cq]
def bt.write (n:bt) (at_:Nat) (ws:bR):bt:={ n with words:=n.words.take at_++ws++n.words.drop (at_+ws.length) }
theorem gY.write {w:av} {b a4:Nat} {n:bt} (h:gY w b a4 n) {o:Nat} {ws:bR} (au:o+ws.length<=n.words.length) (hw:∀ x ∈ ws,0<=x/\x<18446744073709551616):gY (dO w ⟨a4,o,none⟩ 0 (us ws)) b a4 (n.write o ws):=by
 have hlen:(n.write o ws).words.length=n.words.length:=by simp [bt.write];omega
 refine ⟨?_,?_,by rw [hlen];exact h.len,by rw [hlen];exact h.Le,?_⟩
 ·rw [hlen];exact (nI _ _ _ _ _).an h.node h.ne
 ·have:=h.words.dO (o:=o) (i:=0) (vs:=us ws);rw [Ck (by rw [m9,m9];omega),vp,m9,Rr,Rs,Wx,Wx] at this;exact this
 ·intro x ao;simp only [bt.write,qT] at ao;rcases ao with (ao | ao) | ao
  ·exact h.wf x (Im ao)
  ·exact hw x ao
  ·exact h.wf x (A5 ao)
theorem YX {n:bt} (h:gY w b a4 n) (at_:Int) {ws:bR} (aA:bW w a (us ws)) (hw:∀ x ∈ ws,0<=x/\x<18446744073709551616) (aj:a=none->ws.length=0) :
  bK 109 [.pointer (some ⟨b,0,none⟩),.int .i64 at_,.slice a ws.length c] w λv w'=>v=.int .i64 (n.iM at_ ws.length)/\
   gY w' b a4 (if n.iM at_ ws.length=0 then n.write at_.toNat ws else n)/\ay (λk=>k=a4) w w':=by
 refine bO Tryz.func109 ?_;rw [ayh];refine aR (ME h at_ _) ?_;rintro v w1 ⟨rfl,rfl⟩;refine ⟨_,rfl,fX (λab=>?_) (λab=>?_)⟩
 ·rw [if_neg ab];exact ⟨rfl,h,ay.refl _ _⟩
 ·obtain ⟨af,al,aL,_⟩:=bt.Gm ab;have au:=h.len;rw [if_pos ab,ab];refine ⟨_,_,_,h.node.cell rfl,sB al (by omega) (by omega) (by omega) (by omega) ?_⟩;intro cB bc;rcases bc with rfl | ⟨ao,_⟩
  ·obtain ⟨i,aD,aE,cr,gm⟩:=j5 (T:=30) (z:=.int .u64 0) (n:=1) (m:=8) (by kernel_rfl);have fV:=aks (P:=prog) (w:=w1) (t:=94) (ty:=3) (b:=a4) (o:=0+at_.toNat * 1) (dl:=(n.words.length:Int).toNat - at_.toNat) (dc:=(n.words.length:Int).toNat - at_.toNat) (c:=c) Tryz.underlying94 aD cr (m9 ws) (by omega) aA aj
    (kA h.words (by rw [m9,m9];omega) (Cl ws))
   refine ⟨_,_,fV,rfl,?_,nI _ _ _ _ _⟩;have:=h.write (o:=at_.toNat) (ws:=ws) (by omega) hw;simpa using this
  ·omega
def bt.kS (n:bt) (at_ old new:Int):bt:=if n.get at_.toNat=old then { n with words:=n.words.set at_.toNat new } else n
theorem aoB {n:bt} (h:gY w b a4 n) (at_ old new:Int) (aN:0<=new) (af:new<18446744073709551616) :
  bK 139 [.pointer (some ⟨b,0,none⟩),.int .i64 at_,.int .u64 old,.int .u64 new] w λv w'=>
   v=.tuple #[.int .u64 (if n.iM at_ 1=0 then n.get at_.toNat else 0),.int .i64 (n.iM at_ 1)]/\gY w' b a4 (if n.iM at_ 1=0 then n.kS at_ old new else n)/\ay (λk=>k=a4) w w':=by
 refine bO Tryz.func139 ?_;rw [ayY];refine aR (ME h at_ _) ?_;rintro v w1 ⟨rfl,rfl⟩;refine ⟨_,rfl,fX (λab=>?_) (λab=>?_)⟩
 ·rw [if_neg ab,if_neg ab];exact ⟨rfl,h,ay.refl _ _⟩
 ·obtain ⟨b1,aP,bT,_⟩:=bt.Gm ab;rw [if_pos ab,if_pos ab,ab];have r2:0+at_.toNat * 1=at_.toNat:=by omega
  refine ⟨_,_,_,h.node.cell rfl,hc aP (by omega) ?_⟩;rw [r2];refine ⟨_,h.cell (by omega),gX (λhe=>?_) (λhe=>?_)⟩
  ·refine ⟨_,_,_,h.node.cell rfl,hc aP (by omega) ?_⟩;rw [r2];refine ⟨⟨_,h.cell (by omega)⟩,h.words.frozen,?_⟩;rintro aS rfl;refine ⟨rfl,?_,iu _ _ _ _⟩;rw [bt.kS,if_pos he];exact h.afE _ aN af
  ·rw [bt.kS,if_neg he];exact ⟨rfl,h,ay.refl _ _⟩
def bt.add (n:bt) (at_ Ny:Int):bt:={ n with words:=n.words.set at_.toNat (IntKind.u64.wrap (n.get at_.toNat+Ny)) }
theorem agv (x:Int):0<=IntKind.u64.wrap x/\IntKind.u64.wrap x<18446744073709551616:=by simp only [IntKind.wrap,IntKind.bits,IntKind.signed];simp;omega
theorem aoC {n:bt} (h:gY w b a4 n) (at_ Ny:Int) :
  bK 140 [.pointer (some ⟨b,0,none⟩),.int .i64 at_,.int .u64 Ny] w λv w'=>
   v=.tuple #[.int .u64 (if n.iM at_ 1=0 then n.get at_.toNat else 0),.int .i64 (n.iM at_ 1)]/\gY w' b a4 (if n.iM at_ 1=0 then n.add at_ Ny else n)/\ay (λk=>k=a4) w w':=by
 refine bO Tryz.func140 ?_;rw [ayZ];refine aR (ME h at_ _) ?_;rintro v w1 ⟨rfl,rfl⟩;refine ⟨_,rfl,fX (λab=>?_) (λab=>?_)⟩
 ·rw [if_neg ab,if_neg ab];exact ⟨rfl,h,ay.refl _ _⟩
 ·obtain ⟨b1,aP,bT,_⟩:=bt.Gm ab;rw [if_pos ab,if_pos ab,ab];have r2:0+at_.toNat * 1=at_.toNat:=by omega
  refine ⟨_,_,_,h.node.cell rfl,hc aP (by omega) ?_⟩;rw [r2];refine ⟨_,h.cell (by omega),_,_,_,h.node.cell rfl,hc aP (by omega) ?_⟩;rw [r2];refine ⟨_,h.cell (by omega),hc aP (by omega) ?_⟩;rw [r2];refine ⟨⟨_,h.cell (by omega)⟩,h.words.frozen,?_⟩;rintro aS rfl;exact ⟨rfl,h.afE _ (agv _).1 (agv _).2,iu _ _ _ _⟩
theorem Yl (n:Nat) (v:bx):p8 n [v]=List.replicate n v:=by
 induction n with
 |zero=>rfl
 |succ n c5=>simp [p8,Fw] at *
theorem akt {lines:Int} (aN:1<=lines) (af:lines<=256):bK 74 [.int .i64 lines] w λv w'=>
  v=.tuple #[.pointer (some ⟨w.heap.size+1,0,none⟩),.int .i64 0]/\gY w' (w.heap.size+1) w.heap.size ⟨List.replicate (8 * lines.toNat) 0,false⟩/\ai w w'/\w'.heap.size=w.heap.size+2:=by
 refine bO Tryz.func74 ?_;rw [aCG];refine bL (λh=>by omega) (λ_=>bL (λh=>by omega) (λ_=>?_))
 have e:IntKind.i64.wrap (lines * 8)=lines * 8:=cn (by omega) (by omega);rw [e];refine ⟨by omega,by omega,by omega,by omega,?_⟩;rintro b1 w1 rfl rfl aP aS rfl rfl;have bg:(lines * 8).toNat=8 * lines.toNat:=by omega
 rw [bg,Yl];have aX:(w.alloc (.cells (List.replicate (8 * lines.toNat) (Value.int .u64 0)).toArray 30)).heap.size=w.heap.size+1:=by simp
 refine ⟨by rw [aX],?_,(mE _ _).alloc _,by simp⟩;refine ⟨?_,?_,by simp;omega,by simp;omega,?_⟩
 ·have:=Cj (w.alloc (.cells (List.replicate (8 * lines.toNat) (Value.int .u64 0)).toArray 30)) [.slice (some ⟨w.heap.size,0,none⟩) (8 * lines.toNat) (8 * lines.toNat),.bool false] 137;rw [aX] at this;simpa using this
 ·have:=(Cj w (List.replicate (8 * lines.toNat) (Value.int .u64 0)) 30).alloc (.cells #[.slice (some ⟨w.heap.size,0,none⟩) (8 * lines.toNat) (8 * lines.toNat),.bool false] 137);simpa [us] using this
 ·intro x ao;simp only [WX] at ao;omega
end
end Go.Proofs.YtmkljjbioomepaaGreat
