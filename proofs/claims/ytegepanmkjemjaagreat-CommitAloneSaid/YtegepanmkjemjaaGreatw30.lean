import Derived.Test.YtegepanmkjemjaaGreatProg
import Derived.Test.YtegepanmkjemjaaGreatw03
import Derived.Test.YtegepanmkjemjaaGreatw26
import Derived.Test.YtegepanmkjemjaaGreatw27
import Derived.Test.YtegepanmkjemjaaGreatw28
import Derived.Test.YtegepanmkjemjaaGreatw29
set_option linter.unusedVariables false
namespace Go.Proofs.YtegepanmkjemjaaGreat
open Go.Proofs.Tryz
open Go.Eng IntKind
variable (w:World) (R:Value→World→Prop)
theorem po (p0:Nat) (p1:aC):fnW prog f15 [(.pointer (some ⟨p0,0,none⟩)),p1.val] R w=(∀ b1 w1,b1=w.heap.size→w1=w.alloc (.cells p1.cells.toArray 49)→∀ b2 w2,b2=w1.heap.size→w2=w1.alloc (.cells #[(.int .i64 0),(.int .i64 0),(.int .i64 0),(.int .i64 0),(.int .i64 0),(.int .i64 0),(.int .i64 0),(.int .u64 0),(.int .i64 0),(.int .i64 0),(.int .i64 0),(.int .i64 0),(.slice none 0 0),(.slice none 0 0),(.slice none 0 0),(.slice none 0 0),(.bool false),(.bool false),(.int .i64 0),(.int .i64 0),(.slice none 0 0),(.int .i64 0),(.slice none 0 0),(.int .u64 0),(.int .i64 0)] 49)→aC.ex λr=>aG w2 ⟨b1,0,none⟩ 0 r.cells∧∀ b3 w3,b3=w2.heap.size→w3=w2.alloc (.cells r.cells.toArray 49)→Calls prog 23 #[(.pointer (some ⟨p0,0,none⟩)),(.slice (some ⟨b3,0,none⟩) 1 1),(.slice none 0 0),(.slice none 0 0),(.int .i64 20000)] w3 λe w4=>∃ a b c,e=.returned (.slice a b c)∧idxS a b 0 25 λad=>aC.ex λr1=>aG w4 ad 0 r1.cells∧wrAt w4 ⟨b2,0,none⟩ 0 r1.cells∧∀ w5,w5=puts w4 ⟨b2,0,none⟩ 0 r1.cells→aC.ex λd=>aG w5 ⟨b2,0,none⟩ 0 d.cells∧w5=w5∧R d.val w5):=by kernel_rfl
def el (s0:Addr) (s1:Option Addr) (a b:Nat) (s2:Option Addr) (c d:Nat) (s3:Option Addr) (f g:Nat) (s4:Int) (h:Option Addr) (i k:Nat) (l:Int) (j:LV):LV:=.pointer (some s0)::.slice s1 a b::.slice s2 c d::.slice s3 f g::.int .i64 s4::jq j 0 6 (.slice h i k::.int .i64 l::jq j 6 82 [])
def jh (a:Addr) (s1:Option Addr) (b c:Nat) (s2:Option Addr) (d f:Nat) (s3:Option Addr) (g h:Nat) (s4:Int) (i:Option Addr) (k l:Nat) (j:LV):LV:=.pointer (some a)::.slice s1 b c::.slice s2 d f::.slice s3 g h::.int .i64 s4::jq j 0 6 (.slice i k l::jq j 6 83 [])
def em (s0:Addr) (s1:Option Addr) (a b:Nat) (s2:Option Addr) (c d:Nat) (s3:Option Addr) (f g:Nat) (s4:Int) (h:Option Addr) (i k:Nat) (l:Int) (j:LV):LV:=.pointer (some s0)::.slice s1 a b::.slice s2 c d::.slice s3 f g::.int .i64 s4::jq j 0 6 (.slice h i k::jq j 6 1 (.int .i64 l::jq j 7 81 []))
def ep (a:Addr) (s1:Option Addr) (b c:Nat) (j:LV):LV:=.pointer (some a)::.slice s1 b c::jq j 0 93 []
def dE (s0:Addr) (s1:Option Addr) (a b:Nat) (s2:Option Addr) (c d:Nat) (s3:Option Addr) (f g:Nat) (s4:Int) (h:Option Addr) (i k:Nat) (l m:Int) (j:LV):LV:=.pointer (some s0)::.slice s1 a b::.slice s2 c d::.slice s3 f g::.int .i64 s4::jq j 0 6 (.slice h i k::jq j 6 1 (.int .i64 l::.int .i64 m::jq j 7 80 []))
def jk (a:Addr) (s1:Option Addr) (b c:Nat) (s2:Option Addr) (d f:Nat) (s3:Option Addr) (g h:Nat) (s4:Int) (i:Option Addr) (k l:Nat) (m:Int) (j:LV):LV:=.pointer (some a)::.slice s1 b c::.slice s2 d f::.slice s3 g h::.int .i64 s4::jq j 0 6 (.slice i k l::jq j 6 1 (.int .i64 m::jq j 7 81 []))
def er (s0:Addr) (s1:Option Addr) (a b:Nat) (c:Int) (j:LV):LV:=.pointer (some s0)::.slice s1 a b::jq j 0 14 (.int .i64 c::jq j 14 78 [])
def jl (s1:Option Addr) (a b:Nat) (j:LV):LV:=jq j 0 1 (.slice s1 a b::jq j 1 93 [])
def et (s0:Addr) (s1:Option Addr) (a b:Nat) (s2:Option Addr) (c d:Nat) (s3:Option Addr) (f g:Nat) (s4:Int) (h:Option Addr) (i k:Nat) (l m:Int) (j:LV):LV:=.pointer (some s0)::.slice s1 a b::.slice s2 c d::.slice s3 f g::.int .i64 s4::jq j 0 6 (.slice h i k::jq j 6 1 (.int .i64 l::jq j 7 1 (.int .i64 m::jq j 8 79 [])))
def jm (a:Addr) (s1:Option Addr) (b c:Nat) (s2:Option Addr) (d f:Nat) (s3:Option Addr) (g h:Nat) (s4:Int) (i:Option Addr) (k l:Nat) (m:Int) (j:LV):LV:=.pointer (some a)::.slice s1 b c::.slice s2 d f::.slice s3 g h::.int .i64 s4::jq j 0 6 (.slice i k l::jq j 6 1 (.int .i64 m::jq j 7 81 []))
theorem pp (p0:Nat) (p1:Option Addr) (a b:Nat) (p2:Option Addr) (c d:Nat) (p3:Option Addr) (f g:Nat) (p4:Int):fnW prog f23 [.pointer (some ⟨p0,0,none⟩),.slice p1 a b,.slice p2 c d,.slice p3 f g,.int .i64 p4] R w=(∃ ap h i,∃ w1,(Builtin.append_ #[61,61] 61 #[.slice none 0 0,.slice p1 a b]).run prog w=.ok (.slice ap h i) w1∧bS prog (.loop (sub (aD f23) [1,1,1,0,1,0,0])) (el ⟨p0,0,none⟩ ap h i p2 c d p3 f g p4 none 0 0 0 (uq 5 (jz::uq 4 (js p1 a b::js ap h i::uq 76 [])))) (aI 0 (nx f23 [1,1,1,1] R)) w1):=by kernel_rfl
theorem kE (s0:Addr) (s1:Option Addr) (a b:Nat) (s2:Option Addr) (c d:Nat) (s3:Option Addr) (f g:Nat) (s4:Int) (h:Option Addr) (i k:Nat) (l:Int) (j:LV) (N1:LV→World→Prop):W prog (sub (aD f23) [1,1,1,0,1,0,0]) (el s0 s1 a b s2 c d s3 f g s4 h i k l j) (seqQ N1 (aI 0 (nx f23 [1,1,1,1] R))) w=((bif (decide ((l:Int)<(a:Nat))) then (idxS s1 a l 25 λad=>∃ m,w.cell? ⟨ad.block,ad.off+1,none⟩=some (.int .i64 m)∧∀ b1 w1,b1=w.heap.size→w1=w.alloc (.cells #[.int .i64 m] 3)→∃ ap n o,∃ w2,(Builtin.append_ #[22,22] 22 #[.slice h i k,.slice (some ⟨b1,0,none⟩) 1 1]).run prog w1=.ok (.slice ap n o) w2∧N1 (el s0 s1 a b s2 c d s3 f g s4 ap n o (i64.wrap (l+1)) (jq j 0 12 (ji l::js s1 a b::jn a::jb (decide ((l:Int)<(a:Nat)))::ji l::ji (i64.wrap (l+1))::js h i k::js s1 a b::ji l::jp ad::jf ad 1::ji m::js (some ⟨b1,0,none⟩) 1 1::js ap n o::jq j 26 62 []))) w2) else (W prog (sub (aD f23) [1,1,1,1]) (jh s0 s1 a b s2 c d s3 f g s4 h i k (jq j 0 6 (ji l::jq j 6 6 (ji l::js s1 a b::jn a::jb (decide ((l:Int)<(a:Nat)))::jq j 16 72 [])))) (retQ prog f23 R) w))):=by kernel_rfl
theorem lR (a:Addr) (s1:Option Addr) (b c:Nat) (s2:Option Addr) (d f:Nat) (s3:Option Addr) (g h:Nat) (s4:Int) (i:Option Addr) (k l:Nat) (j:LV):W prog (sub (aD f23) [1,1,1,1]) (jh a s1 b c s2 d f s3 g h s4 i k l j) (retQ prog f23 R) w=(bS prog (.loop (sub (aD f23) [1,1,1,1,0,1,0,0])) (em a s1 b c s2 d f s3 g h s4 i k l 0 (jq j 0 7 (jq j 8 81 []))) (aI 2 (nx f23 [1,1,1,1,1] R)) w):=by kernel_rfl
theorem kF (s0:Addr) (s1:Option Addr) (a b:Nat) (s2:Option Addr) (c d:Nat) (s3:Option Addr) (f g:Nat) (s4:Int) (h:Option Addr) (i k:Nat) (l:Int) (j:LV) (N2:LV→World→Prop):W prog (sub (aD f23) [1,1,1,1,0,1,0,0]) (em s0 s1 a b s2 c d s3 f g s4 h i k l j) (seqQ N2 (aI 2 (nx f23 [1,1,1,1,1] R))) w=((bif (decide ((l:Int)<s4)) then (bS prog (.loop (sub (aD f23) [1,1,1,1,0,1,0,0,1,0,0,0,1,0,0])) (dE s0 s1 a b s2 c d s3 f g s4 h i k l 0 (jq j 0 7 (jq j 8 18 (ji l::ji s4::jb (decide ((l:Int)<s4))::jq j 29 59 [])))) (aI 4 (seqQ (λenv w=>W prog (sub (aD f23) [1,1,1,1,0,1,0,0,1,0,0,1]) env (aI 3 (seqQ (λenv w=>W prog (sub (aD f23) [1,1,1,1,0,1,0,0,1,1]) env (seqQ N2 (aI 2 (nx f23 [1,1,1,1,1] R))) w) (seqQ N2 (aI 2 (nx f23 [1,1,1,1,1] R))))) w) (aI 3 (seqQ (λenv w=>W prog (sub (aD f23) [1,1,1,1,0,1,0,0,1,1]) env (seqQ N2 (aI 2 (nx f23 [1,1,1,1,1] R))) w) (seqQ N2 (aI 2 (nx f23 [1,1,1,1,1] R))))))) w) else (W prog (sub (aD f23) [1,1,1,1,1]) (ep s0 s1 a b (js s2 c d::js s3 f g::ji s4::jq j 0 6 (js h i k::jg j 6::ji l::jq j 7 19 (ji l::ji s4::jb (decide ((l:Int)<s4))::jq j 29 59 [])))) (retQ prog f23 R) w))):=by kernel_rfl
theorem lS (a:Addr) (s1:Option Addr) (b c:Nat) (j:LV):W prog (sub (aD f23) [1,1,1,1,1]) (ep a s1 b c j) (retQ prog f23 R) w=(bS prog (.loop (sub (aD f23) [1,1,1,1,1,0,1,0,0])) (er a s1 b c 0 (jq j 0 14 (jq j 15 78 []))) (aI 8 (nx f23 [1,1,1,1,1,1] R)) w):=by kernel_rfl
theorem kG (s0:Addr) (s1:Option Addr) (a b:Nat) (s2:Option Addr) (c d:Nat) (s3:Option Addr) (f g:Nat) (s4:Int) (h:Option Addr) (i k:Nat) (l m:Int) (j:LV) (N2:LV→World→Prop) (N3:LV→World→Prop):W prog (sub (aD f23) [1,1,1,1,0,1,0,0,1,0,0,0,1,0,0]) (dE s0 s1 a b s2 c d s3 f g s4 h i k l m j) (seqQ N3 (aI 4 (seqQ (λenv w=>W prog (sub (aD f23) [1,1,1,1,0,1,0,0,1,0,0,1]) env (aI 3 (seqQ (λenv w=>W prog (sub (aD f23) [1,1,1,1,0,1,0,0,1,1]) env (seqQ N2 (aI 2 (nx f23 [1,1,1,1,1] R))) w) (seqQ N2 (aI 2 (nx f23 [1,1,1,1,1] R))))) w) (aI 3 (seqQ (λenv w=>W prog (sub (aD f23) [1,1,1,1,0,1,0,0,1,1]) env (seqQ N2 (aI 2 (nx f23 [1,1,1,1,1] R))) w) (seqQ N2 (aI 2 (nx f23 [1,1,1,1,1] R)))))))) w=((bif (decide ((m:Int)<(f:Nat))) then (idxS s3 f m 3 λad=>∃ At,w.cell? ad=some (.int .i64 At)∧Calls prog 11 #[.int .i64 At,.int .i64 60] w λe w1=>∃ (n:Int),e=.returned (.int .i64 n)∧(bif ((n:Int) == l) then (idxS s3 f m 3 λo=>bE.ex λr=>aG w1 o 0 r.cells∧Calls prog 43 #[.pointer (some s0),.slice h i k,r.val] w1 λe w2=>e=.returned (.tuple #[])∧N3 (dE s0 s1 a b s2 c d s3 f g s4 h i k l (i64.wrap (m+1)) (jq j 0 30 (ji m::js s3 f g::jn f::jb (decide ((m:Int)<(f:Nat)))::ji m::ji (i64.wrap (m+1))::js s3 f g::ji m::jp ad::jp ad::ji At::ji n::ji l::jb ((n:Int) == l)::jp s0::js h i k::js s3 f g::ji m::jp o::r.val::.tuple #[]::jq j 51 36 []))) w2) else (N3 (dE s0 s1 a b s2 c d s3 f g s4 h i k l (i64.wrap (m+1)) (jq j 0 30 (ji m::js s3 f g::jn f::jb (decide ((m:Int)<(f:Nat)))::ji m::ji (i64.wrap (m+1))::js s3 f g::ji m::jp ad::jp ad::ji At::ji n::ji l::jb ((n:Int) == l)::jq j 44 43 []))) w1))) else (W prog (sub (aD f23) [1,1,1,1,0,1,0,0,1,0,0,1]) (jk s0 s1 a b s2 c d s3 f g s4 h i k l (jq j 0 7 (ji m::jq j 7 23 (ji m::js s3 f g::jn f::jb (decide ((m:Int)<(f:Nat)))::jq j 34 53 [])))) (aI 3 (seqQ (λenv w=>W prog (sub (aD f23) [1,1,1,1,0,1,0,0,1,1]) env (seqQ N2 (aI 2 (nx f23 [1,1,1,1,1] R))) w) (seqQ N2 (aI 2 (nx f23 [1,1,1,1,1] R))))) w))):=by kernel_rfl
theorem lT (a:Addr) (s1:Option Addr) (b c:Nat) (s2:Option Addr) (d f:Nat) (s3:Option Addr) (g h:Nat) (s4:Int) (i:Option Addr) (k l:Nat) (m:Int) (j:LV) (N2:LV→World→Prop):W prog (sub (aD f23) [1,1,1,1,0,1,0,0,1,0,0,1]) (jk a s1 b c s2 d f s3 g h s4 i k l m j) (aI 3 (seqQ (λenv w=>W prog (sub (aD f23) [1,1,1,1,0,1,0,0,1,1]) env (seqQ N2 (aI 2 (nx f23 [1,1,1,1,1] R))) w) (seqQ N2 (aI 2 (nx f23 [1,1,1,1,1] R))))) w=(bS prog (.loop (sub (aD f23) [1,1,1,1,0,1,0,0,1,0,0,1,0,1,0,0])) (et a s1 b c s2 d f s3 g h s4 i k l m 0 (jq j 0 8 (jq j 9 79 []))) (aI 6 (seqQ (λenv w=>W prog (sub (aD f23) [1,1,1,1,0,1,0,0,1,0,0,1,1]) env (aI 3 (seqQ (λenv w=>W prog (sub (aD f23) [1,1,1,1,0,1,0,0,1,1]) env (seqQ N2 (aI 2 (nx f23 [1,1,1,1,1] R))) w) (seqQ N2 (aI 2 (nx f23 [1,1,1,1,1] R))))) w) (aI 3 (seqQ (λenv w=>W prog (sub (aD f23) [1,1,1,1,0,1,0,0,1,1]) env (seqQ N2 (aI 2 (nx f23 [1,1,1,1,1] R))) w) (seqQ N2 (aI 2 (nx f23 [1,1,1,1,1] R))))))) w):=by kernel_rfl
theorem kH (s0:Addr) (s1:Option Addr) (a b:Nat) (c:Int) (j:LV) (N4:LV→World→Prop):W prog (sub (aD f23) [1,1,1,1,1,0,1,0,0]) (er s0 s1 a b c j) (seqQ N4 (aI 8 (nx f23 [1,1,1,1,1,1] R))) w=((bif (decide ((c:Int)<(a:Nat))) then (idxS s1 a c 25 λad=>aC.ex λr=>aG w ad 0 r.cells∧Calls prog 44 #[.pointer (some s0),r.val] w λe w1=>aC.ex λd=>e=.returned d.val∧idxS s1 a c 25 λf=>wrAt w1 f 0 d.cells∧∀ w2,w2=puts w1 f 0 d.cells→N4 (er s0 s1 a b (i64.wrap (c+1)) (jq j 0 76 [ji c,js s1 a b,jn a,jb (decide ((c:Int)<(a:Nat))),ji c,ji (i64.wrap (c+1)),js s1 a b,ji c,jp s0,js s1 a b,ji c,jp ad,r.val,d.val,jp f,jg j 91])) w2) else (W prog (sub (aD f23) [1,1,1,1,1,1]) (jl s1 a b (jp s0::jq j 0 14 (ji c::jq j 14 62 (ji c::js s1 a b::jn a::jb (decide ((c:Int)<(a:Nat)))::jq j 80 12 [])))) (retQ prog f23 R) w))):=by kernel_rfl
theorem lU (s1:Option Addr) (a b:Nat) (j:LV):W prog (sub (aD f23) [1,1,1,1,1,1]) (jl s1 a b j) (retQ prog f23 R) w=(R (.slice s1 a b) w):=by kernel_rfl
theorem kI (s0:Addr) (s1:Option Addr) (a b:Nat) (s2:Option Addr) (c d:Nat) (s3:Option Addr) (f g:Nat) (s4:Int) (h:Option Addr) (i k:Nat) (l m:Int) (j:LV) (N2:LV→World→Prop) (N5:LV→World→Prop):W prog (sub (aD f23) [1,1,1,1,0,1,0,0,1,0,0,1,0,1,0,0]) (et s0 s1 a b s2 c d s3 f g s4 h i k l m j) (seqQ N5 (aI 6 (seqQ (λenv w=>W prog (sub (aD f23) [1,1,1,1,0,1,0,0,1,0,0,1,1]) env (aI 3 (seqQ (λenv w=>W prog (sub (aD f23) [1,1,1,1,0,1,0,0,1,1]) env (seqQ N2 (aI 2 (nx f23 [1,1,1,1,1] R))) w) (seqQ N2 (aI 2 (nx f23 [1,1,1,1,1] R))))) w) (aI 3 (seqQ (λenv w=>W prog (sub (aD f23) [1,1,1,1,0,1,0,0,1,1]) env (seqQ N2 (aI 2 (nx f23 [1,1,1,1,1] R))) w) (seqQ N2 (aI 2 (nx f23 [1,1,1,1,1] R)))))))) w=((bif (decide ((m:Int)<(a:Nat))) then (idxS s1 a m 25 λad=>aC.ex λr=>aG w ad 0 r.cells∧Calls prog 44 #[.pointer (some s0),r.val] w λe w1=>aC.ex λn=>e=.returned n.val∧idxS s1 a m 25 λo=>wrAt w1 o 0 n.cells∧∀ w2,w2=puts w1 o 0 n.cells→N5 (et s0 s1 a b s2 c d s3 f g s4 h i k l (i64.wrap (m+1)) (jq j 0 51 (ji m::js s1 a b::jn a::jb (decide ((m:Int)<(a:Nat)))::ji m::ji (i64.wrap (m+1))::js s1 a b::ji m::jp s0::js s1 a b::ji m::jp ad::r.val::n.val::jp o::jq j 66 21 []))) w2) else (W prog (sub (aD f23) [1,1,1,1,0,1,0,0,1,0,0,1,1]) (jm s0 s1 a b s2 c d s3 f g s4 h i k l (jq j 0 8 (ji m::jq j 8 43 (ji m::js s1 a b::jn a::jb (decide ((m:Int)<(a:Nat)))::jq j 55 32 [])))) (aI 3 (seqQ (λenv w=>W prog (sub (aD f23) [1,1,1,1,0,1,0,0,1,1]) env (seqQ N2 (aI 2 (nx f23 [1,1,1,1,1] R))) w) (seqQ N2 (aI 2 (nx f23 [1,1,1,1,1] R))))) w))):=by kernel_rfl
theorem lV (a:Addr) (s1:Option Addr) (b c:Nat) (s2:Option Addr) (d f:Nat) (s3:Option Addr) (g h:Nat) (s4:Int) (i:Option Addr) (k l:Nat) (m:Int) (j:LV) (N2:LV→World→Prop):W prog (sub (aD f23) [1,1,1,1,0,1,0,0,1,0,0,1,1]) (jm a s1 b c s2 d f s3 g h s4 i k l m j) (aI 3 (seqQ (λenv w=>W prog (sub (aD f23) [1,1,1,1,0,1,0,0,1,1]) env (seqQ N2 (aI 2 (nx f23 [1,1,1,1,1] R))) w) (seqQ N2 (aI 2 (nx f23 [1,1,1,1,1] R))))) w=(Calls prog 45 #[.pointer (some a),.slice s2 d f,.int .i64 m] w λe w1=>∃ n,e=.returned (.bool n)∧(bif (!n) then (W prog (sub (aD f23) [1,1,1,1,1]) (ep a s1 b c (js s2 d f::js s3 g h::ji s4::jq j 0 6 (js i k l::jg j 6::ji m::jq j 7 60 (jp a::js s2 d f::ji m::jb n::jb (!n)::jq j 72 16 [])))) (retQ prog f23 R) w1) else (N2 (em a s1 b c s2 d f s3 g h s4 i k l (i64.wrap (m+1)) (jq j 0 29 (ji m::ji (i64.wrap (m+1))::jq j 31 36 (jp a::js s2 d f::ji m::jb n::jb (!n)::jq j 72 16 [])))) w1))):=by kernel_rfl
theorem pT (p0:Nat) (p1:aC):fnW prog f44 [.pointer (some ⟨p0,0,none⟩),p1.val] R w=(∀ b1 w1,b1=w.heap.size→w1=w.alloc (.cells p1.cells.toArray 49)→∀ b2 w2,b2=w1.heap.size→w2=w1.alloc (.cells #[.int .i64 0,.int .i64 0,.int .i64 0,.int .i64 0,.int .i64 0,.int .i64 0,.int .i64 0,.int .u64 0,.int .i64 0,.int .i64 0,.int .i64 0,.int .i64 0,.slice none 0 0,.slice none 0 0,.slice none 0 0,.slice none 0 0,.bool false,.bool false,.int .i64 0,.int .i64 0,.slice none 0 0,.int .i64 0,.slice none 0 0,.int .u64 0,.int .i64 0] 49)→∃ a,w2.cell? ⟨b1,16,none⟩=some (.bool a)∧(bif a then (aC.ex λr=>aG w2 ⟨b1,0,none⟩ 0 r.cells∧wrAt w2 ⟨b2,0,none⟩ 0 r.cells∧∀ w3,w3=puts w2 ⟨b2,0,none⟩ 0 r.cells→aC.ex λaq=>aG w3 ⟨b2,0,none⟩ 0 aq.cells∧w3=w3∧R aq.val w3) else (∃ b,w2.cell? ⟨b1,1,none⟩=some (.int .i64 b)∧Calls prog 29 #[.pointer (some ⟨p0,0,none⟩),.int .i64 b] w2 λe w4=>∃ (c:Bool),e=.returned (.bool c)∧(bif (!c) then (aC.ex λr1=>aG w4 ⟨b1,0,none⟩ 0 r1.cells∧wrAt w4 ⟨b2,0,none⟩ 0 r1.cells∧∀ w5,w5=puts w4 ⟨b2,0,none⟩ 0 r1.cells→aC.ex λar=>aG w5 ⟨b2,0,none⟩ 0 ar.cells∧w5=w5∧R ar.val w5) else (∃ d,w4.cell? ⟨b1,1,none⟩=some (.int .i64 d)∧Calls prog 58 #[.pointer (some ⟨p0,0,none⟩),.int .i64 d] w4 λe w6=>∃ (f:Int),e=.returned (.int .i64 f)∧(bif (decide ((f:Int)>0)) then (aC.ex λr2=>aG w6 ⟨b1,0,none⟩ 0 r2.cells∧wrAt w6 ⟨b2,0,none⟩ 0 r2.cells∧∀ w7,w7=puts w6 ⟨b2,0,none⟩ 0 r2.cells→aC.ex λau=>aG w7 ⟨b2,0,none⟩ 0 au.cells∧w7=w7∧R au.val w7) else (∃ g,w6.cell? ⟨b1,1,none⟩=some (.int .i64 g)∧Calls prog 59 #[.pointer (some ⟨p0,0,none⟩),.int .i64 g] w6 λe w8=>∃ (h:Option Addr) (i k:Nat) (l:Bool),e=.returned (.tuple #[.slice h i k,.bool l])∧(bif l then (∃ m n o,w8.cell? ⟨b1,15,none⟩=some (.slice m n o)∧∃ (ap:Option Addr) (p q:Nat),∃ w9,(Builtin.append_ #[46,46] 46 #[.slice none 0 0,.slice m n o]).run prog w8=.ok (.slice ap p q) w9∧∀ b3 av,b3=w9.heap.size→av=w9.alloc (.cells #[.slice h i k] 99)→∃ (s:Option Addr) (t v:Nat),∃ aw,(Builtin.append_ #[46,46] 46 #[.slice ap p q,.slice (some ⟨b3,0,none⟩) 1 1]).run prog av=.ok (.slice s t v) aw∧(∃ u,aw.cell? ⟨b1,15,none⟩=some u)∧aw.frozen? ⟨b1,15,none⟩=false∧∀ ax,ax=aw.setCell ⟨b1,15,none⟩ (.slice s t v)→∃ x y z,ax.cell? ⟨b1,15,none⟩=some (.slice x y z)∧(bif (decide (((y:Nat):Int)>200)) then ((∃ u,ax.cell? ⟨b1,16,none⟩=some u)∧ax.frozen? ⟨b1,16,none⟩=false∧∀ ay,ay=ax.setCell ⟨b1,16,none⟩ (.bool true)→(∃ u,ay.cell? ⟨b1,17,none⟩=some u)∧ay.frozen? ⟨b1,17,none⟩=false∧∀ az,az=ay.setCell ⟨b1,17,none⟩ (.bool true)→aC.ex λr3=>aG az ⟨b1,0,none⟩ 0 r3.cells∧wrAt az ⟨b2,0,none⟩ 0 r3.cells∧∀ a0,a0=puts az ⟨b2,0,none⟩ 0 r3.cells→aC.ex λa1=>aG a0 ⟨b2,0,none⟩ 0 a1.cells∧a0=a0∧R a1.val a0) else (aC.ex λr4=>aG ax ⟨b1,0,none⟩ 0 r4.cells∧Calls prog 60 #[r4.val] ax λe a2=>∃ (aa:Option Addr) (ab ac:Nat),aC.ex λa3=>e=.returned (.tuple #[.slice aa ab ac,a3.val])∧wrAt a2 ⟨b1,0,none⟩ 0 a3.cells∧∀ a4,a4=puts a2 ⟨b1,0,none⟩ 0 a3.cells→∃ ad,a4.cell? ⟨b1,16,none⟩=some (.bool ad)∧(bif (!ad) then (∃ ae,a4.cell? ⟨b1,1,none⟩=some (.int .i64 ae)∧Calls prog 61 #[.pointer (some ⟨p0,0,none⟩),.int .i64 ae,.slice aa ab ac] a4 λe a5=>∃ (af:Int),e=.returned (.int .i64 af)∧(bif ((af:Int) != 0) then ((∃ u,a5.cell? ⟨b1,16,none⟩=some u)∧a5.frozen? ⟨b1,16,none⟩=false∧∀ a6,a6=a5.setCell ⟨b1,16,none⟩ (.bool true)→(∃ u,a6.cell? ⟨b1,17,none⟩=some u)∧a6.frozen? ⟨b1,17,none⟩=false∧∀ a7,a7=a6.setCell ⟨b1,17,none⟩ (.bool true)→aC.ex λr5=>aG a7 ⟨b1,0,none⟩ 0 r5.cells∧wrAt a7 ⟨b2,0,none⟩ 0 r5.cells∧∀ a8,a8=puts a7 ⟨b2,0,none⟩ 0 r5.cells→aC.ex λa9=>aG a8 ⟨b2,0,none⟩ 0 a9.cells∧a8=a8∧R a9.val a8) else (aC.ex λr6=>aG a5 ⟨b1,0,none⟩ 0 r6.cells∧wrAt a5 ⟨b2,0,none⟩ 0 r6.cells∧∀ ba,ba=puts a5 ⟨b2,0,none⟩ 0 r6.cells→aC.ex λbb=>aG ba ⟨b2,0,none⟩ 0 bb.cells∧ba=ba∧R bb.val ba))) else (aC.ex λr7=>aG a4 ⟨b1,0,none⟩ 0 r7.cells∧wrAt a4 ⟨b2,0,none⟩ 0 r7.cells∧∀ bc,bc=puts a4 ⟨b2,0,none⟩ 0 r7.cells→aC.ex λbd=>aG bc ⟨b2,0,none⟩ 0 bd.cells∧bc=bc∧R bd.val bc))))) else (∃ ag ah ai,w8.cell? ⟨b1,15,none⟩=some (.slice ag ah ai)∧(bif (decide (((ah:Nat):Int)>200)) then ((∃ u,w8.cell? ⟨b1,16,none⟩=some u)∧w8.frozen? ⟨b1,16,none⟩=false∧∀ be,be=w8.setCell ⟨b1,16,none⟩ (.bool true)→(∃ u,be.cell? ⟨b1,17,none⟩=some u)∧be.frozen? ⟨b1,17,none⟩=false∧∀ bf,bf=be.setCell ⟨b1,17,none⟩ (.bool true)→aC.ex λr8=>aG bf ⟨b1,0,none⟩ 0 r8.cells∧wrAt bf ⟨b2,0,none⟩ 0 r8.cells∧∀ bg,bg=puts bf ⟨b2,0,none⟩ 0 r8.cells→aC.ex λbh=>aG bg ⟨b2,0,none⟩ 0 bh.cells∧bg=bg∧R bh.val bg) else (aC.ex λr9=>aG w8 ⟨b1,0,none⟩ 0 r9.cells∧Calls prog 60 #[r9.val] w8 λe bi=>∃ (aj:Option Addr) (ak al:Nat),aC.ex λbj=>e=.returned (.tuple #[.slice aj ak al,bj.val])∧wrAt bi ⟨b1,0,none⟩ 0 bj.cells∧∀ bk,bk=puts bi ⟨b1,0,none⟩ 0 bj.cells→∃ am,bk.cell? ⟨b1,16,none⟩=some (.bool am)∧(bif (!am) then (∃ an,bk.cell? ⟨b1,1,none⟩=some (.int .i64 an)∧Calls prog 61 #[.pointer (some ⟨p0,0,none⟩),.int .i64 an,.slice aj ak al] bk λe bl=>∃ (ao:Int),e=.returned (.int .i64 ao)∧(bif ((ao:Int) != 0) then ((∃ u,bl.cell? ⟨b1,16,none⟩=some u)∧bl.frozen? ⟨b1,16,none⟩=false∧∀ bm,bm=bl.setCell ⟨b1,16,none⟩ (.bool true)→(∃ u,bm.cell? ⟨b1,17,none⟩=some u)∧bm.frozen? ⟨b1,17,none⟩=false∧∀ bn,bn=bm.setCell ⟨b1,17,none⟩ (.bool true)→aC.ex λbo=>aG bn ⟨b1,0,none⟩ 0 bo.cells∧wrAt bn ⟨b2,0,none⟩ 0 bo.cells∧∀ bp,bp=puts bn ⟨b2,0,none⟩ 0 bo.cells→aC.ex λbq=>aG bp ⟨b2,0,none⟩ 0 bq.cells∧bp=bp∧R bq.val bp) else (aC.ex λbr=>aG bl ⟨b1,0,none⟩ 0 br.cells∧wrAt bl ⟨b2,0,none⟩ 0 br.cells∧∀ bs,bs=puts bl ⟨b2,0,none⟩ 0 br.cells→aC.ex λbt=>aG bs ⟨b2,0,none⟩ 0 bt.cells∧bs=bs∧R bt.val bs))) else (aC.ex λbu=>aG bk ⟨b1,0,none⟩ 0 bu.cells∧wrAt bk ⟨b2,0,none⟩ 0 bu.cells∧∀ bv,bv=puts bk ⟨b2,0,none⟩ 0 bu.cells→aC.ex λbw=>aG bv ⟨b2,0,none⟩ 0 bw.cells∧bv=bv∧R bw.val bv))))))))))))):=by kernel_rfl
theorem pU (p0:aC):fnW prog f60 [p0.val] R w=(∀ b1 w1,b1=w.heap.size→w1=w.alloc (.cells p0.cells.toArray 49)→∀ b2 w2,b2=w1.heap.size→w2=w1.alloc (.cells #[.int .i64 0,.int .i64 0,.int .i64 0,.int .i64 0,.int .i64 0,.int .i64 0,.int .i64 0,.int .u64 0,.int .i64 0,.int .i64 0,.int .i64 0,.int .i64 0,.slice none 0 0,.slice none 0 0,.slice none 0 0,.slice none 0 0,.bool false,.bool false,.int .i64 0,.int .i64 0,.slice none 0 0,.int .i64 0,.slice none 0 0,.int .u64 0,.int .i64 0] 49)→∃ a,w2.cell? ⟨b1,0,none⟩=some (.int .i64 a)∧(bif ((a:Int) == 1) then (bY.ex λaj=>aG w2 ⟨b1,2,none⟩ 0 aj.cells∧∃ b c d,w2.cell? ⟨b1,15,none⟩=some (.slice b c d)∧Calls prog 74 #[aj.val,.slice b c d] w2 λe w3=>∃ (f:Option Addr) (g h:Nat),bI.ex λak=>∃ (i:Bool),e=.returned (.tuple #[.slice f g h,ak.val,.bool i])∧∀ b3 w4,b3=w3.heap.size→w4=w3.alloc (.cells #[.int .i64 0,.int .i64 0,.int .i64 0,.slice none 0 0,.int .i64 0,.bool false,.int .u64 0,.slice none 0 0,.slice none 0 0,.slice none 0 0] 154)→wrAt w4 ⟨b3,0,none⟩ 0 ak.cells∧∀ w5,w5=puts w4 ⟨b3,0,none⟩ 0 ak.cells→∀ w6,w6=w5.drew→∃ Sx:World→Prop,Sx w6∧∃ k,(∀ u,Sx u→u.cell? ⟨b3,0,none⟩=some (.int .i64 k))∧aM.ex λal=>(∀ u,Sx u→aG u ⟨b3,2,none⟩ 0 al.cells)∧∃ l,(∀ u,Sx u→u.cell? ⟨b3,4,none⟩=some (.int .i64 l))∧∃ m n o,(∀ u,Sx u→u.cell? ⟨b3,9,none⟩=some (.slice m n o))∧(∃ u,w6.cell? ⟨b1,16,none⟩=some u)∧w6.frozen? ⟨b1,16,none⟩=false∧∀ w7,w7=w6.setCell ⟨b1,16,none⟩ (.bool i)→Sx w7∧(∃ u,w7.cell? ⟨b1,18,none⟩=some u)∧w7.frozen? ⟨b1,18,none⟩=false∧∀ w8,w8=w7.setCell ⟨b1,18,none⟩ (.int .i64 k)→Sx w8∧wrAt w8 ⟨b1,19,none⟩ 0 al.cells∧∀ w9,w9=puts w8 ⟨b1,19,none⟩ 0 al.cells→Sx w9∧(∃ u,w9.cell? ⟨b1,21,none⟩=some u)∧w9.frozen? ⟨b1,21,none⟩=false∧∀ am,am=w9.setCell ⟨b1,21,none⟩ (.int .i64 l)→Sx am∧(∃ u,am.cell? ⟨b1,22,none⟩=some u)∧am.frozen? ⟨b1,22,none⟩=false∧∀ an,an=am.setCell ⟨b1,22,none⟩ (.slice m n o)→∀ ao,ao=an.drew→∃ Sx1:World→Prop,Sx1 ao∧aC.ex λr=>(∀ u,Sx1 u→aG u ⟨b1,0,none⟩ 0 r.cells)∧wrAt ao ⟨b2,0,none⟩ 0 r.cells∧∀ ap,ap=puts ao ⟨b2,0,none⟩ 0 r.cells→aC.ex λaq=>aG ap ⟨b2,0,none⟩ 0 aq.cells∧ap=ap∧R (.tuple #[.slice f g h,aq.val]) ap) else ((bif ((a:Int) == 2) then (ee.ex λar=>aG w2 ⟨b1,3,none⟩ 0 ar.cells∧∃ p q s,w2.cell? ⟨b1,15,none⟩=some (.slice p q s)∧Calls prog 75 #[ar.val,.slice p q s] w2 λe au=>∃ (t:Option Addr) (v x:Nat),bT.ex λav=>∃ (y:Bool),e=.returned (.tuple #[.slice t v x,av.val,.bool y])∧∀ b4 aw,b4=au.heap.size→aw=au.alloc (.cells #[.int .i64 0,.int .u64 0,.int .i64 0] 158)→wrAt aw ⟨b4,0,none⟩ 0 av.cells∧∀ ax,ax=puts aw ⟨b4,0,none⟩ 0 av.cells→∀ ay,ay=ax.drew→∃ Sx2:World→Prop,Sx2 ay∧∃ z,(∀ u,Sx2 u→u.cell? ⟨b4,0,none⟩=some (.int .i64 z))∧∃ Value,(∀ u,Sx2 u→u.cell? ⟨b4,1,none⟩=some (.int .u64 Value))∧(∃ u,ay.cell? ⟨b1,16,none⟩=some u)∧ay.frozen? ⟨b1,16,none⟩=false∧∀ az,az=ay.setCell ⟨b1,16,none⟩ (.bool y)→Sx2 az∧(∃ u,az.cell? ⟨b1,18,none⟩=some u)∧az.frozen? ⟨b1,18,none⟩=false∧∀ a0,a0=az.setCell ⟨b1,18,none⟩ (.int .i64 z)→Sx2 a0∧(∃ u,a0.cell? ⟨b1,23,none⟩=some u)∧a0.frozen? ⟨b1,23,none⟩=false∧∀ a1,a1=a0.setCell ⟨b1,23,none⟩ (.int .u64 Value)→∀ a2,a2=a1.drew→∃ Sx3:World→Prop,Sx3 a2∧aC.ex λr1=>(∀ u,Sx3 u→aG u ⟨b1,0,none⟩ 0 r1.cells)∧wrAt a2 ⟨b2,0,none⟩ 0 r1.cells∧∀ a3,a3=puts a2 ⟨b2,0,none⟩ 0 r1.cells→aC.ex λa4=>aG a3 ⟨b2,0,none⟩ 0 a4.cells∧a3=a3∧R (.tuple #[.slice t v x,a4.val]) a3) else ((bif ((a:Int) == 3) then (aH.ex λa5=>aG w2 ⟨b1,8,none⟩ 0 a5.cells∧∃ aa ab ac,w2.cell? ⟨b1,15,none⟩=some (.slice aa ab ac)∧Calls prog 76 #[a5.val,.slice aa ab ac] w2 λe a6=>∃ (ad:Option Addr) (ae af:Nat),aA.ex λa7=>∃ (ag:Bool),e=.returned (.tuple #[.slice ad ae af,a7.val,.bool ag])∧∀ b5 a8,b5=a6.heap.size→a8=a6.alloc (.cells #[.int .i64 0,.int .i64 0] 162)→wrAt a8 ⟨b5,0,none⟩ 0 a7.cells∧∀ a9,a9=puts a8 ⟨b5,0,none⟩ 0 a7.cells→∀ ba,ba=a9.drew→∃ Sx4:World→Prop,Sx4 ba∧∃ ah,(∀ u,Sx4 u→u.cell? ⟨b5,0,none⟩=some (.int .i64 ah))∧∃ ai,(∀ u,Sx4 u→u.cell? ⟨b5,1,none⟩=some (.int .i64 ai))∧(∃ u,ba.cell? ⟨b1,16,none⟩=some u)∧ba.frozen? ⟨b1,16,none⟩=false∧∀ bb,bb=ba.setCell ⟨b1,16,none⟩ (.bool ag)→Sx4 bb∧(∃ u,bb.cell? ⟨b1,18,none⟩=some u)∧bb.frozen? ⟨b1,18,none⟩=false∧∀ bc,bc=bb.setCell ⟨b1,18,none⟩ (.int .i64 ah)→Sx4 bc∧(∃ u,bc.cell? ⟨b1,24,none⟩=some u)∧bc.frozen? ⟨b1,24,none⟩=false∧∀ bd,bd=bc.setCell ⟨b1,24,none⟩ (.int .i64 ai)→∀ be,be=bd.drew→∃ Sx5:World→Prop,Sx5 be∧aC.ex λr2=>(∀ u,Sx5 u→aG u ⟨b1,0,none⟩ 0 r2.cells)∧wrAt be ⟨b2,0,none⟩ 0 r2.cells∧∀ bf,bf=puts be ⟨b2,0,none⟩ 0 r2.cells→aC.ex λbg=>aG bf ⟨b2,0,none⟩ 0 bg.cells∧bf=bf∧R (.tuple #[.slice ad ae af,bg.val]) bf) else ((∃ u,w2.cell? ⟨b1,16,none⟩=some u)∧w2.frozen? ⟨b1,16,none⟩=false∧∀ bh,bh=w2.setCell ⟨b1,16,none⟩ (.bool true)→(∃ u,bh.cell? ⟨b1,17,none⟩=some u)∧bh.frozen? ⟨b1,17,none⟩=false∧∀ bi,bi=bh.setCell ⟨b1,17,none⟩ (.bool true)→∀ bj,bj=bi.drew→∃ Sx6:World→Prop,Sx6 bj∧aC.ex λr3=>(∀ u,Sx6 u→aG u ⟨b1,0,none⟩ 0 r3.cells)∧wrAt bj ⟨b2,0,none⟩ 0 r3.cells∧∀ bk,bk=puts bj ⟨b2,0,none⟩ 0 r3.cells→aC.ex λbl=>aG bk ⟨b2,0,none⟩ 0 bl.cells∧bk=bk∧R (.tuple #[.slice none 0 0,bl.val]) bk))))))):=by kernel_rfl
end Go.Proofs.YtegepanmkjemjaaGreat
namespace Go.Proofs.YtegepanmkjemjaaGreat.C12
open Go.Eng
abbrev KIND:Int:=3
def conv:Conv:=⟨CJob,Int×Int,cH⟩
structure JAtC (A:Nat→Prop) (w:World) (r:aH) (j:CJob):Prop where
 at_:rS w r j
 view:ViewAt A w r.View j.v
 roff:(lF j.reads).flatten=[]∨Off A r.Reads
 woff:(eI j.writes).flatten=[]∨Off A r.Writes
 dat:xZ j
def JAt (A:Nat→Prop) (w:World) (r:aC) (j:CJob):Prop:=JAtC A w r.Commit j
def OAt (A:Nat→Prop) (w:World) (r:aC) (o:Int×Int):Prop:=r.Code=o.1∧r.Fate=o.2
theorem ViewAt.keep {A A':Nat→Prop} {w w':World} {r:aM} {v:Vw} (h:ViewAt A w r v) (hk:Keep A w w') (hM:∀ k,k<w.heap.size→A' k→A k):ViewAt A' w' r v:=
 ⟨h.num,h.len,h.cap,h.rd.keep hk h.off,Off.keep h.rd h.off hM,h.small⟩
theorem JAt.keep {A A':Nat→Prop} {w w':World} {r:aC} {j:CJob} (h:JAt A w r j) (hk:Keep A w w') (hM:∀ k,k<w.heap.size→A' k→A k):JAt A' w' r j:=by
 obtain ⟨ha,hv,hr,hw,hd⟩:=h
 have hv':=ViewAt.keep hv hk hM
 exact ⟨⟨ha.client,ha.seq,ha.lines,⟨A',hv'⟩,ha.rd.keep hk hr,ha.len,ha.few,⟨ha.pg.rd.keep hk hw,ha.pg.len,ha.pg.few,ha.pg.u64⟩⟩,hv',Off.keep ha.rd hr hM,Off.keep ha.pg.rd hw hM,hd⟩
theorem OAt.keep {A A':Nat→Prop} {w w':World} {r:aC} {o:Int×Int} (h:OAt A w r o) (hk:Keep A w w') (hM:∀ k,k<w.heap.size→A' k→A k):OAt A' w' r o:=h
end Go.Proofs.YtegepanmkjemjaaGreat.C12
namespace Go.Proofs.YtegepanmkjemjaaGreat.C12
open Go.Eng
def yG (F:Fab):Bool:=F.orphans.isEmpty && F.clients.all λC=>decide (C.lanes.length≤F.nodes.length) && C.lanes.all λl=>l.pair.verbs.isEmpty && l.places.isEmpty
theorem E6 {F:Fab} (h:yG F=true) (c:Nat):Solo c F:=by
 simp only [yG,Bool.and_eq_true,List.isEmpty_iff,List.all_eq_true,decide_eq_true_eq] at h
 obtain ⟨h1,h2⟩:=h
 have hl:∀ (i:Nat) (C:Comp),F.clients[i]?=some C→C.lanes.length≤F.nodes.length∧∀ (j:Nat) (l:Lane),C.lanes[j]?=some l→l.pair.verbs=[]∧l.places=[]:=λi C hC=>⟨(h2 C (List.mem_of_getElem? hC)).1,λj l hj=>(h2 C (List.mem_of_getElem? hC)).2 l (List.mem_of_getElem? hj)⟩
 refine ⟨h1,λi C _ hC j l hj=>((hl i C hC).2 j l hj).1,λC hC=>⟨λi l hi=>?_,λi j l l' _ hi hj k hk=>?_⟩,λC hC=>(hl c C hC).1⟩
 ·obtain ⟨a,b⟩:=(hl c C hC).2 i l hi
  rw [a,b]
  rfl
 ·rw [((hl c C hC).2 i l hi).2] at hk
  cases hk
def yH (c:Nat) (F:Fab) (t:Tk conv):Option (Fab×Tk conv):=match runP c 400 (turn F t) with
 |some (k,e)=>if k<3000 then some (turn e.1 e.2) else none
 |none=>none
theorem Bz {c:Nat} {F:Fab} {t:Tk conv} {e:Fab×Tk conv} (hf:Fine F) (hs:yG F=true) (hc:t.client=(c:Int)) (h:yH c F t=some e) (sch:List Int) {most:Nat} (hm:3000≤most):drive F [t] sch [] most=(e.1,[e.2]):=by
 unfold yH at h
 cases hr:runP c 400 (turn F t) with
 |none=>rw [hr] at h;cases h
 |some x=>
  obtain ⟨k,e'⟩:=x
  rw [hr] at h
  simp only at h
  split at h
  ·rename_i hk
   have:=Bv (sch:=sch) (most:=most) ⟨hf,E6 hs c,hc⟩ hr (by omega)
   rw [this]
   cases h
   rfl
  ·cases h
def noN:aP:=⟨[],true⟩
def zV (F:Fab) (i:Nat):aP:=F.nodes.getD i noN
structure EqN (a b:aP) (lines:Nat):Prop where
 up:b.down=false
 page:∀ l,96≤l→l<lines→a.page l=b.page l∧a.get (l * 8) % 256=0
 clock:∀ c,c<6→a.get (32+c)=b.get (32+c)∧a.get (24+c)=b.get (24+c)
end Go.Proofs.YtegepanmkjemjaaGreat.C12
namespace Go.Proofs.YtegepanmkjemjaaGreat
open Go.Eng
theorem TW.more {A:Nat→Prop} {χ:Nat→Tag} {w u u':World} {fb:Nat} {L B:Nat→Prop} {ξ:Nat→Tag} {X:FabX} (t:TW A χ w fb L u B ξ X) (hn:New u u'):TW A χ w fb (λk=>L k∨(u.heap.size≤k∧k<u'.heap.size)) u' B ξ X:=by
 have hs:=t.next.keep.size
 refine ⟨⟨t.next.keep.trans hn λk hlt hs=>hs.elim,t.next.grow,t.next.iff⟩,?_,λk hk=>?_⟩
 ·refine (t.fab.widen hn).recolor (λk hk=>?_) λk hk=>.inl ((t.next.iff k).2 (.inl hk))
  rcases hk with hk | hk | hk
  ·exact .inl (.inl hk)
  ·exact .inl (.inr hk)
  ·exact .inr hk
 ·rcases hk with hk | hk
  ·have:=t.loc k hk
   exact ⟨this.1,Nat.lt_of_lt_of_le this.2.1 hn.size,this.2.2⟩
  ·exact ⟨by omega,hk.2,t.fab.fresh hk.1⟩
theorem TW.out {A:Nat→Prop} {χ:Nat→Tag} {w u:World} {fb:Nat} {L B:Nat→Prop} {ξ:Nat→Tag} {X:FabX} (t:TW A χ w fb L u B ξ X) {k:Nat} (hk:L k):¬ B k:=λhb=>by
 obtain ⟨h1,h2,h3⟩:=t.loc k hk
 rcases (t.next.iff k).1 hb with h | h
 ·exact h h3
 ·omega
theorem TW.mine {A:Nat→Prop} {χ:Nat→Tag} {w0 w u:World} {fb:Nat} {L B:Nat→Prop} {ξ:Nat→Tag} {X X0:FabX} (t:TW A χ w fb L u B ξ X) (hF:aY A χ w fb X0) (hn:New w0 w) (hA:∀ k,A k→w0.heap.size≤k):New w0 u:=
 hn.trans t.next.keep λk hk hc=>by
  have:=hA k (hF.avoid k hc)
  omega
theorem Dh {A:Nat→Prop} {χ:Nat→Tag} {w:World} {fb:Nat} {X:FabX} (h:aY A χ w fb X) {c:Nat} {C:Comp} (hc:X.pure.clients[c]?=some C):Does 34 [ptr fb,.int .i64 c] w λv w'=>v=.int .i64 C.posted∧w'=w:=by
 refine does Tryz.func34 ?_
 rw [ptr,m4]
 have hx:∃ x,X.clients[c]?=some x∧x.pure=C:=by simpa [FabX.pure] using hc
 obtain ⟨x,h1,rfl⟩:=hx
 refine aE (gB h h1) ?_
 rintro v w' ⟨rfl,rfl⟩
 exact ⟨_,rfl,⟨_,h.ccell (k:=6) h1 rfl,rfl,rfl⟩⟩
abbrev TFo:TypeId:=40
def fofC (fb:Nat) (lines:Int) (r:aM):List Value:=[ptr fb,.int .i64 lines,.int .i64 r.Number,.slice r.Members r.Members_l r.Members_c]
def vA (n:Nat):Vw:=⟨0,stM n⟩
structure Made (w u:World) (n lines:Nat) (fb p:Nat) (A:Nat→Prop) (χ:Nat→Tag) (X:FabX) (r:aM):Prop where
 fab:aY A χ u fb X
 pure:X.pure=Fab.fresh n 6 lines
 new:New w u
 own:∀ k,A k→w.heap.size≤k
 box:Blk u p (fofC fb lines r) TFo
 out:¬ A p
 view:ViewAt A u r (vA n)
theorem E7 {w:World} {n:Nat} (hn:1≤n∧n≤5) {x:Int} (hx:I64 x):Does 12 [.int .i64 n,.int .i64 x] w λv u=>∃ fb p A χ X r,v=.tuple #[ptr p,.bool true]∧Made w u n (98+(x % 7).toNat) fb p A χ X r:=by
 refine does Tryz.func12 ?_
 rw [pk]
 have e:(98+x % 7:Int)=((98+(x % 7).toNat:Nat):Int):=by omega
 refine aE (xG _ hx) ?_
 rintro v u1 ⟨rfl,rfl⟩
 rw [e]
 refine ⟨_,rfl,?_⟩
 refine aE (A8 (c:=6) (lines:=98+(x % 7).toNat) hn (by omega) (by omega)) ?_
 rintro v u2 ⟨fb,A,χ,X,rfl,hF,hn2,hA,hX⟩
 refine ⟨_,_,rfl,?_⟩
 refine aE (xG _ hx) ?_
 rintro v u3 ⟨rfl,rfl⟩
 rw [e]
 refine ⟨_,rfl,?_⟩
 refine aE (q8 _ (n:=n) (by omega) (by omega)) ?_
 rintro v u4 ⟨r,vw,rfl,hv,hn4,_,rfl⟩
 refine aM.mk_ex r ⟨rfl,?_⟩
 rintro b1 u5 hb1 hu5
 obtain ⟨hz5,hn5⟩:=aN hb1 hu5
 clear hu5
 have hs4:=hn4.size
 refine ⟨fb,b1,A,χ,X,r,rfl,(hF.new hn4).new hn5,hX,(hn2.new hn4).new hn5,hA,hz5,λh=>?_,?_⟩
 ·have:=hF.low _ h
  omega
 ·have h1:ViewAt A u4 r ⟨0,stM (n:Int).toNat⟩:=hv.mono λk _ hk=>hF.low k hk
  exact h1.new hn5
def ns (l:List Nat):List Int:=l.map Int.ofNat
end Go.Proofs.YtegepanmkjemjaaGreat
