import Derived.Test.YtegepanmkjemjaaGreatProg
import Derived.Test.YtegepanmkjemjaaGreatw03
import Derived.Test.YtegepanmkjemjaaGreatw16
set_option linter.unusedVariables false
namespace Go.Proofs.YtegepanmkjemjaaGreat
open Go.Proofs.Tryz
open Go.Eng IntKind
variable (w:World) (R:Value→World→Prop)
def dZ (s1:Addr) (a:Option Addr) (b c:Nat) (d f:Int) (j:LV):LV:=[jg j 0,(.pointer (some s1)),jg j 1,jg j 2,jg j 3,jg j 4,jg j 5,jg j 6,jg j 7,jg j 8,jg j 9,jg j 10,jg j 11,jg j 12,jg j 13,jg j 14,jg j 15,jg j 16,jg j 17,jg j 18,jg j 19,jg j 20,jg j 21,jg j 22,jg j 23,jg j 24,jg j 25,jg j 26,jg j 27,jg j 28,jg j 29,jg j 30,jg j 31,jg j 32,jg j 33,jg j 34,jg j 35,jg j 36,jg j 37,jg j 38,jg j 39,jg j 40,jg j 41,jg j 42,jg j 43,jg j 44,jg j 45,jg j 46,(.slice a b c),(.int .i64 d),(.int .i64 f),jg j 47,jg j 48,jg j 49,jg j 50,jg j 51,jg j 52,jg j 53,jg j 54,jg j 55,jg j 56,jg j 57,jg j 58,jg j 59,jg j 60,jg j 61,jg j 62,jg j 63,jg j 64,jg j 65,jg j 66,jg j 67,jg j 68,jg j 69,jg j 70,jg j 71,jg j 72,jg j 73,jg j 74,jg j 75,jg j 76,jg j 77,jg j 78,jg j 79,jg j 80,jg j 81,jg j 82,jg j 83,jg j 84,jg j 85,jg j 86,jg j 87,jg j 88,jg j 89,jg j 90,jg j 91]
def mj (a:Addr) (j:LV):LV:=jq j 0 1 (.pointer (some a)::jq j 1 94 [])
def eY (s1:Addr) (a:Option Addr) (b c:Nat) (d f:Int) (j:LV):LV:=jq j 0 1 (.pointer (some s1)::jq j 1 60 (.slice a b c::.int .i64 d::.int .i64 f::jq j 61 31 []))
def ml  (j:LV):LV:=jq j 0 96 []
theorem tg (p0:aH):fnW prog f106 [p0.val] R w=(∀ b1 w1,b1=w.heap.size→w1=w.alloc (.cells p0.cells.toArray 34)→∃ a,w1.cell? ⟨b1,0,none⟩=some (.int .i64 a)∧(bif (decide ((a:Int)<0)) then (R (.int .i64 1) w1) else (∃ b,w1.cell? ⟨b1,0,none⟩=some (.int .i64 b)∧(bif (decide ((b:Int)≥6)) then (R (.int .i64 1) w1) else (aM.ex λab=>aG w1 ⟨b1,3,none⟩ 0 ab.cells∧Calls prog 141 #[ab.val,.int .i64 5] w1 λe w2=>∃ (c:Int),e=.returned (.int .i64 c)∧(bif ((c:Int) != 0) then (R (.int .i64 c) w2) else (∃ d,w2.cell? ⟨b1,2,none⟩=some (.int .i64 d)∧(bif (decide ((d:Int)<98)) then (R (.int .i64 18) w2) else (∃ f,w2.cell? ⟨b1,2,none⟩=some (.int .i64 f)∧(bif (decide ((f:Int)>256)) then (R (.int .i64 18) w2) else (∃ g h i,w2.cell? ⟨b1,6,none⟩=some (.slice g h i)∧(bif (decide (((h:Nat):Int)>0)) then (∀ w3,w3=w2.drew→∃ Sx:World→Prop,Sx w3∧aH.ex λr=>(∀ u,Sx u→aG u ⟨b1,0,none⟩ 0 r.cells)∧∃ k,(∀ u,Sx u→u.cell? ⟨b1,2,none⟩=some (.int .i64 k))∧Calls prog 143 #[r.val] w3 λe w4=>aS.ex λac=>e=.returned ac.val∧Sx w4∧Calls prog 142 #[ac.val,.int .i64 k] w4 λe w5=>∃ (l:Int),e=.returned (.int .i64 l)∧Sx w5∧(bif ((l:Int) != 0) then (R (.int .i64 l) w5) else (∃ m n o,w5.cell? ⟨b1,5,none⟩=some (.slice m n o)∧(bif (decide (((n:Nat):Int)>24)) then (R (.int .i64 18) w5) else (∃ p q s,w5.cell? ⟨b1,5,none⟩=some (.slice p q s)∧bS prog (.loop (sub (aD f106) [1,1,1,1,1,1,0,1,0,0])) (dZ ⟨b1,0,none⟩ p q s (q:Nat) 0 (p0.val::ji 0::ji c::ji l::uq 4 (jp ⟨b1,0,none⟩::ji a::jb (decide ((a:Int)<0))::jb false::jp ⟨b1,0,none⟩::ji b::jb (decide ((b:Int)≥6))::jb (decide ((b:Int)≥6))::jp ⟨b1,3,none⟩::ab.val::ji c::ji c::jb ((c:Int) != 0)::undef::jp ⟨b1,2,none⟩::ji d::jb (decide ((d:Int)<98))::jb false::jp ⟨b1,2,none⟩::ji f::jb (decide ((f:Int)>256))::jb (decide ((f:Int)>256))::jp ⟨b1,6,none⟩::js g h i::jn h::jb (decide (((h:Nat):Int)>0))::r.val::ac.val::jp ⟨b1,2,none⟩::ji k::ji l::ji l::jb ((l:Int) != 0)::undef::jp ⟨b1,5,none⟩::js m n o::jn n::jb (decide (((n:Nat):Int)>24))::jp ⟨b1,5,none⟩::uq 45 []))) (aI 0 (nx f106 [1,1,1,1,1,1,1] R)) w5))))) else (∃ t v x,w2.cell? ⟨b1,5,none⟩=some (.slice t v x)∧(bif (decide (((v:Nat):Int)>24)) then (R (.int .i64 18) w2) else (∃ y z aa,w2.cell? ⟨b1,5,none⟩=some (.slice y z aa)∧bS prog (.loop (sub (aD f106) [1,1,1,1,1,1,0,1,0,0])) (dZ ⟨b1,0,none⟩ y z aa (z:Nat) 0 (p0.val::ji 0::ji c::uq 5 (jp ⟨b1,0,none⟩::ji a::jb (decide ((a:Int)<0))::jb false::jp ⟨b1,0,none⟩::ji b::jb (decide ((b:Int)≥6))::jb (decide ((b:Int)≥6))::jp ⟨b1,3,none⟩::ab.val::ji c::ji c::jb ((c:Int) != 0)::undef::jp ⟨b1,2,none⟩::ji d::jb (decide ((d:Int)<98))::jb false::jp ⟨b1,2,none⟩::ji f::jb (decide ((f:Int)>256))::jb (decide ((f:Int)>256))::jp ⟨b1,6,none⟩::js g h i::jn h::jb (decide (((h:Nat):Int)>0))::uq 8 (jp ⟨b1,5,none⟩::js t v x::jn v::jb (decide (((v:Nat):Int)>24))::jp ⟨b1,5,none⟩::uq 45 [])))) (aI 0 (nx f106 [1,1,1,1,1,1,1] R)) w2))))))))))))))):=by kernel_rfl
theorem mO (s1:Addr) (a:Option Addr) (b c:Nat) (d f:Int) (j:LV) (N1:LV→World→Prop):W prog (sub (aD f106) [1,1,1,1,1,1,0,1,0,0]) (dZ s1 a b c d f j) (seqQ N1 (aI 0 (nx f106 [1,1,1,1,1,1,1] R))) w=((bif (decide ((f:Int)<d)) then (idxS a b f 2 λad=>aU.ex λr=>aG w ad 0 r.cells∧∀ b1 w1,b1=w.heap.size→w1=w.alloc (.cells #[.int .i64 0,.int .u64 0] 71)→wrAt w1 ⟨b1,0,none⟩ 0 r.cells∧∀ w2,w2=puts w1 ⟨b1,0,none⟩ 0 r.cells→∃ g,w2.cell? ⟨b1,0,none⟩=some (.int .i64 g)∧∃ h,w2.cell? ⟨s1.block,s1.off+2,none⟩=some (.int .i64 h)∧Calls prog 144 #[.int .i64 g,.int .i64 h] w2 λe w3=>∃ i,e=.returned (.bool i)∧(bif (!i) then (R (.int .i64 2) w3) else (N1 (dZ s1 a b c d (i64.wrap (f+1)) (jq j 0 5 (jp ⟨b1,0,none⟩::jq j 6 41 (jb (decide ((f:Int)<d))::jp ad::r.val::jp ⟨b1,0,none⟩::ji g::jf s1 2::ji h::jb i::jb (!i)::ji (i64.wrap (f+1))::jq j 57 35 [])))) w3))) else (W prog (sub (aD f106) [1,1,1,1,1,1,1]) (mj s1 (jq j 0 47 (js a b c::ji d::ji f::jb (decide ((f:Int)<d))::jq j 48 44 []))) (retQ prog f106 R) w))):=by kernel_rfl
theorem oU (a:Addr) (j:LV):W prog (sub (aD f106) [1,1,1,1,1,1,1]) (mj a j) (retQ prog f106 R) w=(∃ b c d,w.cell? ⟨a.block,a.off+5,none⟩=some (.slice b c d)∧bS prog (.loop (sub (aD f106) [1,1,1,1,1,1,1,0,1,0,0])) (eY a b c d (c:Nat) 0 (jq j 0 60 (jf a 5::jq j 64 31 []))) (aI 2 (nx f106 [1,1,1,1,1,1,1,1] R)) w):=by kernel_rfl
theorem mP (s1:Addr) (a:Option Addr) (b c:Nat) (d f:Int) (j:LV) (N2:LV→World→Prop):W prog (sub (aD f106) [1,1,1,1,1,1,1,0,1,0,0]) (eY s1 a b c d f j) (seqQ N2 (aI 2 (nx f106 [1,1,1,1,1,1,1,1] R))) w=((bif (decide ((f:Int)<d)) then (idxS a b f 2 λad=>aU.ex λr=>aG w ad 0 r.cells∧∀ b1 w1,b1=w.heap.size→w1=w.alloc (.cells #[.int .i64 0,.int .u64 0] 71)→wrAt w1 ⟨b1,0,none⟩ 0 r.cells∧∀ w2,w2=puts w1 ⟨b1,0,none⟩ 0 r.cells→∀ w3,w3=w2.drew→∃ Sx:World→Prop,Sx w3∧(bif (decide ((f:Int)>0)) then (∃ g,(∀ u,Sx u→u.cell? ⟨b1,0,none⟩=some (.int .i64 g))∧∃ h i k,(∀ u,Sx u→u.cell? ⟨s1.block,s1.off+5,none⟩=some (.slice h i k))∧idxS h i (i64.wrap (f - 1)) 2 λx=>∃ l,(∀ u,Sx u→u.cell? x=some (.int .i64 l))∧(bif (decide ((g:Int)≤l)) then (R (.int .i64 1) w3) else (∃ m,(∀ u,Sx u→u.cell? ⟨b1,1,none⟩=some (.int .u64 m))∧Calls prog 145 #[.int .u64 m] w3 λe w4=>∃ (n:Bool),e=.returned (.bool n)∧Sx w4∧(bif (!n) then (R (.int .i64 1) w4) else (aH.ex λr1=>(∀ u,Sx u→aG u s1 0 r1.cells)∧∃ o,(∀ u,Sx u→u.cell? ⟨b1,0,none⟩=some (.int .i64 o))∧Calls prog 146 #[r1.val,.int .i64 o] w4 λe w5=>∃ (p:Bool),e=.returned (.bool p)∧Sx w5∧(bif p then (R (.int .i64 1) w5) else (N2 (eY s1 a b c d (i64.wrap (f+1)) (jq j 0 6 (ji f::jp ⟨b1,0,none⟩::jq j 8 53 [jb (decide ((f:Int)<d)),ji f,jp ad,r.val,ji f,jb (decide ((f:Int)>0)),jb true,jp ⟨b1,0,none⟩,ji g,jf s1 5,js h i k,ji f,ji (i64.wrap (f - 1)),jp x,jp x,ji l,jb (decide ((g:Int)≤l)),jb (decide ((g:Int)≤l)),jb false,jp ⟨b1,1,none⟩,ju m,jb n,jb (!n),jb (!n),jb false,r1.val,jp ⟨b1,0,none⟩,ji o,jb p,jb p,ji (i64.wrap (f+1))]))) w5))))))) else (∃ q,(∀ u,Sx u→u.cell? ⟨b1,1,none⟩=some (.int .u64 q))∧Calls prog 145 #[.int .u64 q] w3 λe w6=>∃ (s:Bool),e=.returned (.bool s)∧Sx w6∧(bif (!s) then (R (.int .i64 1) w6) else (aH.ex λr2=>(∀ u,Sx u→aG u s1 0 r2.cells)∧∃ t,(∀ u,Sx u→u.cell? ⟨b1,0,none⟩=some (.int .i64 t))∧Calls prog 146 #[r2.val,.int .i64 t] w6 λe w7=>∃ (v:Bool),e=.returned (.bool v)∧Sx w7∧(bif v then (R (.int .i64 1) w7) else (N2 (eY s1 a b c d (i64.wrap (f+1)) (jq j 0 6 (ji f::jp ⟨b1,0,none⟩::jq j 8 53 (jb (decide ((f:Int)<d))::ji f::jp ad::r.val::ji f::jb (decide ((f:Int)>0))::jb false::uq 10 [jb false,jb false,jp ⟨b1,1,none⟩,ju q,jb s,jb (!s),jb (!s),jb false,r2.val,jp ⟨b1,0,none⟩,ji t,jb v,jb v,ji (i64.wrap (f+1))])))) w7))))))) else (W prog (sub (aD f106) [1,1,1,1,1,1,1,1]) (ml  (jg j 0::jp s1::jq j 1 60 (js a b c::ji d::ji f::jb (decide ((f:Int)<d))::jq j 62 30 []))) (retQ prog f106 R) w))):=by kernel_rfl
theorem oV  (j:LV):W prog (sub (aD f106) [1,1,1,1,1,1,1,1]) (ml  j) (retQ prog f106 R) w=(R (.int .i64 0) w):=by kernel_rfl
def dG (s2:Addr) (a:Option Addr) (b c:Nat) (d f:Int) (j:LV):LV:=jq j 0 2 (.pointer (some s2)::jq j 2 39 (.slice a b c::.int .i64 d::.int .i64 f::jq j 41 41 []))
def mn (a:Addr) (j:LV):LV:=jq j 0 2 (.pointer (some a)::jq j 2 83 [])
def gO (a:Option Addr) (b c:Nat) (d f:Int) (j:LV):LV:=jq j 0 65 (.slice a b c::.int .i64 d::.int .i64 f::jq j 65 18 [])
def mo  (j:LV):LV:=jq j 0 86 []
theorem th (p0:aS) (p1:Int):fnW prog f142 [p0.val,.int .i64 p1] R w=(∀ b1 w1,b1=w.heap.size→w1=w.alloc (.cells p0.cells.toArray 252)→∀ b2 w2,b2=w1.heap.size→w2=w1.alloc (.cells #[.int .i64 p1] 3)→∃ x,w2.cell? ⟨b2,0,none⟩=some (.int .i64 x)∧Calls prog 174 #[.int .i64 x] w2 λe w3=>∃ (a:Bool),e=.returned (.bool a)∧(bif (!a) then (R (.int .i64 18) w3) else (∃ b,w3.cell? ⟨b1,0,none⟩=some (.int .i64 b)∧(bif (decide ((b:Int)<1)) then (R (.int .i64 1) w3) else (∃ c,w3.cell? ⟨b1,0,none⟩=some (.int .i64 c)∧(bif (decide ((c:Int)≥1073741824)) then (R (.int .i64 1) w3) else (∃ d f g,w3.cell? ⟨b1,1,none⟩=some (.slice d f g)∧(bif (decide (((f:Nat):Int)<1)) then (R (.int .i64 1) w3) else (∃ h i k,w3.cell? ⟨b1,1,none⟩=some (.slice h i k)∧(bif (decide (((i:Nat):Int)>12)) then (R (.int .i64 1) w3) else (∃ l m n,w3.cell? ⟨b1,1,none⟩=some (.slice l m n)∧Calls prog 175 #[.slice l m n,.func (.func 176) #[] #[.pointer (some ⟨b2,0,none⟩)]] w3 λe w4=>∃ (o:Bool),e=.returned (.bool o)∧(bif o then (R (.int .i64 2) w4) else (∃ p q r,w4.cell? ⟨b1,1,none⟩=some (.slice p q r)∧bS prog (.loop (sub (aD f142) [1,1,0,1,0,0])) (dG ⟨b1,0,none⟩ p q r (q:Nat) 0 (p0.val::ji p1::jp ⟨b2,0,none⟩::ji 0::uq 6 (jb (!a)::ji x::jb a::jb (!a)::jb (decide (((i:Nat):Int)>12))::jp ⟨b1,0,none⟩::ji b::jb (decide ((b:Int)<1))::jb false::jp ⟨b1,0,none⟩::ji c::jb (decide ((c:Int)≥1073741824))::jb (decide ((c:Int)≥1073741824))::jb false::jp ⟨b1,1,none⟩::js d f g::jn f::jb (decide (((f:Nat):Int)<1))::jb (decide (((f:Nat):Int)<1))::jb false::jp ⟨b1,1,none⟩::js h i k::jn i::jb (decide (((i:Nat):Int)>12))::jb (decide (((i:Nat):Int)>12))::jb o::jp ⟨b1,1,none⟩::js l m n::.func (.func 176) #[] #[.pointer (some ⟨b2,0,none⟩)]::jb o::jp ⟨b1,1,none⟩::uq 41 []))) (aI 1 (nx f142 [1,1,1] R)) w4))))))))))))):=by kernel_rfl
theorem mQ (s2:Addr) (a:Option Addr) (b c:Nat) (d f:Int) (j:LV) (N1:LV→World→Prop):W prog (sub (aD f142) [1,1,0,1,0,0]) (dG s2 a b c d f j) (seqQ N1 (aI 1 (nx f142 [1,1,1] R))) w=((bif (decide ((f:Int)<d)) then (idxS a b f 9 λad=>aB.ex λr=>aG w ad 0 r.cells∧∀ b1 w1,b1=w.heap.size→w1=w.alloc (.cells #[.int .i64 0,.int .u64 0,.int .u64 0,.int .u64 0,.int .u64 0,.int .u64 0,.int .u64 0,.int .u64 0,.int .u64 0] 55)→wrAt w1 ⟨b1,0,none⟩ 0 r.cells∧∀ w2,w2=puts w1 ⟨b1,0,none⟩ 0 r.cells→∀ w3,w3=w2.drew→∃ Sx:World→Prop,Sx w3∧(bif (decide ((f:Int)>0)) then (∃ g,(∀ u,Sx u→u.cell? ⟨b1,0,none⟩=some (.int .i64 g))∧∃ h i k,(∀ u,Sx u→u.cell? ⟨s2.block,s2.off+1,none⟩=some (.slice h i k))∧idxS h i (i64.wrap (f - 1)) 9 λm=>∃ l,(∀ u,Sx u→u.cell? m=some (.int .i64 l))∧(bif (decide ((g:Int)≤l)) then (R (.int .i64 1) w3) else (N1 (dG s2 a b c d (i64.wrap (f+1)) (jq j 0 4 (ji f::jp ⟨b1,0,none⟩::jq j 6 35 (jb (decide ((f:Int)<d))::ji f::jp ad::r.val::ji f::jb (decide ((f:Int)>0))::jb true::jp ⟨b1,0,none⟩::ji g::jf s2 1::js h i k::ji f::ji (i64.wrap (f - 1))::jp m::jp m::ji l::jb (decide ((g:Int)≤l))::jb (decide ((g:Int)≤l))::ji (i64.wrap (f+1))::jq j 60 22 [])))) w3))) else (N1 (dG s2 a b c d (i64.wrap (f+1)) (jq j 0 4 (ji f::jp ⟨b1,0,none⟩::jq j 6 35 (jb (decide ((f:Int)<d))::ji f::jp ad::r.val::ji f::jb (decide ((f:Int)>0))::jb false::uq 10 (jb false::ji (i64.wrap (f+1))::jq j 60 22 []))))) w3))) else (W prog (sub (aD f142) [1,1,1]) (mn s2 (jq j 0 41 (js a b c::ji d::ji f::jb (decide ((f:Int)<d))::jq j 42 40 []))) (retQ prog f142 R) w))):=by kernel_rfl
theorem oW (a:Addr) (j:LV):W prog (sub (aD f142) [1,1,1]) (mn a j) (retQ prog f142 R) w=(∃ b c d,w.cell? ⟨a.block,a.off+1,none⟩=some (.slice b c d)∧bS prog (.loop (sub (aD f142) [1,1,1,0,1,0,0])) (gO b c d (c:Nat) 0 (jg j 0::jg j 1::jp a::jq j 2 61 (jf a 1::jq j 67 18 []))) (aI 3 (nx f142 [1,1,1,1] R)) w):=by kernel_rfl
theorem mR (a:Option Addr) (b c:Nat) (d f:Int) (j:LV) (N2:LV→World→Prop):W prog (sub (aD f142) [1,1,1,0,1,0,0]) (gO a b c d f j) (seqQ N2 (aI 3 (nx f142 [1,1,1,1] R))) w=((bif (decide ((f:Int)<d)) then (idxS a b f 9 λad=>aB.ex λr=>aG w ad 0 r.cells∧∀ b1 w1,b1=w.heap.size→w1=w.alloc (.cells #[.int .i64 0,.int .u64 0,.int .u64 0,.int .u64 0,.int .u64 0,.int .u64 0,.int .u64 0,.int .u64 0,.int .u64 0] 55)→wrAt w1 ⟨b1,0,none⟩ 0 r.cells∧∀ w2,w2=puts w1 ⟨b1,0,none⟩ 0 r.cells→∃ g,w2.cell? ⟨b1,1,none⟩=some (.int .u64 g)∧Calls prog 177 #[.int .u64 g] w2 λe w3=>∃ h i,e=.returned (.tuple #[.int .u64 h,.int .i64 i])∧(bif ((i:Int) != 0) then (R (.int .i64 1) w3) else (∃ k,w3.cell? ⟨b1,1,none⟩=some (.int .u64 k)∧Calls prog 145 #[.int .u64 k] w3 λe w4=>∃ l,e=.returned (.bool l)∧(bif (!l) then (R (.int .i64 1) w4) else (N2 (gO a b c d (i64.wrap (f+1)) (jq j 0 8 (jp ⟨b1,0,none⟩::ju h::ji i::jq j 11 54 [jb (decide ((f:Int)<d)),jp ad,r.val,.tuple #[.int .u64 h,.int .i64 i],jp ⟨b1,1,none⟩,ju g,.tuple #[.int .u64 h,.int .i64 i],ju h,ji i,ji i,jb ((i:Int) != 0),jb false,jp ⟨b1,1,none⟩,ju k,jb l,jb (!l),jb (!l),ji (i64.wrap (f+1))]))) w4))))) else (W prog (sub (aD f142) [1,1,1,1]) (mo  (jq j 0 65 (js a b c::ji d::ji f::jb (decide ((f:Int)<d))::jq j 66 17 []))) (retQ prog f142 R) w))):=by kernel_rfl
theorem oX  (j:LV):W prog (sub (aD f142) [1,1,1,1]) (mo  j) (retQ prog f142 R) w=(R (.int .i64 0) w):=by kernel_rfl
theorem oY (p0:aH):fnW prog f143 [p0.val] R w=(∀ b1 w1,b1=w.heap.size→w1=w.alloc (.cells p0.cells.toArray 34)→∀ b2 w2,b2=w1.heap.size→w2=w1.alloc (.cells #[.int .i64 0,.slice none 0 0] 252)→∃ a,w2.cell? ⟨b1,1,none⟩=some (.int .i64 a)∧∃ b c d,w2.cell? ⟨b1,6,none⟩=some (.slice b c d)∧wrAt w2 ⟨b2,0,none⟩ 0 [.int .i64 a,.slice b c d]∧∀ w3,w3=puts w2 ⟨b2,0,none⟩ 0 [.int .i64 a,.slice b c d]→aS.ex λf=>aG w3 ⟨b2,0,none⟩ 0 f.cells∧w3=w3∧R f.val w3):=by kernel_rfl
def ei (s1:Int) (s8:Option Addr) (a b:Nat) (s9 c:Int) (j:LV):LV:=jq j 0 1 (.int .i64 s1::jq j 1 6 (.slice s8 a b::.int .i64 s9::.int .i64 c::jq j 7 8 []))
def jd  (j:LV):LV:=jq j 0 19 []
theorem oZ (p0:aH) (p1:Int):fnW prog f146 [p0.val,.int .i64 p1] R w=(∀ b1 w1,b1=w.heap.size→w1=w.alloc (.cells p0.cells.toArray 34)→∃ a b c,w1.cell? ⟨b1,6,none⟩=some (.slice a b c)∧bS prog (.loop (sub (aD f146) [1,0,1,0,0])) (ei p1 a b c (b:Nat) 0 (p0.val::jp ⟨b1,0,none⟩::undef::jb false::uq 2 (jp ⟨b1,6,none⟩::uq 8 []))) (aI 0 (nx f146 [1,1] R)) w1):=by kernel_rfl
theorem kB (s1:Int) (s8:Option Addr) (a b:Nat) (s9 c:Int) (j:LV) (N1:LV→World→Prop):W prog (sub (aD f146) [1,0,1,0,0]) (ei s1 s8 a b s9 c j) (seqQ N1 (aI 0 (nx f146 [1,1] R))) w=((bif (decide ((c:Int)<s9)) then (idxS s8 a c 9 λad=>aB.ex λr=>aG w ad 0 r.cells∧∀ b1 w1,b1=w.heap.size→w1=w.alloc (.cells #[.int .i64 0,.int .u64 0,.int .u64 0,.int .u64 0,.int .u64 0,.int .u64 0,.int .u64 0,.int .u64 0,.int .u64 0] 55)→wrAt w1 ⟨b1,0,none⟩ 0 r.cells∧∀ w2,w2=puts w1 ⟨b1,0,none⟩ 0 r.cells→∃ d,w2.cell? ⟨b1,0,none⟩=some (.int .i64 d)∧(bif ((d:Int) == s1) then (R (.bool true) w2) else (N1 (ei s1 s8 a b s9 (i64.wrap (c+1)) (jq j 0 5 [jp ⟨b1,0,none⟩,jg j 6,jb (decide ((c:Int)<s9)),jp ad,r.val,jp ⟨b1,0,none⟩,ji d,ji s1,jb ((d:Int) == s1),ji (i64.wrap (c+1))])) w2))) else (W prog (sub (aD f146) [1,1]) (jd  (jg j 0::ji s1::jq j 1 6 (js s8 a b::ji s9::ji c::jb (decide ((c:Int)<s9))::jq j 8 7 []))) (retQ prog f146 R) w))):=by kernel_rfl
theorem lN  (j:LV):W prog (sub (aD f146) [1,1]) (jd  j) (retQ prog f146 R) w=(R (.bool false) w):=by kernel_rfl
theorem ro (p0:Int):fnW prog f174 [.int .i64 p0] R w=((bif (decide ((p0:Int)≥98)) then (R (.bool (decide ((p0:Int)≤256))) w) else (R (.bool false) w))):=by kernel_rfl
theorem fO (p0:Option Addr) (a b:Nat) (p1:Value):fnW prog f175 [.slice p0 a b,p1] R w=(Calls prog 196 #[.slice p0 a b,p1] w λe w1=>∃ c,e=.returned (.int .i64 c)∧R (.bool (decide ((c:Int)≥0))) w1):=by kernel_rfl
theorem rp (p0:aB) (c0:Nat):fnW prog f176 [p0.val,.pointer (some ⟨c0,0,none⟩)] R w=(∀ b1 w1,b1=w.heap.size→w1=w.alloc (.cells p0.cells.toArray 55)→∃ a,w1.cell? ⟨b1,0,none⟩=some (.int .i64 a)∧(bif (decide ((a:Int)<96)) then (R (.bool true) w1) else (∃ b,w1.cell? ⟨b1,0,none⟩=some (.int .i64 b)∧∃ x,w1.cell? ⟨c0,0,none⟩=some (.int .i64 x)∧R (.bool (decide ((b:Int)≥x))) w1))):=by kernel_rfl
def bK (s0:Option Addr) (a b:Nat) (s1:Value) (s7 s8:Int) (j:LV):LV:=.slice s0 a b::s1::jq j 0 5 (.int .i64 s7::.int .i64 s8::jq j 5 10 [])
def dH  (j:LV):LV:=jq j 0 19 []
theorem gP (p0:Option Addr) (a b:Nat) (p1:Value):fnW prog f196 [.slice p0 a b,p1] R w=(bS prog (.loop (sub (aD f196) [1,0,1,0,0])) (bK p0 a b p1 (a:Nat) 0 (uq 2 (ji 0::undef::js p0 a b::uq 10 []))) (aI 0 (nx f196 [1,1] R)) w):=by kernel_rfl
theorem eQ (s0:Option Addr) (a b:Nat) (s1:Value) (s7 s8:Int) (j:LV) (N1:LV→World→Prop):W prog (sub (aD f196) [1,0,1,0,0]) (bK s0 a b s1 s7 s8 j) (seqQ N1 (aI 0 (nx f196 [1,1] R))) w=((bif (decide ((s8:Int)<s7)) then (idxS s0 a s8 9 λad=>aB.ex λr=>aG w ad 0 r.cells∧oM prog s1 #[r.val] w λe w1=>∃ c,e=.returned (.bool c)∧(bif c then (R (.int .i64 s8) w1) else (N1 (bK s0 a b s1 s7 (i64.wrap (s8+1)) [jg j 0,jg j 1,jg j 2,ji s8,jg j 4,jb (decide ((s8:Int)<s7)),ji s8,s1,js s0 a b,ji s8,jp ad,r.val,jb c,jg j 13,ji (i64.wrap (s8+1))]) w1))) else (W prog (sub (aD f196) [1,1]) (dH  (js s0 a b::s1::jq j 0 5 (ji s7::ji s8::jb (decide ((s8:Int)<s7))::jq j 6 9 []))) (retQ prog f196 R) w))):=by kernel_rfl
theorem fD  (j:LV):W prog (sub (aD f196) [1,1]) (dH  j) (retQ prog f196 R) w=(R (.int .i64 (-1)) w):=by kernel_rfl
end Go.Proofs.YtegepanmkjemjaaGreat
namespace Go.Proofs.YtegepanmkjemjaaGreat
open Go.Proofs.Tryz
open Go.Eng
abbrev TPg:TypeId:=55
def eI (l:List aB):List (List Value):=l.map aB.cells
def noP:aB:=⟨0,0,0,0,0,0,0,0,0⟩
def unl (h:Int):Bool:=band .u64 h 255 == 0
def lE (h:Int):Bool:=decide (1≤bshr .u64 h 8∧bshr .u64 h 8≤281474976710654)
def je (p:aB):Bool:=lE p.Head && unl p.Head
def ascP (l:List aB) (i:Nat):Bool:=decide (i=0) || decide ((l.getD (i - 1) noP).Line<(l.getD i noP).Line)
def iK (seq:Int) (W:List aB) (lines:Int):Int:=
 if ¬ (98≤lines∧lines≤256) then 18 else if seq<1∨1073741824≤seq∨W.length<1∨12<W.length then 1
 else if W.all (λp=>g8 p.Line lines)=false then 2 else if (List.range W.length).all (λi=>ascP W i && je (W.getD i noP))=false then 1 else 0
theorem Ew {h:Int} (h0:U64 h):0≤bshr .u64 h 8∧bshr .u64 h 8<18446744073709551615:=by
 have e:bshr .u64 h 8=h / 256:=by
  show Int.fdiv h 256=_
  rw [Int.fdiv_eq_ediv_of_nonneg _ (by decide)]
 have:=h0.1
 have:=h0.2
 omega
theorem CJ (w:World) (h:Int):Does 145 [.int .u64 h] w λv w'=>v=.bool (unl h)∧w'=w:=by
 refine does Tryz.func145 ?_
 rw [si]
 exact ⟨rfl,rfl⟩
theorem AY (w:World) (h:Int):Does 197 [.int .u64 h] w λv w'=>v=.tuple #[.int .u64 (bshr .u64 h 8),.int .i64 (IntKind.i64.wrap (band .u64 h 255))]∧w'=w:=by
 refine does Tryz.func197 ?_
 rw [pN]
 exact ⟨rfl,rfl⟩
theorem FV {a b c:Int} {w:World} (h:b=c):∃ x,Value.tuple #[.int .u64 a,.int .i64 b]=.tuple #[.int .u64 x,.int .i64 c]∧w=w:=⟨a,by rw [h],rfl⟩
theorem Ey (w:World) (h:Int):Does 177 [.int .u64 h] w λv w'=>∃ x,v=.tuple #[.int .u64 x,.int .i64 (if lE h=true then 0 else 2)]∧w'=w:=by
 refine does Tryz.func177 ?_
 rw [rP]
 refine aE (AY w h) ?_
 rintro v w1 ⟨rfl,rfl⟩
 refine ⟨_,_,rfl,?_⟩
 refine aE (te w1 _ 1 281474976710654) ?_
 rintro v w2 ⟨rfl,rfl⟩
 refine ⟨_,rfl,dN (λhf=>FV ?_) (λht=>FV ?_)⟩
 ·rw [if_neg (by unfold lE;rw [hf];simp)]
 ·rw [if_pos (by unfold lE;exact ht)]
structure tj (w:World) (a:Option Addr) (n:Nat) (W:List aB):Prop where
 rd:Rd w a (eI W).flatten
 len:n=W.length
 few:W.length≤1000000
 u64:∀ p ∈ W,U64 p.Head
theorem tj.new {w w':World} {a:Option Addr} {n:Nat} {W:List aB} (h:tj w a n W) (hn:New w w'):tj w' a n W:=⟨h.rd.new hn,h.len,h.few,h.u64⟩
theorem okLV:mJ prog 176=true:=by kernel_rfl
theorem GU (w:World) (p:aB) {c0:Nat} {lines:Int} (hc:w.cell? ⟨c0,0,none⟩=some (.int .i64 lines)):Does 176 [p.val,.pointer (some ⟨c0,0,none⟩)] w λv w'=>v=.bool (decide (p.Line<96) || decide (lines≤p.Line))∧New w w':=by
 refine does Tryz.func176 ?_
 rw [rp]
 rintro b1 w1 hb1 hw1
 obtain ⟨hz,hn⟩:=aN hb1 hw1
 have hz:Blk w1 b1 p.cells TPg:=hz
 clear hw1
 refine ⟨_,hz.cell (i:=0) rfl,aJ (λh=>⟨?_,hn⟩) (λh=>⟨_,hz.cell (i:=0) rfl,_,eF hn hc id,?_,hn⟩)⟩
 ·rw [decide_eq_true h];rfl
 ·rw [decide_eq_false h];rfl
section
attribute [local irreducible] mJ oM tT
theorem AZ {w:World} {a:Option Addr} {n c c0:Nat} {lines:Int} {W:List aB} (h:tj w a n W) (hc:w.cell? ⟨c0,0,none⟩=some (.int .i64 lines)) :
  Does 196 [.slice a n c,.func (.func 176) #[] #[.pointer (some ⟨c0,0,none⟩)]] w λv w'=>∃ z:Int,v=.int .i64 z∧(decide (z≥0)=W.any λp=>decide (p.Line<96) || decide (lines≤p.Line))∧New w w':=by
 have hl:=h.len
 subst hl
 have hfew:=h.few
 refine does Tryz.func196 ?_
 rw [gP]
 refine aQ mix (λm env u=>∃ (i:Nat) (jj:List Value),m=W.length - i∧i≤W.length∧env=bK a W.length c (.func (.func 176) #[] #[.pointer (some ⟨c0,0,none⟩)]) W.length i jj∧New w u∧((W.take i).any λp=>decide (p.Line<96) || decide (lines≤p.Line))=false) W.length
  ⟨0,_,by omega,by omega,rfl,Keep.refl _ _,rfl⟩ ?_
 rintro m env u ⟨i,jj,rfl,hi,rfl,hn,hno⟩
 rw [eQ]
 refine aJ (λhp=>?_) (λhp=>?_)
 ·have hlt:i<W.length:=by omega
  have hg:W[i]?=some W[i]:=List.getElem?_eq_getElem hlt
  refine fR (cells:=aB.cells) aB.len (by omega) (h.rd.new hn) hg rfl rfl λb o hcc _=>aB.mk_ex W[i] ⟨hcc,?_⟩
  refine oG okLV (xs:=#[W[i].val,.pointer (some ⟨c0,0,none⟩)]) (by simp) ?_
  refine aE (GU u W[i] (eF hn hc id)) ?_
  rintro v u1 ⟨rfl,hn1⟩
  refine ⟨_,rfl,rX (λhf=>⟨i,rfl,?_,hn.new hn1⟩) (λhf=>?_)⟩
  ·have h1:(W.any λp=>decide (p.Line<96) || decide (lines≤p.Line))=true:=List.any_eq_true.2 ⟨W[i],List.getElem_mem hlt,hf⟩
   rw [h1]
   simp
  ·rw [w64 (by omega) (by omega)]
   refine ⟨W.length - (i+1),by omega,i+1,_,rfl,by omega,rfl,hn.new hn1,?_⟩
   rw [List.take_add_one,hg,List.any_append,hno]
   simpa using hf
 ·rw [fD]
  have:W.take i=W:=List.take_of_length_le (by omega)
  rw [this] at hno
  exact ⟨-1,rfl,by rw [hno];decide,hn⟩
end
theorem wx {w:World} {a:Option Addr} {n c c0:Nat} {lines:Int} {W:List aB} (h:tj w a n W) (hc:w.cell? ⟨c0,0,none⟩=some (.int .i64 lines)) :
  Does 175 [.slice a n c,.func (.func 176) #[] #[.pointer (some ⟨c0,0,none⟩)]] w λv w'=>v=.bool (W.any λp=>decide (p.Line<96) || decide (lines≤p.Line))∧New w w':=by
 refine does Tryz.func175 ?_
 rw [fO]
 refine aE (AZ h hc) ?_
 rintro v w1 ⟨z,rfl,hz,hn⟩
 exact ⟨_,rfl,by rw [hz],hn⟩
theorem CK {W:List aB} {lines:Int} (hl:98≤lines∧lines≤256):(W.any λp=>decide (p.Line<96) || decide (lines≤p.Line))=!(W.all λp=>g8 p.Line lines):=by
 induction W with
 |nil=>rfl
 |cons p W ih=>
  rw [List.any_cons,List.all_cons,ih,Bool.not_and]
  congr 1
  unfold g8
  rw [Bool.eq_iff_iff]
  simp
  omega
theorem xS {n:Nat} {p q:Nat→Bool}:((List.range n).all λi=>p i && q i)=false↔(List.range n).all p=false∨(List.range n).all q=false:=by
 have:((List.range n).all λi=>p i && q i)=((List.range n).all p && (List.range n).all q):=by
  rw [Bool.eq_iff_iff]
  simp only [List.all_eq_true,Bool.and_eq_true]
  exact ⟨λh=>⟨λx hx=>(h x hx).1,λx hx=>(h x hx).2⟩,λh x hx=>⟨h.1 x hx,h.2 x hx⟩⟩
 rw [this,Bool.and_eq_false_iff]
set_option maxHeartbeats 1000000 in
theorem vq {w:World} {r:aS} {W:List aB} (h:tj w r.Writes r.Writes_l W) (lines:Int):Does 142 [r.val,.int .i64 lines] w λx w'=>x=.int .i64 (iK r.Seq W lines)∧New w w':=by
 refine does Tryz.func142 ?_
 rw [th]
 rintro b1 w1 hb1 hw1
 obtain ⟨hz1,hn1⟩:=aN hb1 hw1
 have hz1:Blk w1 b1 r.cells 252:=hz1
 clear hw1
 rintro b2 w2 hb2 hw2
 obtain ⟨hz2,hn2⟩:=aN hb2 hw2
 have hz2:Blk w2 b2 [.int .i64 lines] 3:=hz2
 clear hw2
 have hz12:=New.blk hn2 hz1
 have hn:=hn1.new hn2
 have hlen:=h.len
 have hfew:=h.few
 refine ⟨_,hz2.cell (i:=0) rfl,?_⟩
 have hil:Does 174 [.int .i64 lines] w2 λv w'=>v=.bool (decide (98≤lines∧lines≤256))∧w'=w2:=by
  refine does Tryz.func174 ?_
  rw [ro]
  refine aJ (λh=>⟨?_,rfl⟩) (λh=>⟨?_,rfl⟩)
  ·have h:98≤lines:=h;congr 1;simp [h]
  ·have h:¬ 98≤lines:=h;congr 1;simp [h]
 refine aE hil ?_
 rintro x w3 ⟨rfl,rfl⟩
 unfold iK
 refine ⟨_,rfl,dN (λhf=>?_) (λht=>?_)⟩
 ·rw [if_pos (by simpa using hf)];exact ⟨rfl,hn⟩
 have hl:98≤lines∧lines≤256:=by simpa using ht
 rw [if_neg (λe=>e hl)]
 refine ⟨_,hz12.cell (i:=0) rfl,aJ (λhp=>?_) (λhp=>⟨_,hz12.cell (i:=0) rfl,aJ (λhp2=>?_) (λhp2=>⟨_,_,_,hz12.cell (i:=1) rfl,aJ (λhp3=>?_) (λhp3=>⟨_,_,_,hz12.cell (i:=1) rfl,aJ (λhp4=>?_) (λhp4=>⟨_,_,_,hz12.cell (i:=1) rfl,?_⟩)⟩)⟩)⟩)⟩
 ·rw [if_pos (by omega)];exact ⟨rfl,hn⟩
 ·rw [if_pos (by omega)];exact ⟨rfl,hn⟩
 ·rw [if_pos (by omega)];exact ⟨rfl,hn⟩
 ·rw [if_pos (by omega)];exact ⟨rfl,hn⟩
 rw [if_neg (by omega)]
 refine aE (wx (h.new hn) (hz2.cell (i:=0) rfl)) ?_
 rintro x w4 ⟨rfl,hn4⟩
 rw [CK hl]
 refine ⟨_,rfl,dN (λhf=>?_) (λht=>?_)⟩
 ·rw [if_pos hf];exact ⟨rfl,hn.new hn4⟩
 rw [if_neg (by rw [ht];simp)]
 have hz14:=New.blk hn4 hz12
 have hn04:=hn.new hn4
 refine ⟨_,_,_,hz14.cell (i:=1) rfl,?_⟩
 refine aQ mix (λm env u=>∃ (i:Nat) (jj:List Value),m=W.length - i∧i≤W.length∧env=dG ⟨b1,0,none⟩ r.Writes r.Writes_l r.Writes_c r.Writes_l i jj∧New w4 u∧∀ k,k<i→ascP W k=true) W.length
  ⟨0,_,by omega,by omega,rfl,Keep.refl _ _,λk hk=>by omega⟩ ?_
 rintro m env u ⟨i,jj,rfl,hi,rfl,hnu,hok⟩
 rw [mQ]
 refine aJ (λhq=>?_) (λhq=>?_)
 ·have hlt:i<W.length:=by omega
  have hg:W[i]?=some W[i]:=List.getElem?_eq_getElem hlt
  have hgd:=nO (d:=noP) hg
  refine fR (cells:=aB.cells) aB.len (by omega) (h.rd.new (hn04.new hnu)) hg rfl hlen λb o hc _=>aB.mk_ex W[i] ⟨hc,?_⟩
  refine gX (vs:=W[i].cells) rfl (aB.single _) λb3 u2 hb3 hz3 hn3=>?_
  rintro u3 hu3
  have hn3':New u2 u3:=by rw [hu3];exact aV _
  clear hu3
  have hz33:=New.blk hn3' hz3
  have hnu3:=(hnu.new hn3).new hn3'
  have go:ascP W i=true→∀ jj',∃ m',m'<W.length - i∧∃ (i':Nat) (jj:List Value),m'=W.length - i'∧i'≤W.length∧dG ⟨b1,0,none⟩ r.Writes r.Writes_l r.Writes_c r.Writes_l (IntKind.i64.wrap ((i:Int)+1)) jj'=dG ⟨b1,0,none⟩ r.Writes r.Writes_l r.Writes_c r.Writes_l i' jj∧New w4 u3∧∀ k,k<i'→ascP W k=true:=by
   intro ha jj'
   rw [w64 (by omega) (by omega)]
   refine ⟨W.length - (i+1),by omega,i+1,jj',rfl,by omega,rfl,hnu3,λk hk=>?_⟩
   rcases Nat.lt_succ_iff_lt_or_eq.1 hk with hk | rfl
   ·exact hok k hk
   ·exact ha
  refine ⟨λy=>New u3 y,Keep.refl _ _,aJ (λh0=>⟨_,λy hy=>(New.blk hy hz33).cell (i:=0) rfl,_,_,_,λy hy=>(New.blk (hnu3.new hy) hz14).cell (i:=1) rfl,?_⟩) (λh0=>go (by unfold ascP;simp;omega) _)⟩
  have hg1:W[i - 1]?=some W[i - 1]:=List.getElem?_eq_getElem (by omega)
  have hgd1:=nO (d:=noP) hg1
  refine kN (cells:=aB.cells) aB.len (by omega) (h.rd.new (hn04.new hnu3)) hg1 (by rw [w64 (by omega) (by omega)];omega) hlen λb' o' hc'=>⟨_,λy hy=>hc' y hy 0 _ rfl,aJ (λhp6=>?_) (λhp6=>go (by unfold ascP;rw [hgd,hgd1];simp;omega) _)⟩
  rw [if_pos (xS.2 (.inl (lA hlt (by unfold ascP;rw [hgd,hgd1];simp;omega))))]
  exact ⟨rfl,hn04.new hnu3⟩
 have hall:(List.range W.length).all (ascP W)=true:=by
  rw [List.all_eq_true]
  intro k hk
  exact hok k (by have:=List.mem_range.1 hk;omega)
 rw [oW]
 refine ⟨_,_,_,(New.blk hnu hz14).cell (i:=1) rfl,?_⟩
 clear hq hi hok
 refine aQ mix (λm env z=>∃ (i:Nat) (jj:List Value),m=W.length - i∧i≤W.length∧env=gO r.Writes r.Writes_l r.Writes_c r.Writes_l i jj∧New u z∧∀ k,k<i→je (W.getD k noP)=true) W.length
  ⟨0,_,by omega,by omega,rfl,Keep.refl _ _,λk hk=>by omega⟩ ?_
 rintro m env z ⟨i,jj,rfl,hi,rfl,hnz,hok⟩
 have hn0z:=(hn04.new hnu).new hnz
 rw [mR]
 refine aJ (λhq=>?_) (λhq=>?_)
 ·have hlt:i<W.length:=by omega
  have hg:W[i]?=some W[i]:=List.getElem?_eq_getElem hlt
  have hgd:=nO (d:=noP) hg
  have bad:je W[i]=false→(if ((List.range W.length).all λi=>ascP W i && je (W.getD i noP))=false then 1 else (0:Int))=1:=λe=>by
   rw [if_pos (xS.2 (.inr (lA hlt (by rw [hgd];exact e))))]
  refine fR (cells:=aB.cells) aB.len (by omega) (h.rd.new hn0z) hg rfl hlen λb o hc _=>aB.mk_ex W[i] ⟨hc,?_⟩
  refine gX (vs:=W[i].cells) rfl (aB.single _) λb3 z2 hb3 hz3 hn3=>?_
  refine ⟨_,hz3.cell (i:=1) rfl,?_⟩
  refine aE (Ey z2 W[i].Head) ?_
  rintro x z3 ⟨y,rfl,rfl⟩
  refine ⟨_,_,rfl,cR (λhne=>?_) (λhe=>⟨_,hz3.cell (i:=1) rfl,?_⟩)⟩
  ·rw [bad (by unfold je;cases hnx:lE W[i].Head with
    |true=>rw [hnx] at hne;simp at hne
    |false=>rfl)]
   exact ⟨rfl,hn0z.new hn3⟩
  have hnx:lE W[i].Head=true:=by
   cases hnx:lE W[i].Head with
   |true=>rfl
   |false=>rw [hnx] at he;simp at he
  refine aE (CJ z3 W[i].Head) ?_
  rintro x z4 ⟨rfl,rfl⟩
  refine ⟨_,rfl,dN (λhf=>?_) (λht=>?_)⟩
  ·rw [bad (by unfold je;rw [hf,Bool.and_false])]
   exact ⟨rfl,hn0z.new hn3⟩
  ·rw [w64 (by omega) (by omega)]
   refine ⟨W.length - (i+1),by omega,i+1,_,rfl,by omega,rfl,hnz.new hn3,λk hk=>?_⟩
   rcases Nat.lt_succ_iff_lt_or_eq.1 hk with hk | rfl
   ·exact hok k hk
   ·rw [hgd];unfold je;rw [hnx,ht];rfl
 ·rw [oX]
  have hall2:(List.range W.length).all (λi=>je (W.getD i noP))=true:=by
   rw [List.all_eq_true]
   intro k hk
   exact hok k (by have:=List.mem_range.1 hk;omega)
  rw [if_neg (λe=>by
   rcases xS.1 e with e | e
   ·rw [hall] at e;cases e
   ·rw [hall2] at e;cases e)]
  exact ⟨rfl,hn0z⟩
end Go.Proofs.YtegepanmkjemjaaGreat
namespace Go.Proofs.YtegepanmkjemjaaGreat
open Go.Eng
def lF (l:List aU):List (List Value):=l.map aU.cells
def noS:aU:=⟨0,0⟩
def ascS (R:List aU) (i:Nat):Bool:=decide (i=0) || decide ((R.getD (i - 1) noS).Line<(R.getD i noS).Line)
def has (W:List aB) (line:Int):Bool:=W.any λp=>decide (p.Line=line)
def m8 (R:List aU) (W:List aB) (i:Nat):Bool:=(ascS R i && unl (R.getD i noS).Head) && !has W (R.getD i noS).Line
structure CJob where
 client:Int
 seq:Int
 lines:Int
 v:Vw
 reads:List aU
 writes:List aB
def CJob.valid (j:CJob):Int:=
 if j.client<0∨6≤j.client then 1 else if j.v.valid 5≠0 then j.v.valid 5 else if j.lines<98∨256<j.lines then 18
 else if 0<j.writes.length∧iK j.seq j.writes j.lines≠0 then iK j.seq j.writes j.lines else if 24<j.reads.length then 18
 else if j.reads.all (λs=>g8 s.Line j.lines)=false then 2 else if (List.range j.reads.length).all (m8 j.reads j.writes)=false then 1 else 0
structure rS (w:World) (r:aH) (j:CJob):Prop where
 client:r.Client=j.client
 seq:r.Seq=j.seq
 lines:r.Lines=j.lines
 view:∃ M,ViewAt M w r.View j.v
 rd:Rd w r.Reads (lF j.reads).flatten
 len:r.Reads_l=j.reads.length
 few:j.reads.length≤1000000
 pg:tj w r.Writes r.Writes_l j.writes
theorem rS.new {w w':World} {r:aH} {j:CJob} (h:rS w r j) (hn:New w w'):rS w' r j:=⟨h.client,h.seq,h.lines,h.view.imp λ_ h=>h.new hn,h.rd.new hn,h.len,h.few,h.pg.new hn⟩
theorem yr (w:World) (r:aH):Does 143 [r.val] w λx w'=>x=aS.val ⟨r.Seq,r.Writes,r.Writes_l,r.Writes_c⟩∧New w w':=by
 refine does Tryz.func143 ?_
 rw [oY]
 rintro b1 w1 hb1 hw1
 obtain ⟨hz1,hn1⟩:=aN hb1 hw1
 have hz1:Blk w1 b1 r.cells 34:=hz1
 clear hw1
 rintro b2 w2 hb2 hw2
 obtain ⟨hz2,hn2⟩:=aN hb2 hw2
 have hz2:Blk w2 b2 (aS.cells ⟨0,none,0,0⟩) 252:=hz2
 clear hw2
 have hz12:=New.blk hn2 hz1
 have hs:=hn1.size
 refine ⟨_,hz12.cell (i:=1) rfl,_,_,_,hz12.cell (i:=6) rfl,?_⟩
 refine gJ (vs:=aS.cells ⟨r.Seq,r.Writes,r.Writes_l,r.Writes_c⟩) hz2 rfl (aS.single _) λw3 hz3 hk3=>?_
 refine aS.mk_ex ⟨r.Seq,r.Writes,r.Writes_l,r.Writes_c⟩ ⟨aK hz3 rfl,rfl,rfl,?_⟩
 exact (hn1.new hn2).trans hk3 λk hlt e=>by omega
theorem wy {w:World} {r:aH} {W:List aB} (h:tj w r.Writes r.Writes_l W) (line:Int):Does 146 [r.val,.int .i64 line] w λx w'=>x=.bool (has W line)∧New w w':=by
 refine does Tryz.func146 ?_
 rw [oZ]
 rintro b1 w1 hb1 hw1
 obtain ⟨hz1,hn1⟩:=aN hb1 hw1
 have hz1:Blk w1 b1 r.cells 34:=hz1
 clear hw1
 have hlen:=h.len
 have hfew:=h.few
 refine ⟨_,_,_,hz1.cell (i:=6) rfl,?_⟩
 refine aQ mix (λm env u=>∃ (i:Nat) (jj:List Value),m=W.length - i∧i≤W.length∧env=ei line r.Writes r.Writes_l r.Writes_c r.Writes_l i jj∧New w u∧has (W.take i) line=false) W.length
  ⟨0,_,by omega,by omega,rfl,hn1,rfl⟩ ?_
 rintro m env u ⟨i,jj,rfl,hi,rfl,hnu,hno⟩
 rw [kB]
 refine aJ (λhq=>?_) (λhq=>?_)
 ·have hlt:i<W.length:=by omega
  have hg:W[i]?=some W[i]:=List.getElem?_eq_getElem hlt
  refine fR (cells:=aB.cells) aB.len (by omega) (h.rd.new hnu) hg rfl hlen λb o hc _=>aB.mk_ex W[i] ⟨hc,?_⟩
  refine gX (vs:=W[i].cells) rfl (aB.single _) λb3 u2 hb3 hz3 hn3=>?_
  refine ⟨_,hz3.cell (i:=0) rfl,bH (λhe=>⟨?_,hnu.new hn3⟩) (λhe=>?_)⟩
  ·have:has W line=true:=List.any_eq_true.2 ⟨W[i],List.getElem_mem hlt,by simpa using he⟩
   rw [this]
  ·rw [w64 (by omega) (by omega)]
   refine ⟨W.length - (i+1),by omega,i+1,_,rfl,by omega,rfl,hnu.new hn3,?_⟩
   unfold has
   rw [List.take_add_one,hg,List.any_append]
   have:=hno
   unfold has at this
   rw [this]
   simpa using he
 ·rw [lN]
  have ht:W.take i=W:=List.take_of_length_le (by omega)
  rw [ht] at hno
  exact ⟨by rw [hno],hnu⟩
end Go.Proofs.YtegepanmkjemjaaGreat
