import Derived.Test.YtgpmeaicjonenaaGreatProg
import Derived.Test.YtgpmeaicjonenaaGreata03
import Derived.Test.YtgpmeaicjonenaaGreata16
set_option linter.unusedVariables false
namespace Go.Proofs.YtgpmeaicjonenaaGreat
open Go.Proofs.Tryz
open Go.Eng IntKind
variable (w:World) (R:Value→World→Prop)
def ed (s1:Addr) (a:Option Addr) (b c:Nat) (d f:Int) (j:LV):LV:=[jg j 0,(.pointer (some s1)),jg j 1,jg j 2,jg j 3,jg j 4,jg j 5,jg j 6,jg j 7,jg j 8,jg j 9,jg j 10,jg j 11,jg j 12,jg j 13,jg j 14,jg j 15,jg j 16,jg j 17,jg j 18,jg j 19,jg j 20,jg j 21,jg j 22,jg j 23,jg j 24,jg j 25,jg j 26,jg j 27,jg j 28,jg j 29,jg j 30,jg j 31,jg j 32,jg j 33,jg j 34,jg j 35,jg j 36,jg j 37,jg j 38,jg j 39,jg j 40,jg j 41,jg j 42,jg j 43,jg j 44,jg j 45,jg j 46,(.slice a b c),(.int .i64 d),(.int .i64 f),jg j 47,jg j 48,jg j 49,jg j 50,jg j 51,jg j 52,jg j 53,jg j 54,jg j 55,jg j 56,jg j 57,jg j 58,jg j 59,jg j 60,jg j 61,jg j 62,jg j 63,jg j 64,jg j 65,jg j 66,jg j 67,jg j 68,jg j 69,jg j 70,jg j 71,jg j 72,jg j 73,jg j 74,jg j 75,jg j 76,jg j 77,jg j 78,jg j 79,jg j 80,jg j 81,jg j 82,jg j 83,jg j 84,jg j 85,jg j 86,jg j 87,jg j 88,jg j 89,jg j 90,jg j 91]
def lQ (a:Addr) (j:LV):LV:=jq j 0 1 (.pointer (some a)::jq j 1 94 [])
def eS (s1:Addr) (a:Option Addr) (b c:Nat) (d f:Int) (j:LV):LV:=jq j 0 1 (.pointer (some s1)::jq j 1 60 (.slice a b c::.int .i64 d::.int .i64 f::jq j 61 31 []))
def lR  (j:LV):LV:=jq j 0 96 []
theorem se (p0:aL):fnW prog f134 [p0.val] R w=(∀ b1 w1,b1=w.heap.size→w1=w.alloc (.cells p0.cells.toArray 39)→∃ a,w1.cell? ⟨b1,0,none⟩=some (.int .i64 a)∧(bif (decide ((a:Int)<0)) then (R (.int .i64 1) w1) else (∃ b,w1.cell? ⟨b1,0,none⟩=some (.int .i64 b)∧(bif (decide ((b:Int)≥6)) then (R (.int .i64 1) w1) else (aM.ex λab=>aC w1 ⟨b1,3,none⟩ 0 ab.cells∧Calls prog 181 #[ab.val,.int .i64 5] w1 λe w2=>∃ (c:Int),e=.returned (.int .i64 c)∧(bif ((c:Int) != 0) then (R (.int .i64 c) w2) else (∃ d,w2.cell? ⟨b1,2,none⟩=some (.int .i64 d)∧(bif (decide ((d:Int)<98)) then (R (.int .i64 18) w2) else (∃ f,w2.cell? ⟨b1,2,none⟩=some (.int .i64 f)∧(bif (decide ((f:Int)>256)) then (R (.int .i64 18) w2) else (∃ g h i,w2.cell? ⟨b1,6,none⟩=some (.slice g h i)∧(bif (decide (((h:Nat):Int)>0)) then (∀ w3,w3=w2.drew→∃ Sx:World→Prop,Sx w3∧aL.ex λr=>(∀ u,Sx u→aC u ⟨b1,0,none⟩ 0 r.cells)∧∃ k,(∀ u,Sx u→u.cell? ⟨b1,2,none⟩=some (.int .i64 k))∧Calls prog 183 #[r.val] w3 λe w4=>aS.ex λac=>e=.returned ac.val∧Sx w4∧Calls prog 182 #[ac.val,.int .i64 k] w4 λe w5=>∃ (l:Int),e=.returned (.int .i64 l)∧Sx w5∧(bif ((l:Int) != 0) then (R (.int .i64 l) w5) else (∃ m n o,w5.cell? ⟨b1,5,none⟩=some (.slice m n o)∧(bif (decide (((n:Nat):Int)>24)) then (R (.int .i64 18) w5) else (∃ p q s,w5.cell? ⟨b1,5,none⟩=some (.slice p q s)∧cQ prog (.loop (sub (aD f134) [1,1,1,1,1,1,0,1,0,0])) (ed ⟨b1,0,none⟩ p q s (q:Nat) 0 (p0.val::ji 0::ji c::ji l::uq 4 (jp ⟨b1,0,none⟩::ji a::jb (decide ((a:Int)<0))::jb false::jp ⟨b1,0,none⟩::ji b::jb (decide ((b:Int)≥6))::jb (decide ((b:Int)≥6))::jp ⟨b1,3,none⟩::ab.val::ji c::ji c::jb ((c:Int) != 0)::undef::jp ⟨b1,2,none⟩::ji d::jb (decide ((d:Int)<98))::jb false::jp ⟨b1,2,none⟩::ji f::jb (decide ((f:Int)>256))::jb (decide ((f:Int)>256))::jp ⟨b1,6,none⟩::js g h i::jn h::jb (decide (((h:Nat):Int)>0))::r.val::ac.val::jp ⟨b1,2,none⟩::ji k::ji l::ji l::jb ((l:Int) != 0)::undef::jp ⟨b1,5,none⟩::js m n o::jn n::jb (decide (((n:Nat):Int)>24))::jp ⟨b1,5,none⟩::uq 45 []))) (aK 0 (nx f134 [1,1,1,1,1,1,1] R)) w5))))) else (∃ t v x,w2.cell? ⟨b1,5,none⟩=some (.slice t v x)∧(bif (decide (((v:Nat):Int)>24)) then (R (.int .i64 18) w2) else (∃ y z aa,w2.cell? ⟨b1,5,none⟩=some (.slice y z aa)∧cQ prog (.loop (sub (aD f134) [1,1,1,1,1,1,0,1,0,0])) (ed ⟨b1,0,none⟩ y z aa (z:Nat) 0 (p0.val::ji 0::ji c::uq 5 (jp ⟨b1,0,none⟩::ji a::jb (decide ((a:Int)<0))::jb false::jp ⟨b1,0,none⟩::ji b::jb (decide ((b:Int)≥6))::jb (decide ((b:Int)≥6))::jp ⟨b1,3,none⟩::ab.val::ji c::ji c::jb ((c:Int) != 0)::undef::jp ⟨b1,2,none⟩::ji d::jb (decide ((d:Int)<98))::jb false::jp ⟨b1,2,none⟩::ji f::jb (decide ((f:Int)>256))::jb (decide ((f:Int)>256))::jp ⟨b1,6,none⟩::js g h i::jn h::jb (decide (((h:Nat):Int)>0))::uq 8 (jp ⟨b1,5,none⟩::js t v x::jn v::jb (decide (((v:Nat):Int)>24))::jp ⟨b1,5,none⟩::uq 45 [])))) (aK 0 (nx f134 [1,1,1,1,1,1,1] R)) w2))))))))))))))):=by kernel_rfl
theorem md (s1:Addr) (a:Option Addr) (b c:Nat) (d f:Int) (j:LV) (N1:LV→World→Prop):W prog (sub (aD f134) [1,1,1,1,1,1,0,1,0,0]) (ed s1 a b c d f j) (seqQ N1 (aK 0 (nx f134 [1,1,1,1,1,1,1] R))) w=((bif (decide ((f:Int)<d)) then (idxS a b f 2 λad=>aV.ex λr=>aC w ad 0 r.cells∧∀ b1 w1,b1=w.heap.size→w1=w.alloc (.cells #[.int .i64 0,.int .u64 0] 137)→wrAt w1 ⟨b1,0,none⟩ 0 r.cells∧∀ w2,w2=puts w1 ⟨b1,0,none⟩ 0 r.cells→∃ g,w2.cell? ⟨b1,0,none⟩=some (.int .i64 g)∧∃ h,w2.cell? ⟨s1.block,s1.off+2,none⟩=some (.int .i64 h)∧Calls prog 184 #[.int .i64 g,.int .i64 h] w2 λe w3=>∃ i,e=.returned (.bool i)∧(bif (!i) then (R (.int .i64 2) w3) else (N1 (ed s1 a b c d (i64.wrap (f+1)) (jq j 0 5 (jp ⟨b1,0,none⟩::jq j 6 41 (jb (decide ((f:Int)<d))::jp ad::r.val::jp ⟨b1,0,none⟩::ji g::jf s1 2::ji h::jb i::jb (!i)::ji (i64.wrap (f+1))::jq j 57 35 [])))) w3))) else (W prog (sub (aD f134) [1,1,1,1,1,1,1]) (lQ s1 (jq j 0 47 (js a b c::ji d::ji f::jb (decide ((f:Int)<d))::jq j 48 44 []))) (retQ prog f134 R) w))):=by kernel_rfl
theorem n6 (a:Addr) (j:LV):W prog (sub (aD f134) [1,1,1,1,1,1,1]) (lQ a j) (retQ prog f134 R) w=(∃ b c d,w.cell? ⟨a.block,a.off+5,none⟩=some (.slice b c d)∧cQ prog (.loop (sub (aD f134) [1,1,1,1,1,1,1,0,1,0,0])) (eS a b c d (c:Nat) 0 (jq j 0 60 (jf a 5::jq j 64 31 []))) (aK 2 (nx f134 [1,1,1,1,1,1,1,1] R)) w):=by kernel_rfl
theorem me (s1:Addr) (a:Option Addr) (b c:Nat) (d f:Int) (j:LV) (N2:LV→World→Prop):W prog (sub (aD f134) [1,1,1,1,1,1,1,0,1,0,0]) (eS s1 a b c d f j) (seqQ N2 (aK 2 (nx f134 [1,1,1,1,1,1,1,1] R))) w=((bif (decide ((f:Int)<d)) then (idxS a b f 2 λad=>aV.ex λr=>aC w ad 0 r.cells∧∀ b1 w1,b1=w.heap.size→w1=w.alloc (.cells #[.int .i64 0,.int .u64 0] 137)→wrAt w1 ⟨b1,0,none⟩ 0 r.cells∧∀ w2,w2=puts w1 ⟨b1,0,none⟩ 0 r.cells→∀ w3,w3=w2.drew→∃ Sx:World→Prop,Sx w3∧(bif (decide ((f:Int)>0)) then (∃ g,(∀ u,Sx u→u.cell? ⟨b1,0,none⟩=some (.int .i64 g))∧∃ h i k,(∀ u,Sx u→u.cell? ⟨s1.block,s1.off+5,none⟩=some (.slice h i k))∧idxS h i (i64.wrap (f - 1)) 2 λx=>∃ l,(∀ u,Sx u→u.cell? x=some (.int .i64 l))∧(bif (decide ((g:Int)≤l)) then (R (.int .i64 1) w3) else (∃ m,(∀ u,Sx u→u.cell? ⟨b1,1,none⟩=some (.int .u64 m))∧Calls prog 66 #[.int .u64 m] w3 λe w4=>∃ (n:Bool),e=.returned (.bool n)∧Sx w4∧(bif (!n) then (R (.int .i64 1) w4) else (aL.ex λr1=>(∀ u,Sx u→aC u s1 0 r1.cells)∧∃ o,(∀ u,Sx u→u.cell? ⟨b1,0,none⟩=some (.int .i64 o))∧Calls prog 185 #[r1.val,.int .i64 o] w4 λe w5=>∃ (p:Bool),e=.returned (.bool p)∧Sx w5∧(bif p then (R (.int .i64 1) w5) else (N2 (eS s1 a b c d (i64.wrap (f+1)) (jq j 0 6 (ji f::jp ⟨b1,0,none⟩::jq j 8 53 [jb (decide ((f:Int)<d)),ji f,jp ad,r.val,ji f,jb (decide ((f:Int)>0)),jb true,jp ⟨b1,0,none⟩,ji g,jf s1 5,js h i k,ji f,ji (i64.wrap (f - 1)),jp x,jp x,ji l,jb (decide ((g:Int)≤l)),jb (decide ((g:Int)≤l)),jb false,jp ⟨b1,1,none⟩,ju m,jb n,jb (!n),jb (!n),jb false,r1.val,jp ⟨b1,0,none⟩,ji o,jb p,jb p,ji (i64.wrap (f+1))]))) w5))))))) else (∃ q,(∀ u,Sx u→u.cell? ⟨b1,1,none⟩=some (.int .u64 q))∧Calls prog 66 #[.int .u64 q] w3 λe w6=>∃ (s:Bool),e=.returned (.bool s)∧Sx w6∧(bif (!s) then (R (.int .i64 1) w6) else (aL.ex λr2=>(∀ u,Sx u→aC u s1 0 r2.cells)∧∃ t,(∀ u,Sx u→u.cell? ⟨b1,0,none⟩=some (.int .i64 t))∧Calls prog 185 #[r2.val,.int .i64 t] w6 λe w7=>∃ (v:Bool),e=.returned (.bool v)∧Sx w7∧(bif v then (R (.int .i64 1) w7) else (N2 (eS s1 a b c d (i64.wrap (f+1)) (jq j 0 6 (ji f::jp ⟨b1,0,none⟩::jq j 8 53 (jb (decide ((f:Int)<d))::ji f::jp ad::r.val::ji f::jb (decide ((f:Int)>0))::jb false::uq 10 [jb false,jb false,jp ⟨b1,1,none⟩,ju q,jb s,jb (!s),jb (!s),jb false,r2.val,jp ⟨b1,0,none⟩,ji t,jb v,jb v,ji (i64.wrap (f+1))])))) w7))))))) else (W prog (sub (aD f134) [1,1,1,1,1,1,1,1]) (lR  (jg j 0::jp s1::jq j 1 60 (js a b c::ji d::ji f::jb (decide ((f:Int)<d))::jq j 62 30 []))) (retQ prog f134 R) w))):=by kernel_rfl
theorem n7  (j:LV):W prog (sub (aD f134) [1,1,1,1,1,1,1,1]) (lR  j) (retQ prog f134 R) w=(R (.int .i64 0) w):=by kernel_rfl
def dJ (s2:Addr) (a:Option Addr) (b c:Nat) (d f:Int) (j:LV):LV:=jq j 0 2 (.pointer (some s2)::jq j 2 39 (.slice a b c::.int .i64 d::.int .i64 f::jq j 41 41 []))
def lS (a:Addr) (j:LV):LV:=jq j 0 2 (.pointer (some a)::jq j 2 83 [])
def fX (a:Option Addr) (b c:Nat) (d f:Int) (j:LV):LV:=jq j 0 65 (.slice a b c::.int .i64 d::.int .i64 f::jq j 65 18 [])
def lT  (j:LV):LV:=jq j 0 86 []
theorem sf (p0:aS) (p1:Int):fnW prog f182 [p0.val,.int .i64 p1] R w=(∀ b1 w1,b1=w.heap.size→w1=w.alloc (.cells p0.cells.toArray 305)→∀ b2 w2,b2=w1.heap.size→w2=w1.alloc (.cells #[.int .i64 p1] 3)→∃ x,w2.cell? ⟨b2,0,none⟩=some (.int .i64 x)∧Calls prog 225 #[.int .i64 x] w2 λe w3=>∃ (a:Bool),e=.returned (.bool a)∧(bif (!a) then (R (.int .i64 18) w3) else (∃ b,w3.cell? ⟨b1,0,none⟩=some (.int .i64 b)∧(bif (decide ((b:Int)<1)) then (R (.int .i64 1) w3) else (∃ c,w3.cell? ⟨b1,0,none⟩=some (.int .i64 c)∧(bif (decide ((c:Int)≥1073741824)) then (R (.int .i64 1) w3) else (∃ d f g,w3.cell? ⟨b1,1,none⟩=some (.slice d f g)∧(bif (decide (((f:Nat):Int)<1)) then (R (.int .i64 1) w3) else (∃ h i k,w3.cell? ⟨b1,1,none⟩=some (.slice h i k)∧(bif (decide (((i:Nat):Int)>12)) then (R (.int .i64 1) w3) else (∃ l m n,w3.cell? ⟨b1,1,none⟩=some (.slice l m n)∧Calls prog 226 #[.slice l m n,.func (.func 227) #[] #[.pointer (some ⟨b2,0,none⟩)]] w3 λe w4=>∃ (o:Bool),e=.returned (.bool o)∧(bif o then (R (.int .i64 2) w4) else (∃ p q r,w4.cell? ⟨b1,1,none⟩=some (.slice p q r)∧cQ prog (.loop (sub (aD f182) [1,1,0,1,0,0])) (dJ ⟨b1,0,none⟩ p q r (q:Nat) 0 (p0.val::ji p1::jp ⟨b2,0,none⟩::ji 0::uq 6 (jb (!a)::ji x::jb a::jb (!a)::jb (decide (((i:Nat):Int)>12))::jp ⟨b1,0,none⟩::ji b::jb (decide ((b:Int)<1))::jb false::jp ⟨b1,0,none⟩::ji c::jb (decide ((c:Int)≥1073741824))::jb (decide ((c:Int)≥1073741824))::jb false::jp ⟨b1,1,none⟩::js d f g::jn f::jb (decide (((f:Nat):Int)<1))::jb (decide (((f:Nat):Int)<1))::jb false::jp ⟨b1,1,none⟩::js h i k::jn i::jb (decide (((i:Nat):Int)>12))::jb (decide (((i:Nat):Int)>12))::jb o::jp ⟨b1,1,none⟩::js l m n::.func (.func 227) #[] #[.pointer (some ⟨b2,0,none⟩)]::jb o::jp ⟨b1,1,none⟩::uq 41 []))) (aK 1 (nx f182 [1,1,1] R)) w4))))))))))))):=by kernel_rfl
theorem mf (s2:Addr) (a:Option Addr) (b c:Nat) (d f:Int) (j:LV) (N1:LV→World→Prop):W prog (sub (aD f182) [1,1,0,1,0,0]) (dJ s2 a b c d f j) (seqQ N1 (aK 1 (nx f182 [1,1,1] R))) w=((bif (decide ((f:Int)<d)) then (idxS a b f 9 λad=>aG.ex λr=>aC w ad 0 r.cells∧∀ b1 w1,b1=w.heap.size→w1=w.alloc (.cells #[.int .i64 0,.int .u64 0,.int .u64 0,.int .u64 0,.int .u64 0,.int .u64 0,.int .u64 0,.int .u64 0,.int .u64 0] 73)→wrAt w1 ⟨b1,0,none⟩ 0 r.cells∧∀ w2,w2=puts w1 ⟨b1,0,none⟩ 0 r.cells→∀ w3,w3=w2.drew→∃ Sx:World→Prop,Sx w3∧(bif (decide ((f:Int)>0)) then (∃ g,(∀ u,Sx u→u.cell? ⟨b1,0,none⟩=some (.int .i64 g))∧∃ h i k,(∀ u,Sx u→u.cell? ⟨s2.block,s2.off+1,none⟩=some (.slice h i k))∧idxS h i (i64.wrap (f - 1)) 9 λm=>∃ l,(∀ u,Sx u→u.cell? m=some (.int .i64 l))∧(bif (decide ((g:Int)≤l)) then (R (.int .i64 1) w3) else (N1 (dJ s2 a b c d (i64.wrap (f+1)) (jq j 0 4 (ji f::jp ⟨b1,0,none⟩::jq j 6 35 (jb (decide ((f:Int)<d))::ji f::jp ad::r.val::ji f::jb (decide ((f:Int)>0))::jb true::jp ⟨b1,0,none⟩::ji g::jf s2 1::js h i k::ji f::ji (i64.wrap (f - 1))::jp m::jp m::ji l::jb (decide ((g:Int)≤l))::jb (decide ((g:Int)≤l))::ji (i64.wrap (f+1))::jq j 60 22 [])))) w3))) else (N1 (dJ s2 a b c d (i64.wrap (f+1)) (jq j 0 4 (ji f::jp ⟨b1,0,none⟩::jq j 6 35 (jb (decide ((f:Int)<d))::ji f::jp ad::r.val::ji f::jb (decide ((f:Int)>0))::jb false::uq 10 (jb false::ji (i64.wrap (f+1))::jq j 60 22 []))))) w3))) else (W prog (sub (aD f182) [1,1,1]) (lS s2 (jq j 0 41 (js a b c::ji d::ji f::jb (decide ((f:Int)<d))::jq j 42 40 []))) (retQ prog f182 R) w))):=by kernel_rfl
theorem n8 (a:Addr) (j:LV):W prog (sub (aD f182) [1,1,1]) (lS a j) (retQ prog f182 R) w=(∃ b c d,w.cell? ⟨a.block,a.off+1,none⟩=some (.slice b c d)∧cQ prog (.loop (sub (aD f182) [1,1,1,0,1,0,0])) (fX b c d (c:Nat) 0 (jg j 0::jg j 1::jp a::jq j 2 61 (jf a 1::jq j 67 18 []))) (aK 3 (nx f182 [1,1,1,1] R)) w):=by kernel_rfl
theorem mg (a:Option Addr) (b c:Nat) (d f:Int) (j:LV) (N2:LV→World→Prop):W prog (sub (aD f182) [1,1,1,0,1,0,0]) (fX a b c d f j) (seqQ N2 (aK 3 (nx f182 [1,1,1,1] R))) w=((bif (decide ((f:Int)<d)) then (idxS a b f 9 λad=>aG.ex λr=>aC w ad 0 r.cells∧∀ b1 w1,b1=w.heap.size→w1=w.alloc (.cells #[.int .i64 0,.int .u64 0,.int .u64 0,.int .u64 0,.int .u64 0,.int .u64 0,.int .u64 0,.int .u64 0,.int .u64 0] 73)→wrAt w1 ⟨b1,0,none⟩ 0 r.cells∧∀ w2,w2=puts w1 ⟨b1,0,none⟩ 0 r.cells→∃ g,w2.cell? ⟨b1,1,none⟩=some (.int .u64 g)∧Calls prog 228 #[.int .u64 g] w2 λe w3=>∃ h i,e=.returned (.tuple #[.int .u64 h,.int .i64 i])∧(bif ((i:Int) != 0) then (R (.int .i64 1) w3) else (∃ k,w3.cell? ⟨b1,1,none⟩=some (.int .u64 k)∧Calls prog 66 #[.int .u64 k] w3 λe w4=>∃ l,e=.returned (.bool l)∧(bif (!l) then (R (.int .i64 1) w4) else (N2 (fX a b c d (i64.wrap (f+1)) (jq j 0 8 (jp ⟨b1,0,none⟩::ju h::ji i::jq j 11 54 [jb (decide ((f:Int)<d)),jp ad,r.val,.tuple #[.int .u64 h,.int .i64 i],jp ⟨b1,1,none⟩,ju g,.tuple #[.int .u64 h,.int .i64 i],ju h,ji i,ji i,jb ((i:Int) != 0),jb false,jp ⟨b1,1,none⟩,ju k,jb l,jb (!l),jb (!l),ji (i64.wrap (f+1))]))) w4))))) else (W prog (sub (aD f182) [1,1,1,1]) (lT  (jq j 0 65 (js a b c::ji d::ji f::jb (decide ((f:Int)<d))::jq j 66 17 []))) (retQ prog f182 R) w))):=by kernel_rfl
theorem n9  (j:LV):W prog (sub (aD f182) [1,1,1,1]) (lT  j) (retQ prog f182 R) w=(R (.int .i64 0) w):=by kernel_rfl
theorem oe (p0:aL):fnW prog f183 [p0.val] R w=(∀ b1 w1,b1=w.heap.size→w1=w.alloc (.cells p0.cells.toArray 39)→∀ b2 w2,b2=w1.heap.size→w2=w1.alloc (.cells #[.int .i64 0,.slice none 0 0] 305)→∃ a,w2.cell? ⟨b1,1,none⟩=some (.int .i64 a)∧∃ b c d,w2.cell? ⟨b1,6,none⟩=some (.slice b c d)∧wrAt w2 ⟨b2,0,none⟩ 0 [.int .i64 a,.slice b c d]∧∀ w3,w3=puts w2 ⟨b2,0,none⟩ 0 [.int .i64 a,.slice b c d]→aS.ex λf=>aC w3 ⟨b2,0,none⟩ 0 f.cells∧w3=w3∧R f.val w3):=by kernel_rfl
def eg (s1:Int) (s8:Option Addr) (a b:Nat) (s9 c:Int) (j:LV):LV:=jq j 0 1 (.int .i64 s1::jq j 1 6 (.slice s8 a b::.int .i64 s9::.int .i64 c::jq j 7 8 []))
def iV  (j:LV):LV:=jq j 0 19 []
theorem og (p0:aL) (p1:Int):fnW prog f185 [p0.val,.int .i64 p1] R w=(∀ b1 w1,b1=w.heap.size→w1=w.alloc (.cells p0.cells.toArray 39)→∃ a b c,w1.cell? ⟨b1,6,none⟩=some (.slice a b c)∧cQ prog (.loop (sub (aD f185) [1,0,1,0,0])) (eg p1 a b c (b:Nat) 0 (p0.val::jp ⟨b1,0,none⟩::undef::jb false::uq 2 (jp ⟨b1,6,none⟩::uq 8 []))) (aK 0 (nx f185 [1,1] R)) w1):=by kernel_rfl
theorem kf (s1:Int) (s8:Option Addr) (a b:Nat) (s9 c:Int) (j:LV) (N1:LV→World→Prop):W prog (sub (aD f185) [1,0,1,0,0]) (eg s1 s8 a b s9 c j) (seqQ N1 (aK 0 (nx f185 [1,1] R))) w=((bif (decide ((c:Int)<s9)) then (idxS s8 a c 9 λad=>aG.ex λr=>aC w ad 0 r.cells∧∀ b1 w1,b1=w.heap.size→w1=w.alloc (.cells #[.int .i64 0,.int .u64 0,.int .u64 0,.int .u64 0,.int .u64 0,.int .u64 0,.int .u64 0,.int .u64 0,.int .u64 0] 73)→wrAt w1 ⟨b1,0,none⟩ 0 r.cells∧∀ w2,w2=puts w1 ⟨b1,0,none⟩ 0 r.cells→∃ d,w2.cell? ⟨b1,0,none⟩=some (.int .i64 d)∧(bif ((d:Int) == s1) then (R (.bool true) w2) else (N1 (eg s1 s8 a b s9 (i64.wrap (c+1)) (jq j 0 5 [jp ⟨b1,0,none⟩,jg j 6,jb (decide ((c:Int)<s9)),jp ad,r.val,jp ⟨b1,0,none⟩,ji d,ji s1,jb ((d:Int) == s1),ji (i64.wrap (c+1))])) w2))) else (W prog (sub (aD f185) [1,1]) (iV  (jg j 0::ji s1::jq j 1 6 (js s8 a b::ji s9::ji c::jb (decide ((c:Int)<s9))::jq j 8 7 []))) (retQ prog f185 R) w))):=by kernel_rfl
theorem lq  (j:LV):W prog (sub (aD f185) [1,1]) (iV  j) (retQ prog f185 R) w=(R (.bool false) w):=by kernel_rfl
theorem qv (p0:Int):fnW prog f225 [.int .i64 p0] R w=((bif (decide ((p0:Int)≥98)) then (R (.bool (decide ((p0:Int)≤256))) w) else (R (.bool false) w))):=by kernel_rfl
theorem fH (p0:Option Addr) (a b:Nat) (p1:Value):fnW prog f226 [.slice p0 a b,p1] R w=(Calls prog 281 #[.slice p0 a b,p1] w λe w1=>∃ c,e=.returned (.int .i64 c)∧R (.bool (decide ((c:Int)≥0))) w1):=by kernel_rfl
theorem qw (p0:aG) (c0:Nat):fnW prog f227 [p0.val,.pointer (some ⟨c0,0,none⟩)] R w=(∀ b1 w1,b1=w.heap.size→w1=w.alloc (.cells p0.cells.toArray 73)→∃ a,w1.cell? ⟨b1,0,none⟩=some (.int .i64 a)∧(bif (decide ((a:Int)<96)) then (R (.bool true) w1) else (∃ b,w1.cell? ⟨b1,0,none⟩=some (.int .i64 b)∧∃ x,w1.cell? ⟨c0,0,none⟩=some (.int .i64 x)∧R (.bool (decide ((b:Int)≥x))) w1))):=by kernel_rfl
def bJ (s0:Option Addr) (a b:Nat) (s1:Value) (s7 s8:Int) (j:LV):LV:=.slice s0 a b::s1::jq j 0 5 (.int .i64 s7::.int .i64 s8::jq j 5 10 [])
def dK  (j:LV):LV:=jq j 0 19 []
theorem fY (p0:Option Addr) (a b:Nat) (p1:Value):fnW prog f281 [.slice p0 a b,p1] R w=(cQ prog (.loop (sub (aD f281) [1,0,1,0,0])) (bJ p0 a b p1 (a:Nat) 0 (uq 2 (ji 0::undef::js p0 a b::uq 10 []))) (aK 0 (nx f281 [1,1] R)) w):=by kernel_rfl
theorem eN (s0:Option Addr) (a b:Nat) (s1:Value) (s7 s8:Int) (j:LV) (N1:LV→World→Prop):W prog (sub (aD f281) [1,0,1,0,0]) (bJ s0 a b s1 s7 s8 j) (seqQ N1 (aK 0 (nx f281 [1,1] R))) w=((bif (decide ((s8:Int)<s7)) then (idxS s0 a s8 9 λad=>aG.ex λr=>aC w ad 0 r.cells∧nU prog s1 #[r.val] w λe w1=>∃ c,e=.returned (.bool c)∧(bif c then (R (.int .i64 s8) w1) else (N1 (bJ s0 a b s1 s7 (i64.wrap (s8+1)) [jg j 0,jg j 1,jg j 2,ji s8,jg j 4,jb (decide ((s8:Int)<s7)),ji s8,s1,js s0 a b,ji s8,jp ad,r.val,jb c,jg j 13,ji (i64.wrap (s8+1))]) w1))) else (W prog (sub (aD f281) [1,1]) (dK  (js s0 a b::s1::jq j 0 5 (ji s7::ji s8::jb (decide ((s8:Int)<s7))::jq j 6 9 []))) (retQ prog f281 R) w))):=by kernel_rfl
theorem eZ  (j:LV):W prog (sub (aD f281) [1,1]) (dK  j) (retQ prog f281 R) w=(R (.int .i64 (-1)) w):=by kernel_rfl
end Go.Proofs.YtgpmeaicjonenaaGreat
namespace Go.Proofs.YtgpmeaicjonenaaGreat
open Go.Proofs.Tryz
open Go.Eng
abbrev TPg:TypeId:=73
def nr (l:List aG):List (List Value):=l.map aG.cells
def noP:aG:=⟨0,0,0,0,0,0,0,0,0⟩
def unl (h:Int):Bool:=band .u64 h 255 == 0
def lU (h:Int):Bool:=decide (1≤bshr .u64 h 8∧bshr .u64 h 8≤281474976710654)
def kF (p:aG):Bool:=lU p.Head && unl p.Head
def ascP (l:List aG) (i:Nat):Bool:=decide (i=0) || decide ((l.getD (i - 1) noP).Line<(l.getD i noP).Line)
def jS (seq:Int) (W:List aG) (lines:Int):Int:=
 if ¬ (98≤lines∧lines≤256) then 18 else if seq<1∨1073741824≤seq∨W.length<1∨12<W.length then 1
 else if W.all (λp=>fR p.Line lines)=false then 2 else if (List.range W.length).all (λi=>ascP W i && kF (W.getD i noP))=false then 1 else 0
theorem DD {h:Int} (h0:U64 h):0≤bshr .u64 h 8∧bshr .u64 h 8<18446744073709551615:=by
 have e:bshr .u64 h 8=h / 256:=by
  show Int.fdiv h 256=_
  rw [Int.fdiv_eq_ediv_of_nonneg _ (by decide)]
 have:=h0.1
 have:=h0.2
 omega
theorem Ad (w:World) (h:Int):Does 66 [.int .u64 h] w λv w'=>v=.bool (unl h)∧w'=w:=by
 refine does Tryz.func66 ?_
 rw [qW]
 exact ⟨rfl,rfl⟩
theorem Ae (w:World) (h:Int):Does 272 [.int .u64 h] w λv w'=>v=.tuple #[.int .u64 (bshr .u64 h 8),.int .i64 (IntKind.i64.wrap (band .u64 h 255))]∧w'=w:=by
 refine does Tryz.func272 ?_
 rw [oS]
 exact ⟨rfl,rfl⟩
theorem ER {a b c:Int} {w:World} (h:b=c):∃ x,Value.tuple #[.int .u64 a,.int .i64 b]=.tuple #[.int .u64 x,.int .i64 c]∧w=w:=⟨a,by rw [h],rfl⟩
theorem DE (w:World) (h:Int):Does 228 [.int .u64 h] w λv w'=>∃ x,v=.tuple #[.int .u64 x,.int .i64 (if lU h=true then 0 else 2)]∧w'=w:=by
 refine does Tryz.func228 ?_
 rw [qQ]
 refine aF (Ae w h) ?_
 rintro v w1 ⟨rfl,rfl⟩
 refine ⟨_,_,rfl,?_⟩
 refine aF (rZ w1 _ 1 281474976710654) ?_
 rintro v w2 ⟨rfl,rfl⟩
 refine ⟨_,rfl,dG (λhf=>ER ?_) (λht=>ER ?_)⟩
 ·rw [if_neg (by unfold lU;rw [hf];simp)]
 ·rw [if_pos (by unfold lU;exact ht)]
structure sg (w:World) (a:Option Addr) (n:Nat) (W:List aG):Prop where
 rd:Rd w a (nr W).flatten
 len:n=W.length
 few:W.length≤1000000
 u64:∀ p ∈ W,U64 p.Head
theorem sg.new {w w':World} {a:Option Addr} {n:Nat} {W:List aG} (h:sg w a n W) (hn:New w w'):sg w' a n W:=⟨h.rd.new hn,h.len,h.few,h.u64⟩
theorem okLV:l9 prog 227=true:=by kernel_rfl
theorem FI (w:World) (p:aG) {c0:Nat} {lines:Int} (hc:w.cell? ⟨c0,0,none⟩=some (.int .i64 lines)):Does 227 [p.val,.pointer (some ⟨c0,0,none⟩)] w λv w'=>v=.bool (decide (p.Line<96) || decide (lines≤p.Line))∧New w w':=by
 refine does Tryz.func227 ?_
 rw [qw]
 rintro b1 w1 hb1 hw1
 obtain ⟨hz,hn⟩:=aO hb1 hw1
 have hz:Blk w1 b1 p.cells TPg:=hz
 clear hw1
 refine ⟨_,hz.cell (i:=0) rfl,aH (λh=>⟨?_,hn⟩) (λh=>⟨_,hz.cell (i:=0) rfl,_,eG hn hc id,?_,hn⟩)⟩
 ·rw [decide_eq_true h];rfl
 ·rw [decide_eq_false h];rfl
section
attribute [local irreducible] l9 nU sL
theorem Af {w:World} {a:Option Addr} {n c c0:Nat} {lines:Int} {W:List aG} (h:sg w a n W) (hc:w.cell? ⟨c0,0,none⟩=some (.int .i64 lines)) :
  Does 281 [.slice a n c,.func (.func 227) #[] #[.pointer (some ⟨c0,0,none⟩)]] w λv w'=>∃ z:Int,v=.int .i64 z∧(decide (z≥0)=W.any λp=>decide (p.Line<96) || decide (lines≤p.Line))∧New w w':=by
 have hl:=h.len
 subst hl
 have hfew:=h.few
 refine does Tryz.func281 ?_
 rw [fY]
 refine aT mix (λm env u=>∃ (i:Nat) (jj:List Value),m=W.length - i∧i≤W.length∧env=bJ a W.length c (.func (.func 227) #[] #[.pointer (some ⟨c0,0,none⟩)]) W.length i jj∧New w u∧((W.take i).any λp=>decide (p.Line<96) || decide (lines≤p.Line))=false) W.length
  ⟨0,_,by omega,by omega,rfl,Keep.refl _ _,rfl⟩ ?_
 rintro m env u ⟨i,jj,rfl,hi,rfl,hn,hno⟩
 rw [eN]
 refine aH (λhp=>?_) (λhp=>?_)
 ·have hlt:i<W.length:=by omega
  have hg:W[i]?=some W[i]:=List.getElem?_eq_getElem hlt
  refine ez (cells:=aG.cells) aG.len (by omega) (h.rd.new hn) hg rfl rfl λb o hcc _=>aG.mk_ex W[i] ⟨hcc,?_⟩
  refine nP okLV (xs:=#[W[i].val,.pointer (some ⟨c0,0,none⟩)]) (by simp) ?_
  refine aF (FI u W[i] (eG hn hc id)) ?_
  rintro v u1 ⟨rfl,hn1⟩
  refine ⟨_,rfl,uX (λhf=>⟨i,rfl,?_,hn.new hn1⟩) (λhf=>?_)⟩
  ·have h1:(W.any λp=>decide (p.Line<96) || decide (lines≤p.Line))=true:=List.any_eq_true.2 ⟨W[i],List.getElem_mem hlt,hf⟩
   rw [h1]
   simp
  ·rw [w64 (by omega) (by omega)]
   refine ⟨W.length - (i+1),by omega,i+1,_,rfl,by omega,rfl,hn.new hn1,?_⟩
   rw [List.take_add_one,hg,List.any_append,hno]
   simpa using hf
 ·rw [eZ]
  have:W.take i=W:=List.take_of_length_le (by omega)
  rw [this] at hno
  exact ⟨-1,rfl,by rw [hno];decide,hn⟩
end
theorem vC {w:World} {a:Option Addr} {n c c0:Nat} {lines:Int} {W:List aG} (h:sg w a n W) (hc:w.cell? ⟨c0,0,none⟩=some (.int .i64 lines)) :
  Does 226 [.slice a n c,.func (.func 227) #[] #[.pointer (some ⟨c0,0,none⟩)]] w λv w'=>v=.bool (W.any λp=>decide (p.Line<96) || decide (lines≤p.Line))∧New w w':=by
 refine does Tryz.func226 ?_
 rw [fH]
 refine aF (Af h hc) ?_
 rintro v w1 ⟨z,rfl,hz,hn⟩
 exact ⟨_,rfl,by rw [hz],hn⟩
theorem BW {W:List aG} {lines:Int} (hl:98≤lines∧lines≤256):(W.any λp=>decide (p.Line<96) || decide (lines≤p.Line))=!(W.all λp=>fR p.Line lines):=by
 induction W with
 |nil=>rfl
 |cons p W ih=>
  rw [List.any_cons,List.all_cons,ih,Bool.not_and]
  congr 1
  unfold fR
  rw [Bool.eq_iff_iff]
  simp
  omega
theorem wR {n:Nat} {p q:Nat→Bool}:((List.range n).all λi=>p i && q i)=false↔(List.range n).all p=false∨(List.range n).all q=false:=by
 have:((List.range n).all λi=>p i && q i)=((List.range n).all p && (List.range n).all q):=by
  rw [Bool.eq_iff_iff]
  simp only [List.all_eq_true,Bool.and_eq_true]
  exact ⟨λh=>⟨λx hx=>(h x hx).1,λx hx=>(h x hx).2⟩,λh x hx=>⟨h.1 x hx,h.2 x hx⟩⟩
 rw [this,Bool.and_eq_false_iff]
set_option maxHeartbeats 1000000 in
theorem um {w:World} {r:aS} {W:List aG} (h:sg w r.Writes r.Writes_l W) (lines:Int):Does 182 [r.val,.int .i64 lines] w λx w'=>x=.int .i64 (jS r.Seq W lines)∧New w w':=by
 refine does Tryz.func182 ?_
 rw [sf]
 rintro b1 w1 hb1 hw1
 obtain ⟨hz1,hn1⟩:=aO hb1 hw1
 have hz1:Blk w1 b1 r.cells 305:=hz1
 clear hw1
 rintro b2 w2 hb2 hw2
 obtain ⟨hz2,hn2⟩:=aO hb2 hw2
 have hz2:Blk w2 b2 [.int .i64 lines] 3:=hz2
 clear hw2
 have hz12:=New.blk hn2 hz1
 have hn:=hn1.new hn2
 have hlen:=h.len
 have hfew:=h.few
 refine ⟨_,hz2.cell (i:=0) rfl,?_⟩
 have hil:Does 225 [.int .i64 lines] w2 λv w'=>v=.bool (decide (98≤lines∧lines≤256))∧w'=w2:=by
  refine does Tryz.func225 ?_
  rw [qv]
  refine aH (λh=>⟨?_,rfl⟩) (λh=>⟨?_,rfl⟩)
  ·have h:98≤lines:=h;congr 1;simp [h]
  ·have h:¬ 98≤lines:=h;congr 1;simp [h]
 refine aF hil ?_
 rintro x w3 ⟨rfl,rfl⟩
 unfold jS
 refine ⟨_,rfl,dG (λhf=>?_) (λht=>?_)⟩
 ·rw [if_pos (by simpa using hf)];exact ⟨rfl,hn⟩
 have hl:98≤lines∧lines≤256:=by simpa using ht
 rw [if_neg (λe=>e hl)]
 refine ⟨_,hz12.cell (i:=0) rfl,aH (λhp=>?_) (λhp=>⟨_,hz12.cell (i:=0) rfl,aH (λhp2=>?_) (λhp2=>⟨_,_,_,hz12.cell (i:=1) rfl,aH (λhp3=>?_) (λhp3=>⟨_,_,_,hz12.cell (i:=1) rfl,aH (λhp4=>?_) (λhp4=>⟨_,_,_,hz12.cell (i:=1) rfl,?_⟩)⟩)⟩)⟩)⟩
 ·rw [if_pos (by omega)];exact ⟨rfl,hn⟩
 ·rw [if_pos (by omega)];exact ⟨rfl,hn⟩
 ·rw [if_pos (by omega)];exact ⟨rfl,hn⟩
 ·rw [if_pos (by omega)];exact ⟨rfl,hn⟩
 rw [if_neg (by omega)]
 refine aF (vC (h.new hn) (hz2.cell (i:=0) rfl)) ?_
 rintro x w4 ⟨rfl,hn4⟩
 rw [BW hl]
 refine ⟨_,rfl,dG (λhf=>?_) (λht=>?_)⟩
 ·rw [if_pos hf];exact ⟨rfl,hn.new hn4⟩
 rw [if_neg (by rw [ht];simp)]
 have hz14:=New.blk hn4 hz12
 have hn04:=hn.new hn4
 refine ⟨_,_,_,hz14.cell (i:=1) rfl,?_⟩
 refine aT mix (λm env u=>∃ (i:Nat) (jj:List Value),m=W.length - i∧i≤W.length∧env=dJ ⟨b1,0,none⟩ r.Writes r.Writes_l r.Writes_c r.Writes_l i jj∧New w4 u∧∀ k,k<i→ascP W k=true) W.length
  ⟨0,_,by omega,by omega,rfl,Keep.refl _ _,λk hk=>by omega⟩ ?_
 rintro m env u ⟨i,jj,rfl,hi,rfl,hnu,hok⟩
 rw [mf]
 refine aH (λhq=>?_) (λhq=>?_)
 ·have hlt:i<W.length:=by omega
  have hg:W[i]?=some W[i]:=List.getElem?_eq_getElem hlt
  have hgd:=li (d:=noP) hg
  refine ez (cells:=aG.cells) aG.len (by omega) (h.rd.new (hn04.new hnu)) hg rfl hlen λb o hc _=>aG.mk_ex W[i] ⟨hc,?_⟩
  refine gF (vs:=W[i].cells) rfl (aG.single _) λb3 u2 hb3 hz3 hn3=>?_
  rintro u3 hu3
  have hn3':New u2 u3:=by rw [hu3];exact aU _
  clear hu3
  have hz33:=New.blk hn3' hz3
  have hnu3:=(hnu.new hn3).new hn3'
  have go:ascP W i=true→∀ jj',∃ m',m'<W.length - i∧∃ (i':Nat) (jj:List Value),m'=W.length - i'∧i'≤W.length∧dJ ⟨b1,0,none⟩ r.Writes r.Writes_l r.Writes_c r.Writes_l (IntKind.i64.wrap ((i:Int)+1)) jj'=dJ ⟨b1,0,none⟩ r.Writes r.Writes_l r.Writes_c r.Writes_l i' jj∧New w4 u3∧∀ k,k<i'→ascP W k=true:=by
   intro ha jj'
   rw [w64 (by omega) (by omega)]
   refine ⟨W.length - (i+1),by omega,i+1,jj',rfl,by omega,rfl,hnu3,λk hk=>?_⟩
   rcases Nat.lt_succ_iff_lt_or_eq.1 hk with hk | rfl
   ·exact hok k hk
   ·exact ha
  refine ⟨λy=>New u3 y,Keep.refl _ _,aH (λh0=>⟨_,λy hy=>(New.blk hy hz33).cell (i:=0) rfl,_,_,_,λy hy=>(New.blk (hnu3.new hy) hz14).cell (i:=1) rfl,?_⟩) (λh0=>go (by unfold ascP;simp;omega) _)⟩
  have hg1:W[i - 1]?=some W[i - 1]:=List.getElem?_eq_getElem (by omega)
  have hgd1:=li (d:=noP) hg1
  refine wD (cells:=aG.cells) aG.len (by omega) (h.rd.new (hn04.new hnu3)) hg1 (by rw [w64 (by omega) (by omega)];omega) hlen λb' o' hc'=>⟨_,λy hy=>hc' y hy 0 _ rfl,aH (λhp6=>?_) (λhp6=>go (by unfold ascP;rw [hgd,hgd1];simp;omega) _)⟩
  rw [if_pos (wR.2 (.inl (jN hlt (by unfold ascP;rw [hgd,hgd1];simp;omega))))]
  exact ⟨rfl,hn04.new hnu3⟩
 have hall:(List.range W.length).all (ascP W)=true:=by
  rw [List.all_eq_true]
  intro k hk
  exact hok k (by have:=List.mem_range.1 hk;omega)
 rw [n8]
 refine ⟨_,_,_,(New.blk hnu hz14).cell (i:=1) rfl,?_⟩
 clear hq hi hok
 refine aT mix (λm env z=>∃ (i:Nat) (jj:List Value),m=W.length - i∧i≤W.length∧env=fX r.Writes r.Writes_l r.Writes_c r.Writes_l i jj∧New u z∧∀ k,k<i→kF (W.getD k noP)=true) W.length
  ⟨0,_,by omega,by omega,rfl,Keep.refl _ _,λk hk=>by omega⟩ ?_
 rintro m env z ⟨i,jj,rfl,hi,rfl,hnz,hok⟩
 have hn0z:=(hn04.new hnu).new hnz
 rw [mg]
 refine aH (λhq=>?_) (λhq=>?_)
 ·have hlt:i<W.length:=by omega
  have hg:W[i]?=some W[i]:=List.getElem?_eq_getElem hlt
  have hgd:=li (d:=noP) hg
  have bad:kF W[i]=false→(if ((List.range W.length).all λi=>ascP W i && kF (W.getD i noP))=false then 1 else (0:Int))=1:=λe=>by
   rw [if_pos (wR.2 (.inr (jN hlt (by rw [hgd];exact e))))]
  refine ez (cells:=aG.cells) aG.len (by omega) (h.rd.new hn0z) hg rfl hlen λb o hc _=>aG.mk_ex W[i] ⟨hc,?_⟩
  refine gF (vs:=W[i].cells) rfl (aG.single _) λb3 z2 hb3 hz3 hn3=>?_
  refine ⟨_,hz3.cell (i:=1) rfl,?_⟩
  refine aF (DE z2 W[i].Head) ?_
  rintro x z3 ⟨y,rfl,rfl⟩
  refine ⟨_,_,rfl,cU (λhne=>?_) (λhe=>⟨_,hz3.cell (i:=1) rfl,?_⟩)⟩
  ·rw [bad (by unfold kF;cases hnx:lU W[i].Head with
    |true=>rw [hnx] at hne;simp at hne
    |false=>rfl)]
   exact ⟨rfl,hn0z.new hn3⟩
  have hnx:lU W[i].Head=true:=by
   cases hnx:lU W[i].Head with
   |true=>rfl
   |false=>rw [hnx] at he;simp at he
  refine aF (Ad z3 W[i].Head) ?_
  rintro x z4 ⟨rfl,rfl⟩
  refine ⟨_,rfl,dG (λhf=>?_) (λht=>?_)⟩
  ·rw [bad (by unfold kF;rw [hf,Bool.and_false])]
   exact ⟨rfl,hn0z.new hn3⟩
  ·rw [w64 (by omega) (by omega)]
   refine ⟨W.length - (i+1),by omega,i+1,_,rfl,by omega,rfl,hnz.new hn3,λk hk=>?_⟩
   rcases Nat.lt_succ_iff_lt_or_eq.1 hk with hk | rfl
   ·exact hok k hk
   ·rw [hgd];unfold kF;rw [hnx,ht];rfl
 ·rw [n9]
  have hall2:(List.range W.length).all (λi=>kF (W.getD i noP))=true:=by
   rw [List.all_eq_true]
   intro k hk
   exact hok k (by have:=List.mem_range.1 hk;omega)
  rw [if_neg (λe=>by
   rcases wR.1 e with e | e
   ·rw [hall] at e;cases e
   ·rw [hall2] at e;cases e)]
  exact ⟨rfl,hn0z⟩
end Go.Proofs.YtgpmeaicjonenaaGreat
namespace Go.Proofs.YtgpmeaicjonenaaGreat
open Go.Eng
def tA (l:List aV):List (List Value):=l.map aV.cells
def noS:aV:=⟨0,0⟩
def ascS (R:List aV) (i:Nat):Bool:=decide (i=0) || decide ((R.getD (i - 1) noS).Line<(R.getD i noS).Line)
def has (W:List aG) (line:Int):Bool:=W.any λp=>decide (p.Line=line)
def nt (R:List aV) (W:List aG) (i:Nat):Bool:=(ascS R i && unl (R.getD i noS).Head) && !has W (R.getD i noS).Line
structure CJob where
 client:Int
 seq:Int
 lines:Int
 v:Vw
 reads:List aV
 writes:List aG
def CJob.valid (j:CJob):Int:=
 if j.client<0∨6≤j.client then 1 else if j.v.valid 5≠0 then j.v.valid 5 else if j.lines<98∨256<j.lines then 18
 else if 0<j.writes.length∧jS j.seq j.writes j.lines≠0 then jS j.seq j.writes j.lines else if 24<j.reads.length then 18
 else if j.reads.all (λs=>fR s.Line j.lines)=false then 2 else if (List.range j.reads.length).all (nt j.reads j.writes)=false then 1 else 0
structure qT (w:World) (r:aL) (j:CJob):Prop where
 client:r.Client=j.client
 seq:r.Seq=j.seq
 lines:r.Lines=j.lines
 view:∃ M,ViewAt M w r.View j.v
 rd:Rd w r.Reads (tA j.reads).flatten
 len:r.Reads_l=j.reads.length
 few:j.reads.length≤1000000
 pg:sg w r.Writes r.Writes_l j.writes
theorem qT.new {w w':World} {r:aL} {j:CJob} (h:qT w r j) (hn:New w w'):qT w' r j:=⟨h.client,h.seq,h.lines,h.view.imp λ_ h=>h.new hn,h.rd.new hn,h.len,h.few,h.pg.new hn⟩
theorem xC (w:World) (r:aL):Does 183 [r.val] w λx w'=>x=aS.val ⟨r.Seq,r.Writes,r.Writes_l,r.Writes_c⟩∧New w w':=by
 refine does Tryz.func183 ?_
 rw [oe]
 rintro b1 w1 hb1 hw1
 obtain ⟨hz1,hn1⟩:=aO hb1 hw1
 have hz1:Blk w1 b1 r.cells 39:=hz1
 clear hw1
 rintro b2 w2 hb2 hw2
 obtain ⟨hz2,hn2⟩:=aO hb2 hw2
 have hz2:Blk w2 b2 (aS.cells ⟨0,none,0,0⟩) 305:=hz2
 clear hw2
 have hz12:=New.blk hn2 hz1
 have hs:=hn1.size
 refine ⟨_,hz12.cell (i:=1) rfl,_,_,_,hz12.cell (i:=6) rfl,?_⟩
 refine il (vs:=aS.cells ⟨r.Seq,r.Writes,r.Writes_l,r.Writes_c⟩) hz2 rfl (aS.single _) λw3 hz3 hk3=>?_
 refine aS.mk_ex ⟨r.Seq,r.Writes,r.Writes_l,r.Writes_c⟩ ⟨aI hz3 rfl,rfl,rfl,?_⟩
 exact (hn1.new hn2).trans hk3 λk hlt e=>by omega
theorem vD {w:World} {r:aL} {W:List aG} (h:sg w r.Writes r.Writes_l W) (line:Int):Does 185 [r.val,.int .i64 line] w λx w'=>x=.bool (has W line)∧New w w':=by
 refine does Tryz.func185 ?_
 rw [og]
 rintro b1 w1 hb1 hw1
 obtain ⟨hz1,hn1⟩:=aO hb1 hw1
 have hz1:Blk w1 b1 r.cells 39:=hz1
 clear hw1
 have hlen:=h.len
 have hfew:=h.few
 refine ⟨_,_,_,hz1.cell (i:=6) rfl,?_⟩
 refine aT mix (λm env u=>∃ (i:Nat) (jj:List Value),m=W.length - i∧i≤W.length∧env=eg line r.Writes r.Writes_l r.Writes_c r.Writes_l i jj∧New w u∧has (W.take i) line=false) W.length
  ⟨0,_,by omega,by omega,rfl,hn1,rfl⟩ ?_
 rintro m env u ⟨i,jj,rfl,hi,rfl,hnu,hno⟩
 rw [kf]
 refine aH (λhq=>?_) (λhq=>?_)
 ·have hlt:i<W.length:=by omega
  have hg:W[i]?=some W[i]:=List.getElem?_eq_getElem hlt
  refine ez (cells:=aG.cells) aG.len (by omega) (h.rd.new hnu) hg rfl hlen λb o hc _=>aG.mk_ex W[i] ⟨hc,?_⟩
  refine gF (vs:=W[i].cells) rfl (aG.single _) λb3 u2 hb3 hz3 hn3=>?_
  refine ⟨_,hz3.cell (i:=0) rfl,bK (λhe=>⟨?_,hnu.new hn3⟩) (λhe=>?_)⟩
  ·have:has W line=true:=List.any_eq_true.2 ⟨W[i],List.getElem_mem hlt,by simpa using he⟩
   rw [this]
  ·rw [w64 (by omega) (by omega)]
   refine ⟨W.length - (i+1),by omega,i+1,_,rfl,by omega,rfl,hnu.new hn3,?_⟩
   unfold has
   rw [List.take_add_one,hg,List.any_append]
   have:=hno
   unfold has at this
   rw [this]
   simpa using he
 ·rw [lq]
  have ht:W.take i=W:=List.take_of_length_le (by omega)
  rw [ht] at hno
  exact ⟨by rw [hno],hnu⟩
end Go.Proofs.YtgpmeaicjonenaaGreat
