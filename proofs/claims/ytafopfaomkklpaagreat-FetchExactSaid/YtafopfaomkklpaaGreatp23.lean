/- A part of the proof. -/
import Derived.Test.YtafopfaomkklpaaGreatProg
import Derived.Test.YtafopfaomkklpaaGreatp03
import Derived.Test.YtafopfaomkklpaaGreatp22
import Derived.Test.YtafopfaomkklpaaGreatp08
set_option linter.unusedVariables false
namespace Go.Proofs.YtafopfaomkklpaaGreat
open Go.Proofs.Tryz
open Go.Eng IntKind
variable (w:World) (R:Value→World→Prop)
def eB (s0:Option Addr) (a b:Nat) (s1:Option Addr) (c d:Nat) (s5:Int) (j:LV):LV:=[(.slice s0 a b),(.slice s1 c d),jg j 0,jg j 1,jg j 2,(.int .i64 s5),jg j 3,jg j 4,jg j 5,jg j 6,jg j 7,jg j 8,jg j 9,jg j 10,jg j 11,jg j 12,jg j 13,jg j 14,jg j 15,jg j 16,jg j 17,jg j 18,jg j 19,jg j 20,jg j 21,jg j 22,jg j 23]
def jk  (j:LV):LV:=jq j 0 27 []
theorem p9 (p0:Option Addr) (a b:Nat) (p1:Option Addr) (c d:Nat):fnW prog f10 [.slice p0 a b,.slice p1 c d] R w=((bif (((a:Nat):Int) != (c:Nat)) then (R (.bool false) w) else (bW prog (.loop (sub (aA f10) [1,1,0,1,0,0])) (eB p0 a b p1 c d 0 (uq 2 (jb false::js p0 a b::jn a::js p1 c d::jn c::jb (((a:Nat):Int) != (c:Nat))::uq 16 []))) (aK 0 (nx f10 [1,1,1] R)) w))):=by kernel_rfl
theorem kW (s0:Option Addr) (a b:Nat) (s1:Option Addr) (c d:Nat) (s5:Int) (j:LV) (N1:LV→World→Prop):W prog (sub (aA f10) [1,1,0,1,0,0]) (eB s0 a b s1 c d s5 j) (seqQ N1 (aK 0 (nx f10 [1,1,1] R))) w=((bif (decide ((s5:Int)<(a:Nat))) then (∀ w1,w1=w.drew→∃ Sx:World→Prop,Sx w1∧idxS s0 a s5 9 λad=>aU.ex λr=>(∀ u,Sx u→aE u ad 0 r.cells)∧idxS s1 c s5 9 λg=>aU.ex λr1=>(∀ u,Sx u→aE u g 0 r1.cells)∧Calls prog 33 #[r.val,r1.val] w1 λe w2=>∃ f,e=.returned (.bool f)∧(bif (!f) then (R (.bool false) w2) else (N1 (eB s0 a b s1 c d (i64.wrap (s5+1)) (jq j 0 8 [ji s5,js s0 a b,jn a,jb (decide ((s5:Int)<(a:Nat))),ji s5,ji (i64.wrap (s5+1)),js s0 a b,ji s5,jp ad,r.val,js s1 c d,ji s5,jp g,r1.val,jb f,jb (!f)])) w2))) else (W prog (sub (aA f10) [1,1,1]) (jk  (js s0 a b::js s1 c d::jg j 0::jg j 1::jg j 2::ji s5::jq j 3 5 (ji s5::js s0 a b::jn a::jb (decide ((s5:Int)<(a:Nat)))::jq j 12 12 []))) (retQ prog f10 R) w))):=by kernel_rfl
theorem mZ  (j:LV):W prog (sub (aA f10) [1,1,1]) (jk  j) (retQ prog f10 R) w=(R (.bool true) w):=by kernel_rfl
theorem ol (p0:Nat) (p1:Bool):fnW prog f32 [.pointer (some ⟨p0,0,none⟩),.bool p1] R w=((bif (!p1) then (∃ a,w.cell? ⟨p0,3,none⟩=some (.bool a)∧(bif (!a) then (R (.tuple #[.bool true,.bool true]) w) else (∀ w1,w1=w.drew→∃ Sx:World→Prop,Sx w1∧∃ b,(∀ u,Sx u→u.cell? ⟨p0,3,none⟩=some (.bool b))∧(bif (!b) then (∃ c,(∀ u,Sx u→u.cell? ⟨p0,1,none⟩=some (.int .i64 c))∧∃ d f g,(∀ u,Sx u→u.cell? ⟨p0,0,none⟩=some (.slice d f g))∧R (.tuple #[.bool false,.bool ((c:Int) == (f:Nat))]) w1) else (R (.tuple #[.bool false,.bool false]) w1))))) else (∀ w2,w2=w.drew→∃ Sx1:World→Prop,Sx1 w2∧∃ h,(∀ u,Sx1 u→u.cell? ⟨p0,3,none⟩=some (.bool h))∧(bif (!h) then (∃ i,(∀ u,Sx1 u→u.cell? ⟨p0,1,none⟩=some (.int .i64 i))∧∃ k l m,(∀ u,Sx1 u→u.cell? ⟨p0,0,none⟩=some (.slice k l m))∧R (.tuple #[.bool false,.bool ((i:Int) == (l:Nat))]) w2) else (R (.tuple #[.bool false,.bool false]) w2))))):=by kernel_rfl
theorem sh (p0:aU) (p1:aU):fnW prog f33 [p0.val,p1.val] R w=(∀ b1 w1,b1=w.heap.size→w1=w.alloc (.cells p0.cells.toArray 91)→∀ b2 w2,b2=w1.heap.size→w2=w1.alloc (.cells p1.cells.toArray 91)→∃ a,w2.cell? ⟨b1,0,none⟩=some (.int .i64 a)∧∃ b,w2.cell? ⟨b2,0,none⟩=some (.int .i64 b)∧(bif ((a:Int) != b) then (R (.bool false) w2) else (∃ c,w2.cell? ⟨b1,1,none⟩=some (.int .i64 c)∧∃ d,w2.cell? ⟨b2,1,none⟩=some (.int .i64 d)∧(bif ((c:Int) != d) then (R (.bool false) w2) else (∃ At,w2.cell? ⟨b1,2,none⟩=some (.int .i64 At)∧∃ f,w2.cell? ⟨b2,2,none⟩=some (.int .i64 f)∧(bif ((At:Int) != f) then (R (.bool false) w2) else (∃ g,w2.cell? ⟨b1,7,none⟩=some (.int .u64 g)∧∃ h,w2.cell? ⟨b2,7,none⟩=some (.int .u64 h)∧(bif ((g:Int) != h) then (R (.bool false) w2) else (∃ i,w2.cell? ⟨b1,8,none⟩=some (.int .i64 i)∧∃ k,w2.cell? ⟨b2,8,none⟩=some (.int .i64 k)∧(bif ((i:Int) != k) then (R (.bool false) w2) else (∃ l,w2.cell? ⟨b1,0,none⟩=some (.int .i64 l)∧(bif ((l:Int) == 1) then (∃ N_,w2.cell? ⟨b1,3,none⟩=some (.int .i64 N_)∧∃ m,w2.cell? ⟨b2,3,none⟩=some (.int .i64 m)∧R (.bool ((N_:Int) == m)) w2) else ((bif ((l:Int) == 2) then (∃ n o p,w2.cell? ⟨b1,6,none⟩=some (.slice n o p)∧∃ q r s,w2.cell? ⟨b2,6,none⟩=some (.slice q r s)∧Calls prog 85 #[.slice n o p,.slice q r s] w2 λe w3=>∃ (t:Bool),e=.returned (.bool t)∧R (.bool t) w3) else ((bif ((l:Int) == 3) then (∃ v,w2.cell? ⟨b1,4,none⟩=some (.int .u64 v)∧∃ x,w2.cell? ⟨b2,4,none⟩=some (.int .u64 x)∧(bif ((v:Int) == x) then (∃ y,w2.cell? ⟨b1,5,none⟩=some (.int .u64 y)∧∃ z,w2.cell? ⟨b2,5,none⟩=some (.int .u64 z)∧R (.bool ((y:Int) == z)) w2) else (R (.bool false) w2))) else ((bif ((l:Int) == 4) then (∃ aa,w2.cell? ⟨b1,5,none⟩=some (.int .u64 aa)∧∃ ab,w2.cell? ⟨b2,5,none⟩=some (.int .u64 ab)∧R (.bool ((aa:Int) == ab)) w2) else (∃ ac,w2.cell? ⟨b1,3,none⟩=some (.int .i64 ac)∧∃ ad,w2.cell? ⟨b2,3,none⟩=some (.int .i64 ad)∧(bif ((ac:Int) == ad) then (∃ ae,w2.cell? ⟨b1,4,none⟩=some (.int .u64 ae)∧∃ af,w2.cell? ⟨b2,4,none⟩=some (.int .u64 af)∧(bif ((ae:Int) == af) then (∃ ag,w2.cell? ⟨b1,5,none⟩=some (.int .u64 ag)∧∃ ah,w2.cell? ⟨b2,5,none⟩=some (.int .u64 ah)∧(bif ((ag:Int) == ah) then (∃ ai aj ak,w2.cell? ⟨b1,6,none⟩=some (.slice ai aj ak)∧∃ al am an,w2.cell? ⟨b2,6,none⟩=some (.slice al am an)∧Calls prog 85 #[.slice ai aj ak,.slice al am an] w2 λe w4=>∃ (ao:Bool),e=.returned (.bool ao)∧R (.bool ao) w4) else (R (.bool false) w2))) else (R (.bool false) w2))) else (R (.bool false) w2))))))))))))))))))))):=by kernel_rfl
theorem jl (p0:Nat) (p1:Option Addr) (a b:Nat):fnW prog f84 [.pointer (some ⟨p0,0,none⟩),.slice p1 a b] R w=((bif (((a:Nat):Int) == 0) then (R (.tuple #[.slice none 0 0,.bool true]) w) else (∀ w1,w1=w.drew→∃ Sx:World→Prop,Sx w1∧∃ c,(∀ u,Sx u→u.cell? ⟨p0,1,none⟩=some (.int .i64 c))∧∃ d f g,(∀ u,Sx u→u.cell? ⟨p0,0,none⟩=some (.slice d f g))∧(bif ((c:Int) == (f:Nat)) then ((∃ u,w1.cell? ⟨p0,2,none⟩=some u)∧w1.frozen? ⟨p0,2,none⟩=false∧∀ w2,w2=w1.setCell ⟨p0,2,none⟩ (.slice p1 a b)→R (.tuple #[.slice none 0 0,.bool false]) w2) else (∀ w3,w3=w1.drew→∃ Sx1:World→Prop,Sx1 w3∧∃ h i k,(∀ u,Sx1 u→u.cell? ⟨p0,0,none⟩=some (.slice h i k))∧∃ l,(∀ u,Sx1 u→u.cell? ⟨p0,1,none⟩=some (.int .i64 l))∧idxS h i l 1 λad=>∃ x m n,(∀ u,Sx1 u→u.cell? ad=some (.slice x m n))∧∃ o,w3.cell? ⟨p0,1,none⟩=some (.int .i64 o)∧(∃ u,w3.cell? ⟨p0,1,none⟩=some u)∧w3.frozen? ⟨p0,1,none⟩=false∧∀ w4,w4=w3.setCell ⟨p0,1,none⟩ (.int .i64 (i64.wrap (o+1)))→Calls prog 123 #[.slice p1 a b,.slice x m n] w4 λe w5=>∃ p,e=.returned (.bool p)∧(bif (!p) then ((∃ u,w5.cell? ⟨p0,3,none⟩=some u)∧w5.frozen? ⟨p0,3,none⟩=false∧∀ w6,w6=w5.setCell ⟨p0,3,none⟩ (.bool true)→R (.tuple #[.slice none 0 0,.bool false]) w6) else (R (.tuple #[.slice x m n,.bool true]) w5))))))):=by kernel_rfl
def bA (s0:Option Addr) (a b:Nat) (s1:Option Addr) (c d:Nat) (s5:Int) (j:LV):LV:=.slice s0 a b::.slice s1 c d::jq j 0 3 (.int .i64 s5::jq j 3 54 [])
def mb  (j:LV):LV:=jq j 0 60 []
theorem sS (p0:Option Addr) (a b:Nat) (p1:Option Addr) (c d:Nat):fnW prog f123 [.slice p0 a b,.slice p1 c d] R w=((bif (((a:Nat):Int) != (c:Nat)) then (R (.bool false) w) else (bW prog (.loop (sub (aA f123) [1,1,0,1,0,0])) (bA p0 a b p1 c d 0 (uq 2 (jb false::undef::js p0 a b::jn a::js p1 c d::jn c::jb (((a:Nat):Int) != (c:Nat))::uq 48 []))) (aK 0 (nx f123 [1,1,1] R)) w))):=by kernel_rfl
set_option maxHeartbeats 4000000 in
theorem nJ (s0:Option Addr) (a b:Nat) (s1:Option Addr) (c d:Nat) (s5:Int) (j:LV) (N1:LV→World→Prop):W prog (sub (aA f123) [1,1,0,1,0,0]) (bA s0 a b s1 c d s5 j) (seqQ N1 (aK 0 (nx f123 [1,1,1] R))) w=((bif (decide ((s5:Int)<(c:Nat))) then (idxS s1 c s5 2 λad=>aV.ex λr=>aE w ad 0 r.cells∧∀ b1 w1,b1=w.heap.size→w1=w.alloc (.cells #[.int .i64 0,.slice none 0 0] 53)→wrAt w1 ⟨b1,0,none⟩ 0 r.cells∧∀ w2,w2=puts w1 ⟨b1,0,none⟩ 0 r.cells→∃ f,w2.cell? ⟨b1,0,none⟩=some (.int .i64 f)∧(bif ((f:Int) != 0) then (∃ g,w2.cell? ⟨b1,0,none⟩=some (.int .i64 g)∧(bif ((g:Int) != 4) then (∃ h,w2.cell? ⟨b1,0,none⟩=some (.int .i64 h)∧(bif ((h:Int) != 5) then (R (.bool false) w2) else (∀ w3,w3=w2.drew→∃ Sx:World→Prop,Sx w3∧∃ i,(∀ u,Sx u→u.cell? ⟨b1,0,none⟩=some (.int .i64 i))∧(bif ((i:Int) == 0) then (∃ k l m,(∀ u,Sx u→u.cell? ⟨b1,1,none⟩=some (.slice k l m))∧idxS s0 a s5 9 λa2=>aU.ex λr1=>(∀ u,Sx u→aE u a2 0 r1.cells)∧Calls prog 150 #[r1.val] w3 λe w4=>∃ (n:Int),e=.returned (.int .i64 n)∧Sx w4∧(bif (((l:Nat):Int) != n) then (R (.bool false) w4) else (∃ o,(∀ u,Sx u→u.cell? ⟨b1,0,none⟩=some (.int .i64 o))∧(bif ((o:Int) != 0) then (∃ p q s,(∀ u,Sx u→u.cell? ⟨b1,1,none⟩=some (.slice p q s))∧(bif (((q:Nat):Int) != 0) then (R (.bool false) w4) else (N1 (bA s0 a b s1 c d (i64.wrap (s5+1)) (jg j 0::jg j 1::jg j 2::jp ⟨b1,0,none⟩::jq j 4 5 [ji s5,js s1 c d,jn c,jb (decide ((s5:Int)<(c:Nat))),ji s5,ji (i64.wrap (s5+1)),js s1 c d,ji s5,jp ad,r.val,jp ⟨b1,0,none⟩,ji f,jb ((f:Int) != 0),jb true,jp ⟨b1,0,none⟩,ji g,jb ((g:Int) != 4),jb ((g:Int) != 4),jb true,jp ⟨b1,0,none⟩,ji h,jb ((h:Int) != 5),jb ((h:Int) != 5),jp ⟨b1,0,none⟩,ji i,jb ((i:Int) == 0),jb true,jp ⟨b1,1,none⟩,js k l m,jn l,js s0 a b,ji s5,jp a2,r1.val,ji n,jb (((l:Nat):Int) != n),jb (((l:Nat):Int) != n),jb false,jp ⟨b1,0,none⟩,ji o,jb ((o:Int) != 0),jb true,jp ⟨b1,1,none⟩,js p q s,jn q,jb (((q:Nat):Int) != 0),jb (((q:Nat):Int) != 0),jb (((q:Nat):Int) != 0)])) w4))) else (N1 (bA s0 a b s1 c d (i64.wrap (s5+1)) (jg j 0::jg j 1::jg j 2::jp ⟨b1,0,none⟩::jq j 4 5 (ji s5::js s1 c d::jn c::jb (decide ((s5:Int)<(c:Nat)))::ji s5::ji (i64.wrap (s5+1))::js s1 c d::ji s5::jp ad::r.val::jp ⟨b1,0,none⟩::ji f::jb ((f:Int) != 0)::jb true::jp ⟨b1,0,none⟩::ji g::jb ((g:Int) != 4)::jb ((g:Int) != 4)::jb true::jp ⟨b1,0,none⟩::ji h::jb ((h:Int) != 5)::jb ((h:Int) != 5)::jp ⟨b1,0,none⟩::ji i::jb ((i:Int) == 0)::jb true::jp ⟨b1,1,none⟩::js k l m::jn l::js s0 a b::ji s5::jp a2::r1.val::ji n::jb (((l:Nat):Int) != n)::jb (((l:Nat):Int) != n)::jb false::jp ⟨b1,0,none⟩::ji o::jb ((o:Int) != 0)::jb false::uq 4 [jb false,jb false]))) w4))))) else (∃ t,(∀ u,Sx u→u.cell? ⟨b1,0,none⟩=some (.int .i64 t))∧(bif ((t:Int) != 0) then (∃ v x y,(∀ u,Sx u→u.cell? ⟨b1,1,none⟩=some (.slice v x y))∧(bif (((x:Nat):Int) != 0) then (R (.bool false) w3) else (N1 (bA s0 a b s1 c d (i64.wrap (s5+1)) (jg j 0::jg j 1::jg j 2::jp ⟨b1,0,none⟩::jq j 4 5 (ji s5::js s1 c d::jn c::jb (decide ((s5:Int)<(c:Nat)))::ji s5::ji (i64.wrap (s5+1))::js s1 c d::ji s5::jp ad::r.val::jp ⟨b1,0,none⟩::ji f::jb ((f:Int) != 0)::jb true::jp ⟨b1,0,none⟩::ji g::jb ((g:Int) != 4)::jb ((g:Int) != 4)::jb true::jp ⟨b1,0,none⟩::ji h::jb ((h:Int) != 5)::jb ((h:Int) != 5)::jp ⟨b1,0,none⟩::ji i::jb ((i:Int) == 0)::jb false::uq 9 [jb false,jb false,jp ⟨b1,0,none⟩,ji t,jb ((t:Int) != 0),jb true,jp ⟨b1,1,none⟩,js v x y,jn x,jb (((x:Nat):Int) != 0),jb (((x:Nat):Int) != 0),jb (((x:Nat):Int) != 0)]))) w3))) else (N1 (bA s0 a b s1 c d (i64.wrap (s5+1)) (jg j 0::jg j 1::jg j 2::jp ⟨b1,0,none⟩::jq j 4 5 (ji s5::js s1 c d::jn c::jb (decide ((s5:Int)<(c:Nat)))::ji s5::ji (i64.wrap (s5+1))::js s1 c d::ji s5::jp ad::r.val::jp ⟨b1,0,none⟩::ji f::jb ((f:Int) != 0)::jb true::jp ⟨b1,0,none⟩::ji g::jb ((g:Int) != 4)::jb ((g:Int) != 4)::jb true::jp ⟨b1,0,none⟩::ji h::jb ((h:Int) != 5)::jb ((h:Int) != 5)::jp ⟨b1,0,none⟩::ji i::jb ((i:Int) == 0)::jb false::uq 9 (jb false::jb false::jp ⟨b1,0,none⟩::ji t::jb ((t:Int) != 0)::jb false::uq 4 [jb false,jb false])))) w3))))))) else (∀ w5,w5=w2.drew→∃ Sx1:World→Prop,Sx1 w5∧∃ z,(∀ u,Sx1 u→u.cell? ⟨b1,0,none⟩=some (.int .i64 z))∧(bif ((z:Int) == 0) then (∃ aa ab ac,(∀ u,Sx1 u→u.cell? ⟨b1,1,none⟩=some (.slice aa ab ac))∧idxS s0 a s5 9 λa3=>aU.ex λr2=>(∀ u,Sx1 u→aE u a3 0 r2.cells)∧Calls prog 150 #[r2.val] w5 λe w6=>∃ (ae:Int),e=.returned (.int .i64 ae)∧Sx1 w6∧(bif (((ab:Nat):Int) != ae) then (R (.bool false) w6) else (∃ af,(∀ u,Sx1 u→u.cell? ⟨b1,0,none⟩=some (.int .i64 af))∧(bif ((af:Int) != 0) then (∃ ag ah ai,(∀ u,Sx1 u→u.cell? ⟨b1,1,none⟩=some (.slice ag ah ai))∧(bif (((ah:Nat):Int) != 0) then (R (.bool false) w6) else (N1 (bA s0 a b s1 c d (i64.wrap (s5+1)) (jg j 0::jg j 1::jg j 2::jp ⟨b1,0,none⟩::jq j 4 5 [ji s5,js s1 c d,jn c,jb (decide ((s5:Int)<(c:Nat))),ji s5,ji (i64.wrap (s5+1)),js s1 c d,ji s5,jp ad,r.val,jp ⟨b1,0,none⟩,ji f,jb ((f:Int) != 0),jb true,jp ⟨b1,0,none⟩,ji g,jb ((g:Int) != 4),jb ((g:Int) != 4),jb false,undef,undef,undef,jb false,jp ⟨b1,0,none⟩,ji z,jb ((z:Int) == 0),jb true,jp ⟨b1,1,none⟩,js aa ab ac,jn ab,js s0 a b,ji s5,jp a3,r2.val,ji ae,jb (((ab:Nat):Int) != ae),jb (((ab:Nat):Int) != ae),jb false,jp ⟨b1,0,none⟩,ji af,jb ((af:Int) != 0),jb true,jp ⟨b1,1,none⟩,js ag ah ai,jn ah,jb (((ah:Nat):Int) != 0),jb (((ah:Nat):Int) != 0),jb (((ah:Nat):Int) != 0)])) w6))) else (N1 (bA s0 a b s1 c d (i64.wrap (s5+1)) (jg j 0::jg j 1::jg j 2::jp ⟨b1,0,none⟩::jq j 4 5 (ji s5::js s1 c d::jn c::jb (decide ((s5:Int)<(c:Nat)))::ji s5::ji (i64.wrap (s5+1))::js s1 c d::ji s5::jp ad::r.val::jp ⟨b1,0,none⟩::ji f::jb ((f:Int) != 0)::jb true::jp ⟨b1,0,none⟩::ji g::jb ((g:Int) != 4)::jb ((g:Int) != 4)::jb false::uq 3 (jb false::jp ⟨b1,0,none⟩::ji z::jb ((z:Int) == 0)::jb true::jp ⟨b1,1,none⟩::js aa ab ac::jn ab::js s0 a b::ji s5::jp a3::r2.val::ji ae::jb (((ab:Nat):Int) != ae)::jb (((ab:Nat):Int) != ae)::jb false::jp ⟨b1,0,none⟩::ji af::jb ((af:Int) != 0)::jb false::uq 4 [jb false,jb false])))) w6))))) else (∃ aj,(∀ u,Sx1 u→u.cell? ⟨b1,0,none⟩=some (.int .i64 aj))∧(bif ((aj:Int) != 0) then (∃ ak al am,(∀ u,Sx1 u→u.cell? ⟨b1,1,none⟩=some (.slice ak al am))∧(bif (((al:Nat):Int) != 0) then (R (.bool false) w5) else (N1 (bA s0 a b s1 c d (i64.wrap (s5+1)) (jg j 0::jg j 1::jg j 2::jp ⟨b1,0,none⟩::jq j 4 5 (ji s5::js s1 c d::jn c::jb (decide ((s5:Int)<(c:Nat)))::ji s5::ji (i64.wrap (s5+1))::js s1 c d::ji s5::jp ad::r.val::jp ⟨b1,0,none⟩::ji f::jb ((f:Int) != 0)::jb true::jp ⟨b1,0,none⟩::ji g::jb ((g:Int) != 4)::jb ((g:Int) != 4)::jb false::uq 3 (jb false::jp ⟨b1,0,none⟩::ji z::jb ((z:Int) == 0)::jb false::uq 9 [jb false,jb false,jp ⟨b1,0,none⟩,ji aj,jb ((aj:Int) != 0),jb true,jp ⟨b1,1,none⟩,js ak al am,jn al,jb (((al:Nat):Int) != 0),jb (((al:Nat):Int) != 0),jb (((al:Nat):Int) != 0)])))) w5))) else (N1 (bA s0 a b s1 c d (i64.wrap (s5+1)) (jg j 0::jg j 1::jg j 2::jp ⟨b1,0,none⟩::jq j 4 5 (ji s5::js s1 c d::jn c::jb (decide ((s5:Int)<(c:Nat)))::ji s5::ji (i64.wrap (s5+1))::js s1 c d::ji s5::jp ad::r.val::jp ⟨b1,0,none⟩::ji f::jb ((f:Int) != 0)::jb true::jp ⟨b1,0,none⟩::ji g::jb ((g:Int) != 4)::jb ((g:Int) != 4)::jb false::uq 3 (jb false::jp ⟨b1,0,none⟩::ji z::jb ((z:Int) == 0)::jb false::uq 9 (jb false::jb false::jp ⟨b1,0,none⟩::ji aj::jb ((aj:Int) != 0)::jb false::uq 4 [jb false,jb false]))))) w5))))))) else (∀ w7,w7=w2.drew→∃ Sx2:World→Prop,Sx2 w7∧∃ an,(∀ u,Sx2 u→u.cell? ⟨b1,0,none⟩=some (.int .i64 an))∧(bif ((an:Int) == 0) then (∃ ao ap aq,(∀ u,Sx2 u→u.cell? ⟨b1,1,none⟩=some (.slice ao ap aq))∧idxS s0 a s5 9 λa4=>aU.ex λr3=>(∀ u,Sx2 u→aE u a4 0 r3.cells)∧Calls prog 150 #[r3.val] w7 λe w8=>∃ (ar:Int),e=.returned (.int .i64 ar)∧Sx2 w8∧(bif (((ap:Nat):Int) != ar) then (R (.bool false) w8) else (∃ au,(∀ u,Sx2 u→u.cell? ⟨b1,0,none⟩=some (.int .i64 au))∧(bif ((au:Int) != 0) then (∃ av aw ax,(∀ u,Sx2 u→u.cell? ⟨b1,1,none⟩=some (.slice av aw ax))∧(bif (((aw:Nat):Int) != 0) then (R (.bool false) w8) else (N1 (bA s0 a b s1 c d (i64.wrap (s5+1)) (jg j 0::jg j 1::jg j 2::jp ⟨b1,0,none⟩::jq j 4 5 [ji s5,js s1 c d,jn c,jb (decide ((s5:Int)<(c:Nat))),ji s5,ji (i64.wrap (s5+1)),js s1 c d,ji s5,jp ad,r.val,jp ⟨b1,0,none⟩,ji f,jb ((f:Int) != 0),jb false,undef,undef,undef,jb false,jb false,undef,undef,undef,jb false,jp ⟨b1,0,none⟩,ji an,jb ((an:Int) == 0),jb true,jp ⟨b1,1,none⟩,js ao ap aq,jn ap,js s0 a b,ji s5,jp a4,r3.val,ji ar,jb (((ap:Nat):Int) != ar),jb (((ap:Nat):Int) != ar),jb false,jp ⟨b1,0,none⟩,ji au,jb ((au:Int) != 0),jb true,jp ⟨b1,1,none⟩,js av aw ax,jn aw,jb (((aw:Nat):Int) != 0),jb (((aw:Nat):Int) != 0),jb (((aw:Nat):Int) != 0)])) w8))) else (N1 (bA s0 a b s1 c d (i64.wrap (s5+1)) (jg j 0::jg j 1::jg j 2::jp ⟨b1,0,none⟩::jq j 4 5 (ji s5::js s1 c d::jn c::jb (decide ((s5:Int)<(c:Nat)))::ji s5::ji (i64.wrap (s5+1))::js s1 c d::ji s5::jp ad::r.val::jp ⟨b1,0,none⟩::ji f::jb ((f:Int) != 0)::jb false::uq 3 (jb false::jb false::uq 3 (jb false::jp ⟨b1,0,none⟩::ji an::jb ((an:Int) == 0)::jb true::jp ⟨b1,1,none⟩::js ao ap aq::jn ap::js s0 a b::ji s5::jp a4::r3.val::ji ar::jb (((ap:Nat):Int) != ar)::jb (((ap:Nat):Int) != ar)::jb false::jp ⟨b1,0,none⟩::ji au::jb ((au:Int) != 0)::jb false::uq 4 [jb false,jb false]))))) w8))))) else (∃ ay,(∀ u,Sx2 u→u.cell? ⟨b1,0,none⟩=some (.int .i64 ay))∧(bif ((ay:Int) != 0) then (∃ az a0 a1,(∀ u,Sx2 u→u.cell? ⟨b1,1,none⟩=some (.slice az a0 a1))∧(bif (((a0:Nat):Int) != 0) then (R (.bool false) w7) else (N1 (bA s0 a b s1 c d (i64.wrap (s5+1)) (jg j 0::jg j 1::jg j 2::jp ⟨b1,0,none⟩::jq j 4 5 (ji s5::js s1 c d::jn c::jb (decide ((s5:Int)<(c:Nat)))::ji s5::ji (i64.wrap (s5+1))::js s1 c d::ji s5::jp ad::r.val::jp ⟨b1,0,none⟩::ji f::jb ((f:Int) != 0)::jb false::uq 3 (jb false::jb false::uq 3 (jb false::jp ⟨b1,0,none⟩::ji an::jb ((an:Int) == 0)::jb false::uq 9 [jb false,jb false,jp ⟨b1,0,none⟩,ji ay,jb ((ay:Int) != 0),jb true,jp ⟨b1,1,none⟩,js az a0 a1,jn a0,jb (((a0:Nat):Int) != 0),jb (((a0:Nat):Int) != 0),jb (((a0:Nat):Int) != 0)]))))) w7))) else (N1 (bA s0 a b s1 c d (i64.wrap (s5+1)) (jg j 0::jg j 1::jg j 2::jp ⟨b1,0,none⟩::jq j 4 5 (ji s5::js s1 c d::jn c::jb (decide ((s5:Int)<(c:Nat)))::ji s5::ji (i64.wrap (s5+1))::js s1 c d::ji s5::jp ad::r.val::jp ⟨b1,0,none⟩::ji f::jb ((f:Int) != 0)::jb false::uq 3 (jb false::jb false::uq 3 (jb false::jp ⟨b1,0,none⟩::ji an::jb ((an:Int) == 0)::jb false::uq 9 (jb false::jb false::jp ⟨b1,0,none⟩::ji ay::jb ((ay:Int) != 0)::jb false::uq 4 [jb false,jb false])))))) w7))))))) else (W prog (sub (aA f123) [1,1,1]) (mb  (js s0 a b::js s1 c d::jg j 0::jg j 1::jg j 2::ji s5::jq j 3 6 (ji s5::js s1 c d::jn c::jb (decide ((s5:Int)<(c:Nat)))::jq j 13 44 []))) (retQ prog f123 R) w))):=by kernel_rfl
theorem pB  (j:LV):W prog (sub (aA f123) [1,1,1]) (mb  j) (retQ prog f123 R) w=(R (.bool true) w):=by kernel_rfl
theorem qb (p0:aU):fnW prog f150 [p0.val] R w=(∀ b1 w1,b1=w.heap.size→w1=w.alloc (.cells p0.cells.toArray 91)→∃ a,w1.cell? ⟨b1,0,none⟩=some (.int .i64 a)∧(bif ((a:Int) == 1) then (∃ N_,w1.cell? ⟨b1,3,none⟩=some (.int .i64 N_)∧R (.int .i64 N_) w1) else ((bif ((a:Int) == 2) then (R (.int .i64 0) w1) else (R (.int .i64 1) w1))))):=by kernel_rfl
end Go.Proofs.YtafopfaomkklpaaGreat
namespace Go.Proofs.YtafopfaomkklpaaGreat
open Go.Proofs.Tryz
open Go.Eng
abbrev TTk:TypeId:=85
def tkC (ga:Option Addr) (gn gc:Nat) (u:Int) (aa:Option Addr) (an ac:Nat) (bad:Bool):List Value:=[.slice ga gn gc,.int .i64 u,.slice aa an ac,.bool bad]
theorem Di {u:World} {a:Option Addr} {n cap:Nat} {l:List aU} (ho:Owns u TVb 9 a n cap (je l).flatten) {s:Option Addr} {m c:Nat} {l2:List aU} (hs:Rd u s (je l2).flatten) (hm:m=l2.length) (hn:n+m≤1000000) {K:Option Addr→Nat→Nat→World→Prop}
  (hk:∀ ap cap' w3,Owns w3 TVb 9 ap (n+m) cap' (je (l++l2)).flatten→Keep (isB a) u w3→(∀ k,isB ap k→isB a k∨u.heap.size≤k)→K ap (n+m) cap' w3) :
  ∃ (ap:Option Addr) (ap_len ap_cap:Nat),∃ w3,(Builtin.append_ #[27,27] 27 #[(.slice a n cap),(.slice s m c)]).run prog u=.ok (.slice ap ap_len ap_cap) w3∧K ap ap_len ap_cap w3:=by
 obtain ⟨inf,hi,hz,hsz,hby⟩:=nV (T:=TVb) (z:=.agg #[.int .i64 0,.int .i64 0,.int .i64 0,.int .i64 0,.int .u64 0,.int .u64 0,.slice none 0 0,.int .u64 0,.int .i64 0]) (n:=9) (m:=88) (by kernel_rfl)
 exact lR (cells:=aU.cells) aU.len aU.single Tryz.underlying27 hi hz (by rw [hsz];rfl) hsz (by omega) (by omega) ho hs hm hn hk
def retV (v:aU):Int:=if v.Kind=1 then v.N else if v.Kind=2 then 0 else 1
def fit1 (r:Int) (d:Done):Prop:=(d.code=0∧(d.words.length:Int)=r)∨((d.code=4∨d.code=5)∧d.words.length=0)
def fitM (rs:List Int) (ds:List Done):Prop:=rs.length=ds.length∧∀ (i:Nat) (r:Int) (d:Done),rs[i]?=some r→ds[i]?=some d→fit1 r d
theorem zz (w:World) (v:aU):Does 150 [v.val] w λx w'=>x=.int .i64 (retV v)∧New w w':=by
 refine does Tryz.func150 ?_
 rw [qb]
 rintro b1 w1 hb1 hw1
 obtain ⟨hz1,hn1⟩:=aR hb1 hw1
 have hz1:Blk w1 b1 v.cells TVb:=hz1
 clear hw1
 unfold retV
 refine ⟨_,hz1.cell (i:=0) rfl,bB (λe=>⟨_,hz1.cell (i:=3) rfl,by rw [if_pos e],hn1⟩) (λe=>bB (λe2=>⟨by rw [if_neg e,if_pos e2],hn1⟩) (λe2=>⟨by rw [if_neg e,if_neg e2],hn1⟩))⟩
def FitR (w:World) (rs:List Int) (ds:List Done) (x:Value) (w':World):Prop:=∃ b:Bool,x=.bool b∧(b=true↔fitM rs ds)∧New w w'
set_option maxHeartbeats 1000000 in
theorem EJ {w:World} {a:Option Addr} {n cap:Nat} {l:List aU} (hn:n=l.length) (hl:Rd w a (je l).flatten) {a2:Option Addr} {n2 cap2:Nat} {raw:List aV} {ds:List Done} (hn2:n2=raw.length) (hr:Rd w a2 (gI raw).flatten) (hd:Ds w raw ds) (hfew:raw.length≤1000000) :
  Does 123 [.slice a n cap,.slice a2 n2 cap2] w (FitR w (l.map retV) ds):=by
 subst hn hn2
 refine does Tryz.func123 ?_
 rw [sS]
 refine bQ (λe=>⟨false,rfl,?_,Keep.refl _ _⟩) (λe=>?_)
 ·refine ⟨λh=>(nomatch h),λh=>?_⟩
  have:=h.1
  rw [List.length_map,←hd.1] at this
  omega
 have hll:l.length=raw.length:=by omega
 refine aW mix (λm env u=>∃ (i:Nat) (jj:List Value),m=raw.length - i∧i≤raw.length∧env=bA a l.length cap a2 raw.length cap2 i jj∧New w u∧∀ (k:Nat) (r:Int) (d:Done),k<i→(l.map retV)[k]?=some r→ds[k]?=some d→fit1 r d) raw.length
  ⟨0,_,by omega,by omega,rfl,Keep.refl _ _,λk r d h=>by omega⟩ ?_
 rintro m env u ⟨i,jj,rfl,hi,rfl,hnu,hok⟩
 rw [nJ]
 refine aD (λhq=>?_) (λhq=>?_)
 ·have hlt:i<raw.length:=by omega
  have hg:raw[i]?=some raw[i]:=List.getElem?_eq_getElem hlt
  have hgl:l[i]?=some l[i]:=List.getElem?_eq_getElem (by omega)
  obtain ⟨x,hgd⟩:∃ x,ds[i]?=some x:=⟨_,List.getElem?_eq_getElem (by rw [←hd.1];exact hlt)⟩
  have hda:=hd.2 i _ _ hg hgd
  generalize raw[i]=d at hg hda
  generalize l[i]=v at hgl
  have hrv:(l.map retV)[i]?=some (retV v):=by rw [List.getElem?_map,hgl];rfl
  have no:¬ fit1 (retV v) x→∀ u',New w u'→FitR w (l.map retV) ds (.bool false) u':=λh u' hu=>⟨false,rfl,⟨λe=>(nomatch e),λe=>absurd (e.2 i _ _ hrv hgd) h⟩,hu⟩
  have go:fit1 (retV v) x→∀ u' jj',New w u'→∃ m,m<raw.length - i∧∃ (i':Nat) (jj:List Value),m=raw.length - i'∧i'≤raw.length∧bA a l.length cap a2 raw.length cap2 (IntKind.i64.wrap ((i:Int)+1)) jj'=bA a l.length cap a2 raw.length cap2 i' jj∧New w u'∧∀ (k:Nat) (r:Int) (d:Done),k<i'→(l.map retV)[k]?=some r→ds[k]?=some d→fit1 r d:=by
   intro h u' jj' hu
   refine ⟨raw.length - (i+1),by omega,i+1,jj',rfl,by omega,by rw [w64 (x:=(i:Int)+1) (by omega) (by omega)];rfl,hu,λk r d hk h1 h2=>?_⟩
   by_cases e:k=i
   ·subst e
    rw [hrv] at h1
    rw [hgd] at h2
    cases h1;cases h2
    exact h
   ·exact hok k r d (by omega) h1 h2
  refine gN (cells:=aV.cells) aV.len (by omega) (hr.new hnu) hg rfl rfl λb o hcc _=>aV.mk_ex d ⟨hcc,?_⟩
  refine mr (vs:=d.cells) rfl (aV.single _) λb1 w2 hb1 hz2 hn2=>?_
  have hz2:Blk w2 b1 d.cells 53:=hz2
  have hnw:=hnu.new hn2
  have hcode:=hda.code
  have hwl:=hda.len
  refine ⟨_,hz2.cell (i:=0) rfl,bQ (λh0=>?_) (λh0=>?_)⟩
  ·refine ⟨_,hz2.cell (i:=0) rfl,bQ (λh4=>?_) (λh4=>?_)⟩
   ·refine ⟨_,hz2.cell (i:=0) rfl,bQ (λh5=>?_) (λh5=>?_)⟩
    ·refine no (λe=>?_) _ hnw
     unfold fit1 at e
     omega
    ·rintro w3 hw3
     have hn3:New w2 w3:=by rw [hw3];exact aT _
     clear hw3
     have hz3:=New.blk hn3 hz2
     refine ⟨λy=>y=w3,rfl,_,λy hy=>by rw [hy];exact hz3.cell (i:=0) rfl,bB (λe=>absurd e h0) (λ_=>⟨_,λy hy=>by rw [hy];exact hz3.cell (i:=0) rfl,bQ (λ_=>⟨_,_,_,λy hy=>by rw [hy];exact hz3.cell (i:=1) rfl,bQ (λhne=>?_) (λheq=>?_)⟩) (λe=>absurd e h0)⟩)⟩
     ·refine no (λe=>?_) _ (hnw.new hn3)
      unfold fit1 at e
      omega
     ·refine go (.inr ⟨by omega,by omega⟩) _ _ (hnw.new hn3)
   ·rintro w3 hw3
    have hn3:New w2 w3:=by rw [hw3];exact aT _
    clear hw3
    have hz3:=New.blk hn3 hz2
    refine ⟨λy=>y=w3,rfl,_,λy hy=>by rw [hy];exact hz3.cell (i:=0) rfl,bB (λe=>absurd e h0) (λ_=>⟨_,λy hy=>by rw [hy];exact hz3.cell (i:=0) rfl,bQ (λ_=>⟨_,_,_,λy hy=>by rw [hy];exact hz3.cell (i:=1) rfl,bQ (λhne=>?_) (λheq=>?_)⟩) (λe=>absurd e h0)⟩)⟩
    ·refine no (λe=>?_) _ (hnw.new hn3)
     unfold fit1 at e
     omega
    ·refine go (.inr ⟨by omega,by omega⟩) _ _ (hnw.new hn3)
  ·rintro w3 hw3
   have hn3:New w2 w3:=by rw [hw3];exact aT _
   clear hw3
   have hz3:=New.blk hn3 hz2
   have hn03:=hnw.new hn3
   refine ⟨λy=>New w3 y,Keep.refl _ _,_,λy hy=>(New.blk hy hz3).cell (i:=0) rfl,bB (λ_=>?_) (λe=>absurd h0 e)⟩
   refine ⟨_,_,_,λy hy=>(New.blk hy hz3).cell (i:=1) rfl,?_⟩
   refine sR (cells:=aU.cells) aU.len (by omega) (S:=λy=>New w3 y) (λy hy=>hl.new (hn03.new hy)) (Keep.refl _ _) hgl rfl rfl ?_
   rintro b o hcc
   refine aU.mk_ex v ⟨λy hy=>eb (hcc y hy),?_⟩
   refine aC (zz w3 v) ?_
   rintro xv w4 ⟨rfl,hn4⟩
   refine ⟨_,rfl,hn4,bQ (λhne=>?_) (λheq=>⟨_,λy hy=>(New.blk hy hz3).cell (i:=0) rfl,bQ (λe=>absurd h0 e) (λ_=>?_)⟩)⟩
   ·refine no (λe=>?_) _ (hn03.new hn4)
    unfold fit1 at e
    omega
   ·exact go (.inl ⟨by omega,by omega⟩) _ _ (hn03.new hn4)
 ·rw [pB]
  refine ⟨true,rfl,⟨λ_=>⟨by rw [List.length_map,←hd.1];exact hll,λk r d h1 h2=>hok k r d ?_ h1 h2⟩,λ_=>rfl⟩,hnu⟩
  have:=cN h2
  have:=hd.1
  omega
structure Got (w:World) (ga:Option Addr) (gn:Nat) (xa:Option Addr) (xl xc:Nat) (raw:List aV) (ds:List Done):Prop where
 one:∃ b o,ga=some ⟨b,o,none⟩∧w.cell? ⟨b,o,none⟩=some (.slice xa xl xc)
 pos:0<gn
 len:xl=raw.length
 rd:Rd w xa (gI raw).flatten
 ds:Ds w raw ds
 few:raw.length≤1000000
theorem Got.new {w u:World} {ga:Option Addr} {gn:Nat} {xa:Option Addr} {xl xc:Nat} {raw:List aV} {ds:List Done} (h:Got w ga gn xa xl xc raw ds) (hn:New w u):Got u ga gn xa xl xc raw ds:=by
 obtain ⟨b,o,h1,h2⟩:=h.one
 exact ⟨⟨b,o,h1,nT hn h2 id⟩,h.pos,h.len,h.rd.new hn,h.ds.new hn,h.few⟩
def Fm (w:World) (b:Nat) (ga:Option Addr) (gn gc:Nat) (a:Option Addr) (n cap:Nat) (rs:List Int) (xa:Option Addr) (xl xc:Nat) (ds:List Done) (x:Value) (w':World):Prop:=
 Keep (λk=>k=b) w w'∧
  ((gn=0∧x=.tuple #[.slice none 0 0,.bool false]∧Blk w' b (tkC ga gn gc 0 a n cap false) TTk)∨
   (gn≠0∧fitM rs ds∧x=.tuple #[.slice xa xl xc,.bool true]∧Blk w' b (tkC ga gn gc 1 none 0 0 false) TTk)∨
   (gn≠0∧¬ fitM rs ds∧x=.tuple #[.slice none 0 0,.bool false]∧Blk w' b (tkC ga gn gc 1 none 0 0 true) TTk))
theorem EK {w0 w:World} {b:Nat} (h0w:New w0 w) (hb:w0.heap.size≤b) {ga:Option Addr} {gn gc:Nat} (hz:Blk w b (tkC ga gn gc 0 none 0 0 false) TTk) {a:Option Addr} {n cap:Nat} {l:List aU} (hn:n=l.length) (hl:Rd w a (je l).flatten) (hab:¬ isB a b) (h0:0<n) {xa:Option Addr} {xl xc:Nat} {raw:List aV} {ds:List Done} (hg:gn≠0→Got w0 ga gn xa xl xc raw ds) :
  Does 84 [.pointer (some ⟨b,0,none⟩),.slice a n cap] w (Fm w b ga gn gc a n cap (l.map retV) xa xl xc ds):=by
 refine does Tryz.func84 ?_
 rw [jl]
 refine bB (λe=>by omega) (λ_=>?_)
 rintro w1 hw1
 have hn1:New w w1:=by rw [hw1];exact aT _
 clear hw1
 have hz1:=New.blk hn1 hz
 refine ⟨λy=>y=w1,rfl,_,λy hy=>by rw [hy];exact hz1.cell (i:=1) rfl,_,_,_,λy hy=>by rw [hy];exact hz1.cell (i:=0) rfl,bB (λe=>?_) (λe=>?_)⟩
 ·refine ⟨⟨_,hz1.cell (i:=2) rfl⟩,hz1.frozen,?_⟩
  rintro w2 hw2
  have hk2:Keep (λk=>k=b) w1 w2:=by rw [hw2];exact aZ _ _ _ _
  have hz2:=hz1.setCell (i:=2) (.slice a n cap)
  have hw2':w2=w1.setCell ⟨b,2,none⟩ (.slice a n cap):=hw2
  rw [←hw2'] at hz2
  exact ⟨(Keep.of_new hn1).trans hk2 λ_ _ e=>e,.inl ⟨by omega,rfl,hz2⟩⟩
 ·have hgn:gn≠0:=by omega
  have hg:=hg hgn
  rintro w3 hw3
  have hn3:New w1 w3:=by rw [hw3];exact aT _
  clear hw3
  have hz3:=New.blk hn3 hz1
  have hn03:=hn1.new hn3
  obtain ⟨gb,go,rfl,hgc⟩:=hg.one
  have hgp:=hg.pos
  refine ⟨λy=>y=w3,rfl,_,_,_,λy hy=>by rw [hy];exact hz3.cell (i:=0) rfl,_,λy hy=>by rw [hy];exact hz3.cell (i:=1) rfl,bI (by omega) (by omega) ⟨xa,xl,xc,λy hy=>by rw [hy];exact nT (h0w.new hn03) hgc id,_,hz3.cell (i:=1) rfl,⟨_,hz3.cell (i:=1) rfl⟩,hz3.frozen,?_⟩⟩
  rintro w4 hw4
  have hk4:Keep (λk=>k=b) w3 w4:=by rw [hw4];exact aZ _ _ _ _
  have hz4:=hz3.setCell (i:=1) (.int .i64 1)
  have hw4':w4=w3.setCell ⟨b,1,none⟩ (.int .i64 1):=hw4
  rw [←hw4'] at hz4
  have hk04:=(Keep.of_new (M:=λk=>k=b) hn03).trans hk4 λ_ _ e=>e
  clear hw4 hw4'
  have hn4:New w0 w4:=h0w.trans hk04 λk hlt e=>by omega
  have hg4:=hg.new hn4
  have hl4:=jd hk04 hl λk _ hk e=>hab (e▸hk)
  refine aC (EJ hn hl4 hg4.len hg4.rd hg4.ds hg4.few) ?_
  rintro x w5 ⟨fb,rfl,hfit,hn5⟩
  have hz5:=New.blk hn5 hz4
  have hk05:=hk04.new hn5
  refine ⟨_,rfl,?_⟩
  cases fb
  ·refine cM rfl ⟨⟨_,hz5.cell (i:=3) rfl⟩,hz5.frozen,?_⟩
   rintro w6 hw6
   have hk6:Keep (λk=>k=b) w5 w6:=by rw [hw6];exact aZ _ _ _ _
   have hz6:=hz5.setCell (i:=3) (.bool true)
   have hw6':w6=w5.setCell ⟨b,3,none⟩ (.bool true):=hw6
   rw [←hw6'] at hz6
   exact ⟨hk05.trans hk6 λ_ _ e=>e,.inr (.inr ⟨hgn,λe=>(by have:=hfit.2 e;cases this),rfl,hz6⟩)⟩
  ·exact eE rfl ⟨hk05,.inr (.inl ⟨hgn,hfit.1 rfl,rfl,hz5⟩)⟩
theorem vu {w:World} {b:Nat} {ga:Option Addr} {gn gc:Nat} {u:Int} {aa:Option Addr} {an ac:Nat} {bad:Bool} (hz:Blk w b (tkC ga gn gc u aa an ac bad) TTk) (ok:Bool) :
  Does 32 [.pointer (some ⟨b,0,none⟩),.bool ok] w λx w'=>x=.tuple #[.bool (!ok && !bad),.bool ((!ok && !bad) || (!bad && decide (u=gn)))]∧New w w':=by
 refine does Tryz.func32 ?_
 rw [ol]
 have hbq:(u == (gn:Int))=decide (u=gn):=by
  by_cases e:u=gn
  ·rw [decide_eq_true e];exact beq_iff_eq.2 e
  ·rw [decide_eq_false e];exact beq_eq_false_iff_ne.2 e
 have reg:∀ {x:Bool},(x=true→bad=true)→∀ w1,w1=w.drew→∃ Sx:World→Prop,Sx w1∧∃ (bad1:Bool),(∀ u,Sx u→u.cell? ⟨b,3,none⟩=some (.bool bad1))∧(bif (!bad1) then (∃ (used:Int),(∀ u,Sx u→u.cell? ⟨b,1,none⟩=some (.int .i64 used))∧∃ (got:Option Addr) (got_len got_cap:Nat),(∀ u,Sx u→u.cell? ⟨b,0,none⟩=some (.slice got got_len got_cap))∧(Value.tuple #[(.bool false),(.bool (used == (got_len:Int)))]=.tuple #[.bool (x && !bad),.bool ((x && !bad) || (!bad && decide (u=gn)))]∧New w w1)) else (Value.tuple #[(.bool false),(.bool false)]=.tuple #[.bool (x && !bad),.bool ((x && !bad) || (!bad && decide (u=gn)))]∧New w w1)):=by
  rintro x hx w1 hw1
  have hn1:New w w1:=by rw [hw1];exact aT _
  have hz1:=New.blk hn1 hz
  refine ⟨λy=>y=w1,rfl,bad,λy hy=>by rw [hy];exact hz1.cell (i:=3) rfl,?_⟩
  cases bad
  ·cases x
   ·exact cM rfl ⟨u,λy hy=>by rw [hy];exact hz1.cell (i:=1) rfl,ga,gn,gc,λy hy=>by rw [hy];exact hz1.cell (i:=0) rfl,by rw [hbq];rfl,hn1⟩
   ·exact absurd (hx rfl) (by simp)
  ·refine eE rfl ⟨by cases x<;>rfl,hn1⟩
 cases ok
 ·refine cM rfl ⟨bad,hz.cell (i:=3) rfl,?_⟩
  cases bad
  ·exact cM rfl ⟨rfl,Keep.refl _ _⟩
  ·exact eE rfl (reg (x:=true) λ_=>rfl)
 ·exact eE rfl (reg (x:=false) λe=>(nomatch e))
end Go.Proofs.YtafopfaomkklpaaGreat
namespace Go.Proofs.YtafopfaomkklpaaGreat
open Go.Eng
end Go.Proofs.YtafopfaomkklpaaGreat
