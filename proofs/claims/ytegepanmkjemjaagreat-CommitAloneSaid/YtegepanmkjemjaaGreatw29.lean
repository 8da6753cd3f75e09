import Derived.Test.YtegepanmkjemjaaGreatProg
import Derived.Test.YtegepanmkjemjaaGreatw03
import Derived.Test.YtegepanmkjemjaaGreatw19
import Derived.Test.YtegepanmkjemjaaGreatw17
set_option linter.unusedVariables false
namespace Go.Proofs.YtegepanmkjemjaaGreat
open Go.Proofs.Tryz
open Go.Eng IntKind
variable (w:World) (R:Value→World→Prop)
def eS (s0:Addr) (s1:Option Addr) (a b:Nat) (s2 s7:Int) (j:LV):LV:=[(.pointer (some s0)),(.slice s1 a b),(.int .i64 s2),jg j 0,jg j 1,jg j 2,jg j 3,(.int .i64 s7),jg j 4,jg j 5,jg j 6,jg j 7,jg j 8,jg j 9,jg j 10,jg j 11,jg j 12,jg j 13,jg j 14,jg j 15,jg j 16,jg j 17,jg j 18,jg j 19,jg j 20,jg j 21,jg j 22,jg j 23,jg j 24,jg j 25,jg j 26,jg j 27,jg j 28,jg j 29,jg j 30,jg j 31,jg j 32,jg j 33,jg j 34,jg j 35,jg j 36,jg j 37,jg j 38,jg j 39,jg j 40,jg j 41,jg j 42,jg j 43,jg j 44,jg j 45,jg j 46,jg j 47,jg j 48,jg j 49,jg j 50,jg j 51,jg j 52,jg j 53,jg j 54,jg j 55,jg j 56,jg j 57,jg j 58,jg j 59,jg j 60,jg j 61,jg j 62,jg j 63,jg j 64,jg j 65,jg j 66,jg j 67,jg j 68,jg j 69,jg j 70,jg j 71,jg j 72,jg j 73,jg j 74,jg j 75,jg j 76,jg j 77,jg j 78,jg j 79,jg j 80,jg j 81,jg j 82,jg j 83,jg j 84,jg j 85,jg j 86,jg j 87,jg j 88,jg j 89,jg j 90,jg j 91,jg j 92,jg j 93,jg j 94,jg j 95,jg j 96,jg j 97,jg j 98,jg j 99,jg j 100,jg j 101,jg j 102,jg j 103,jg j 104,jg j 105,jg j 106,jg j 107,jg j 108,jg j 109,jg j 110,jg j 111,jg j 112,jg j 113,jg j 114,jg j 115,jg j 116,jg j 117,jg j 118,jg j 119,jg j 120,jg j 121,jg j 122,jg j 123,jg j 124,jg j 125,jg j 126,jg j 127,jg j 128,jg j 129,jg j 130,jg j 131,jg j 132,jg j 133,jg j 134,jg j 135,jg j 136,jg j 137,jg j 138,jg j 139,jg j 140]
def kr  (j:LV):LV:=jq j 0 145 []
def eT (s0:Addr) (s1:Option Addr) (a b:Nat) (s2 s7 s8:Int) (j:LV):LV:=.pointer (some s0)::.slice s1 a b::.int .i64 s2::jq j 0 4 (.int .i64 s7::.int .i64 s8::jq j 4 136 [])
def kt (a:Addr) (s1:Option Addr) (b c:Nat) (s2 s7:Int) (j:LV):LV:=.pointer (some a)::.slice s1 b c::.int .i64 s2::jq j 0 4 (.int .i64 s7::jq j 4 137 [])
def eU (s0:Addr) (s1:Option Addr) (a b:Nat) (s2 s7 c:Int) (j:LV):LV:=.pointer (some s0)::.slice s1 a b::.int .i64 s2::jq j 0 4 (.int .i64 s7::jq j 4 5 (.int .i64 c::jq j 9 131 []))
def ku (a:Addr) (s1:Option Addr) (b c:Nat) (s2 s7:Int) (j:LV):LV:=.pointer (some a)::.slice s1 b c::.int .i64 s2::jq j 0 4 (.int .i64 s7::jq j 4 137 [])
theorem qR (p0:Nat) (p1:Option Addr) (a b:Nat) (p2:Int):fnW prog f17 [.pointer (some ⟨p0,0,none⟩),.slice p1 a b,.int .i64 p2] R w=(bS prog (.loop (sub (aD f17) [1,0,1,0,0])) (eS ⟨p0,0,none⟩ p1 a b p2 0 (uq 3 (jb false::uq 137 []))) (aI 0 (nx f17 [1,1] R)) w):=by kernel_rfl
theorem lp (s0:Addr) (s1:Option Addr) (a b:Nat) (s2 s7:Int) (j:LV) (N1:LV→World→Prop):W prog (sub (aD f17) [1,0,1,0,0]) (eS s0 s1 a b s2 s7 j) (seqQ N1 (aI 0 (nx f17 [1,1] R))) w=((bif (decide ((s7:Int)<(a:Nat))) then (bS prog (.loop (sub (aD f17) [1,0,1,0,0,1,0,0,0,1,0,0])) (eT s0 s1 a b s2 s7 96 (jq j 0 4 (jq j 5 13 (ji s7::js s1 a b::jn a::jb (decide ((s7:Int)<(a:Nat)))::jq j 22 119 [])))) (aI 2 (seqQ (λenv w=>W prog (sub (aD f17) [1,0,1,0,0,1,0,0,1]) env (aI 1 (seqQ (λenv w=>W prog (sub (aD f17) [1,0,1,0,0,1,1]) env (seqQ N1 (aI 0 (nx f17 [1,1] R))) w) (seqQ N1 (aI 0 (nx f17 [1,1] R))))) w) (aI 1 (seqQ (λenv w=>W prog (sub (aD f17) [1,0,1,0,0,1,1]) env (seqQ N1 (aI 0 (nx f17 [1,1] R))) w) (seqQ N1 (aI 0 (nx f17 [1,1] R))))))) w) else (W prog (sub (aD f17) [1,1]) (kr  (jp s0::js s1 a b::ji s2::jq j 0 4 (ji s7::jq j 4 14 (ji s7::js s1 a b::jn a::jb (decide ((s7:Int)<(a:Nat)))::jq j 22 119 [])))) (retQ prog f17 R) w))):=by kernel_rfl
theorem mX  (j:LV):W prog (sub (aD f17) [1,1]) (kr  j) (retQ prog f17 R) w=(R (.bool true) w):=by kernel_rfl
set_option maxHeartbeats 4000000 in
theorem lq (s0:Addr) (s1:Option Addr) (a b:Nat) (s2 s7 s8:Int) (j:LV) (N1:LV→World→Prop) (N2:LV→World→Prop):W prog (sub (aD f17) [1,0,1,0,0,1,0,0,0,1,0,0]) (eT s0 s1 a b s2 s7 s8 j) (seqQ N2 (aI 2 (seqQ (λenv w=>W prog (sub (aD f17) [1,0,1,0,0,1,0,0,1]) env (aI 1 (seqQ (λenv w=>W prog (sub (aD f17) [1,0,1,0,0,1,1]) env (seqQ N1 (aI 0 (nx f17 [1,1] R))) w) (seqQ N1 (aI 0 (nx f17 [1,1] R))))) w) (aI 1 (seqQ (λenv w=>W prog (sub (aD f17) [1,0,1,0,0,1,1]) env (seqQ N1 (aI 0 (nx f17 [1,1] R))) w) (seqQ N1 (aI 0 (nx f17 [1,1] R)))))))) w=((bif (decide ((s8:Int)<s2)) then (idxS s1 a 0 3 λad=>∃ c,w.cell? ad=some (.int .i64 c)∧Calls prog 18 #[.pointer (some s0),.int .i64 c,.int .i64 s8] w λe w1=>aB.ex λi=>∃ (d:Bool),e=.returned (.tuple #[i.val,.bool d])∧∀ b1 w2,b1=w1.heap.size→w2=w1.alloc (.cells #[.int .i64 0,.int .u64 0,.int .u64 0,.int .u64 0,.int .u64 0,.int .u64 0,.int .u64 0,.int .u64 0,.int .u64 0] 55)→wrAt w2 ⟨b1,0,none⟩ 0 i.cells∧∀ w3,w3=puts w2 ⟨b1,0,none⟩ 0 i.cells→idxS s1 a s7 3 λk=>∃ f,w3.cell? k=some (.int .i64 f)∧Calls prog 18 #[.pointer (some s0),.int .i64 f,.int .i64 s8] w3 λe w4=>aB.ex λl=>∃ (g:Bool),e=.returned (.tuple #[l.val,.bool g])∧∀ b2 w5,b2=w4.heap.size→w5=w4.alloc (.cells #[.int .i64 0,.int .u64 0,.int .u64 0,.int .u64 0,.int .u64 0,.int .u64 0,.int .u64 0,.int .u64 0,.int .u64 0] 55)→wrAt w5 ⟨b2,0,none⟩ 0 l.cells∧∀ w6,w6=puts w5 ⟨b2,0,none⟩ 0 l.cells→(bif (!d) then (R (.bool false) w6) else ((bif (!g) then (R (.bool false) w6) else (aB.ex λr=>aG w6 ⟨b1,0,none⟩ 0 r.cells∧aB.ex λr1=>aG w6 ⟨b2,0,none⟩ 0 r1.cells∧Af prog 55 r.val r1.val λ(eq:Bool)=>(bif (!eq) then (R (.bool false) w6) else (∃ h,w6.cell? ⟨b1,1,none⟩=some (.int .u64 h)∧(bif (((band .u64 h 255):Int) != 0) then (R (.bool false) w6) else (N2 (eT s0 s1 a b s2 s7 (i64.wrap (s8+1)) (jq j 0 4 (jp ⟨b1,0,none⟩::jb d::jp ⟨b2,0,none⟩::jb g::jq j 8 15 (ji s8::ji s2::jb (decide ((s8:Int)<s2))::ji s8::ji (i64.wrap (s8+1))::.tuple #[i.val,.bool d]::jp s0::js s1 a b::jp ad::jp ad::ji c::ji s8::.tuple #[i.val,.bool d]::i.val::jb d::.tuple #[l.val,.bool g]::jp s0::js s1 a b::ji s7::jp k::jp k::ji f::ji s8::.tuple #[l.val,.bool g]::l.val::jb g::jb d::jb (!d)::jb false::jb g::jb (!g)::jb (!g)::jb false::r.val::r1.val::jb (!eq)::jb (!eq)::jb false::jp ⟨b1,1,none⟩::ju h::ju (band .u64 h 255)::jb (((band .u64 h 255):Int) != 0)::jb (((band .u64 h 255):Int) != 0)::jq j 66 74 [])))) w6))))))))) else (W prog (sub (aD f17) [1,0,1,0,0,1,0,0,1]) (kt s0 s1 a b s2 s7 (jq j 0 4 (ji s8::jq j 4 19 (ji s8::ji s2::jb (decide ((s8:Int)<s2))::jq j 26 114 [])))) (aI 1 (seqQ (λenv w=>W prog (sub (aD f17) [1,0,1,0,0,1,1]) env (seqQ N1 (aI 0 (nx f17 [1,1] R))) w) (seqQ N1 (aI 0 (nx f17 [1,1] R))))) w))):=by kernel_rfl
theorem mY (a:Addr) (s1:Option Addr) (b c:Nat) (s2 s7:Int) (j:LV) (N1:LV→World→Prop):W prog (sub (aD f17) [1,0,1,0,0,1,0,0,1]) (kt a s1 b c s2 s7 j) (aI 1 (seqQ (λenv w=>W prog (sub (aD f17) [1,0,1,0,0,1,1]) env (seqQ N1 (aI 0 (nx f17 [1,1] R))) w) (seqQ N1 (aI 0 (nx f17 [1,1] R))))) w=(bS prog (.loop (sub (aD f17) [1,0,1,0,0,1,0,0,1,1,0,0])) (eU a s1 b c s2 s7 0 (jq j 0 9 (jq j 10 131 []))) (aI 4 (aI 1 (seqQ (λenv w=>W prog (sub (aD f17) [1,0,1,0,0,1,1]) env (seqQ N1 (aI 0 (nx f17 [1,1] R))) w) (seqQ N1 (aI 0 (nx f17 [1,1] R)))))) w):=by kernel_rfl
set_option maxHeartbeats 4000000 in
theorem lr (s0:Addr) (s1:Option Addr) (a b:Nat) (s2 s7 c:Int) (j:LV) (N1:LV→World→Prop) (N3:LV→World→Prop):W prog (sub (aD f17) [1,0,1,0,0,1,0,0,1,1,0,0]) (eU s0 s1 a b s2 s7 c j) (seqQ N3 (aI 4 (aI 1 (seqQ (λenv w=>W prog (sub (aD f17) [1,0,1,0,0,1,1]) env (seqQ N1 (aI 0 (nx f17 [1,1] R))) w) (seqQ N1 (aI 0 (nx f17 [1,1] R))))))) w=((bif (decide ((c:Int)<6)) then (∀ w1,w1=w.drew→∃ Sx:World→Prop,Sx w1∧idxS s1 a 0 3 λad=>∃ d,(∀ u,Sx u→u.cell? ad=some (.int .i64 d))∧Calls prog 20 #[.int .i64 c] w1 λe w2=>∃ (f:Int),e=.returned (.int .i64 f)∧Sx w2∧Calls prog 19 #[.pointer (some s0),.int .i64 d,.int .i64 f] w2 λe w3=>∃ (g:Int) (h:Bool),e=.returned (.tuple #[.int .u64 g,.bool h])∧∀ w4,w4=w3.drew→∃ Sx1:World→Prop,Sx1 w4∧idxS s1 a s7 3 λx=>∃ i,(∀ u,Sx1 u→u.cell? x=some (.int .i64 i))∧Calls prog 20 #[.int .i64 c] w4 λe w5=>∃ (k:Int),e=.returned (.int .i64 k)∧Sx1 w5∧Calls prog 19 #[.pointer (some s0),.int .i64 i,.int .i64 k] w5 λe w6=>∃ (l:Int) (m:Bool),e=.returned (.tuple #[.int .u64 l,.bool m])∧∀ w7,w7=w6.drew→∃ Sx2:World→Prop,Sx2 w7∧idxS s1 a 0 3 λy=>∃ n,(∀ u,Sx2 u→u.cell? y=some (.int .i64 n))∧Calls prog 39 #[.int .i64 c] w7 λe w8=>∃ (o:Int),e=.returned (.int .i64 o)∧Sx2 w8∧Calls prog 19 #[.pointer (some s0),.int .i64 n,.int .i64 o] w8 λe w9=>∃ (p:Int) (q:Bool),e=.returned (.tuple #[.int .u64 p,.bool q])∧∀ z,z=w9.drew→∃ Sx3:World→Prop,Sx3 z∧idxS s1 a s7 3 λaa=>∃ r,(∀ u,Sx3 u→u.cell? aa=some (.int .i64 r))∧Calls prog 39 #[.int .i64 c] z λe ab=>∃ (s:Int),e=.returned (.int .i64 s)∧Sx3 ab∧Calls prog 19 #[.pointer (some s0),.int .i64 r,.int .i64 s] ab λe ac=>∃ (t:Int) (v:Bool),e=.returned (.tuple #[.int .u64 t,.bool v])∧(bif (!h) then (R (.bool false) ac) else ((bif (!m) then (R (.bool false) ac) else ((bif (!q) then (R (.bool false) ac) else ((bif (!v) then (R (.bool false) ac) else ((bif ((g:Int) != l) then (R (.bool false) ac) else ((bif ((p:Int) != t) then (R (.bool false) ac) else (N3 (eU s0 s1 a b s2 s7 (i64.wrap (c+1)) (jq j 0 9 (ju g::jb h::ju l::jb m::ju p::jb q::ju t::jb v::jq j 17 49 [ji c,jb (decide ((c:Int)<6)),ji c,ji (i64.wrap (c+1)),.tuple #[.int .u64 g,.bool h],jp s0,js s1 a b,jp ad,jp ad,ji d,ji c,ji f,.tuple #[.int .u64 g,.bool h],ju g,jb h,.tuple #[.int .u64 l,.bool m],jp s0,js s1 a b,ji s7,jp x,jp x,ji i,ji c,ji k,.tuple #[.int .u64 l,.bool m],ju l,jb m,.tuple #[.int .u64 p,.bool q],jp s0,js s1 a b,jp y,jp y,ji n,ji c,ji o,.tuple #[.int .u64 p,.bool q],ju p,jb q,.tuple #[.int .u64 t,.bool v],jp s0,js s1 a b,ji s7,jp aa,jp aa,ji r,ji c,ji s,.tuple #[.int .u64 t,.bool v],ju t,jb v,jb h,jb (!h),jb false,jb m,jb (!m),jb (!m),jb false,jb q,jb (!q),jb (!q),jb false,jb v,jb (!v),jb (!v),jb false,ju g,ju l,jb ((g:Int) != l),jb ((g:Int) != l),jb false,ju p,ju t,jb ((p:Int) != t),jb ((p:Int) != t)]))) ac))))))))))))) else (W prog (sub (aD f17) [1,0,1,0,0,1,1]) (ku s0 s1 a b s2 s7 (jq j 0 9 (ji c::jq j 9 57 (ji c::jb (decide ((c:Int)<6))::jq j 68 72 [])))) (seqQ N1 (aI 0 (nx f17 [1,1] R))) w))):=by kernel_rfl
theorem mZ (a:Addr) (s1:Option Addr) (b c:Nat) (s2 s7:Int) (j:LV) (N1:LV→World→Prop):W prog (sub (aD f17) [1,0,1,0,0,1,1]) (ku a s1 b c s2 s7 j) (seqQ N1 (aI 0 (nx f17 [1,1] R))) w=(N1 (eS a s1 b c s2 (i64.wrap (s7+1)) (jq j 0 22 (ji s7::ji (i64.wrap (s7+1))::jq j 24 117 []))) w):=by kernel_rfl
def fF (s6:Addr) (s9:Option Addr) (a b:Nat) (c:Addr) (d:Int) (j:LV):LV:=jq j 0 6 (.pointer (some s6)::jq j 6 2 (.slice s9 a b::jq j 8 1 (.pointer (some c)::.int .i64 d::jq j 9 39 [])))
def kX (a b:Addr) (j:LV):LV:=jq j 0 6 (.pointer (some a)::jq j 6 4 (.pointer (some b)::jq j 10 40 []))
theorem rC (p0:Nat) (p1 p2:Int):fnW prog f18 [.pointer (some ⟨p0,0,none⟩),.int .i64 p1,.int .i64 p2] R w=(∀ b1 w1,b1=w.heap.size→w1=w.alloc (.cells #[.int .i64 0,.int .u64 0,.int .u64 0,.int .u64 0,.int .u64 0,.int .u64 0,.int .u64 0,.int .u64 0,.int .u64 0] 55)→Calls prog 25 #[.pointer (some ⟨p0,0,none⟩),.int .i64 p1] w1 λe w2=>∃ (a:Option Addr),e=.returned (.pointer a)∧(bif (Option.isNone a) then (wrAt w2 ⟨b1,0,none⟩ 0 [.int .i64 0,.int .u64 0,.int .u64 0,.int .u64 0,.int .u64 0,.int .u64 0,.int .u64 0,.int .u64 0,.int .u64 0]∧∀ w3,w3=puts w2 ⟨b1,0,none⟩ 0 [.int .i64 0,.int .u64 0,.int .u64 0,.int .u64 0,.int .u64 0,.int .u64 0,.int .u64 0,.int .u64 0,.int .u64 0]→aB.ex λh=>aG w3 ⟨b1,0,none⟩ 0 h.cells∧w3=w3∧R (.tuple #[h.val,.bool false]) w3) else (Calls prog 41 #[.int .i64 p2] w2 λe w4=>∃ (b:Int),e=.returned (.int .i64 b)∧Calls prog 40 #[.pointer a,.int .i64 b,.int .i64 8] w4 λe w5=>∃ (c:Option Addr) (d f:Nat) (g:Int),e=.returned (.tuple #[.slice c d f,.int .i64 g])∧(bif ((g:Int) != 0) then (wrAt w5 ⟨b1,0,none⟩ 0 [.int .i64 0,.int .u64 0,.int .u64 0,.int .u64 0,.int .u64 0,.int .u64 0,.int .u64 0,.int .u64 0,.int .u64 0]∧∀ w6,w6=puts w5 ⟨b1,0,none⟩ 0 [.int .i64 0,.int .u64 0,.int .u64 0,.int .u64 0,.int .u64 0,.int .u64 0,.int .u64 0,.int .u64 0,.int .u64 0]→aB.ex λi=>aG w6 ⟨b1,0,none⟩ 0 i.cells∧w6=w6∧R (.tuple #[i.val,.bool false]) w6) else ((bif (((d:Nat):Int) != 8) then (wrAt w5 ⟨b1,0,none⟩ 0 [.int .i64 0,.int .u64 0,.int .u64 0,.int .u64 0,.int .u64 0,.int .u64 0,.int .u64 0,.int .u64 0,.int .u64 0]∧∀ w7,w7=puts w5 ⟨b1,0,none⟩ 0 [.int .i64 0,.int .u64 0,.int .u64 0,.int .u64 0,.int .u64 0,.int .u64 0,.int .u64 0,.int .u64 0,.int .u64 0]→aB.ex λk=>aG w7 ⟨b1,0,none⟩ 0 k.cells∧w7=w7∧R (.tuple #[k.val,.bool false]) w7) else (idxS c d 0 1 λad=>∃ x,w5.cell? ad=some (.int .u64 x)∧∀ b2 w8,b2=w5.heap.size→w8=w5.alloc (.cells #[.int .i64 0,.int .u64 0,.int .u64 0,.int .u64 0,.int .u64 0,.int .u64 0,.int .u64 0,.int .u64 0,.int .u64 0] 55)→wrAt w8 ⟨b2,0,none⟩ 0 [.int .i64 p2,.int .u64 x,.int .u64 0,.int .u64 0,.int .u64 0,.int .u64 0,.int .u64 0,.int .u64 0,.int .u64 0]∧∀ w9,w9=puts w8 ⟨b2,0,none⟩ 0 [.int .i64 p2,.int .u64 x,.int .u64 0,.int .u64 0,.int .u64 0,.int .u64 0,.int .u64 0,.int .u64 0,.int .u64 0]→bS prog (.loop (sub (aD f18) [1,1,1,1,1,1,0,1,0,0])) (fF ⟨b1,0,none⟩ c d f ⟨b2,0,none⟩ 0 (jp ⟨p0,0,none⟩::ji p1::ji p2::uq 3 (jb false::.pointer a::ji g::jp ⟨p0,0,none⟩::ji p1::.pointer a::.pointer a::jb (Option.isNone a)::undef::.tuple #[.slice c d f,.int .i64 g]::.pointer a::ji p2::ji b::.tuple #[.slice c d f,.int .i64 g]::js c d f::ji g::ji g::jb ((g:Int) != 0)::jb false::js c d f::jn d::jb (((d:Nat):Int) != 8)::jb (((d:Nat):Int) != 8)::undef::ji p2::js c d f::jp ad::ju x::.agg #[.int .i64 p2,.int .u64 x,.int .u64 0,.int .u64 0,.int .u64 0,.int .u64 0,.int .u64 0,.int .u64 0,.int .u64 0]::uq 13 []))) (aI 0 (nx f18 [1,1,1,1,1,1,1] R)) w9))))))):=by kernel_rfl
theorem lQ (s6:Addr) (s9:Option Addr) (a b:Nat) (c:Addr) (d:Int) (j:LV) (N1:LV→World→Prop):W prog (sub (aD f18) [1,1,1,1,1,1,0,1,0,0]) (fF s6 s9 a b c d j) (seqQ N1 (aI 0 (nx f18 [1,1,1,1,1,1,1] R))) w=((bif (decide ((d:Int)<7)) then (idxS s9 a (i64.wrap (1+d)) 1 λad=>∃ x,w.cell? ad=some (.int .u64 x)∧idxA ⟨c.block,c.off+2,none⟩ 7 d 1 λf=>(∃ u,w.cell? f=some u)∧w.frozen? f=false∧∀ w1,w1=w.setCell f (.int .u64 x)→N1 (fF s6 s9 a b c (i64.wrap (d+1)) (jq j 0 35 [ji d,jb (decide ((d:Int)<7)),ji d,ji (i64.wrap (d+1)),ji d,js s9 a b,ji d,ji (i64.wrap (1+d)),jp ad,ju x,jf c 2,jp f,jg j 47])) w1) else (W prog (sub (aD f18) [1,1,1,1,1,1,1]) (kX s6 c (jq j 0 8 (js s9 a b::jg j 8::ji d::jq j 9 26 (ji d::jb (decide ((d:Int)<7))::jq j 37 11 [])))) (retQ prog f18 R) w))):=by kernel_rfl
theorem nz (a b:Addr) (j:LV):W prog (sub (aD f18) [1,1,1,1,1,1,1]) (kX a b j) (retQ prog f18 R) w=(aB.ex λr=>aG w b 0 r.cells∧wrAt w a 0 r.cells∧∀ w1,w1=puts w a 0 r.cells→aB.ex λc=>aG w1 a 0 c.cells∧w1=w1∧R (.tuple #[c.val,.bool true]) w1):=by kernel_rfl
theorem pS (p0:Int):fnW prog f20 [.int .i64 p0] R w=(Calls prog 42 #[.int .i64 p0] w λe w1=>∃ a,e=.returned (.bool a)∧(bif (!a) then (R (.int .i64 (-1)) w1) else (R (.int .i64 (i64.wrap (32+p0))) w1))):=by kernel_rfl
theorem qS (p0:Int):fnW prog f39 [.int .i64 p0] R w=(Calls prog 42 #[.int .i64 p0] w λe w1=>∃ a,e=.returned (.bool a)∧(bif (!a) then (R (.int .i64 (-1)) w1) else (R (.int .i64 (i64.wrap (24+p0))) w1))):=by kernel_rfl
theorem pj (p0:Int):fnW prog f41 [.int .i64 p0] R w=((bif (decide ((p0:Int)<96)) then (R (.int .i64 (-1)) w) else ((bif (decide ((p0:Int)≥256)) then (R (.int .i64 (-1)) w) else (R (.int .i64 (i64.wrap (p0 * 8))) w))))):=by kernel_rfl
end Go.Proofs.YtegepanmkjemjaaGreat
namespace Go.Proofs.YtegepanmkjemjaaGreat
open Go.Eng
theorem De (w:World) {l:Int} (h1:96≤l) (h2:l<256):Does 41 [.int .i64 l] w λv w'=>v=.int .i64 (l * 8)∧w'=w:=by
 refine does Tryz.func41 ?_
 rw [pj]
 refine cU (by simp;omega) (cU (by simp;omega) ⟨?_,rfl⟩)
 rw [w64 (by omega) (by omega)]
def aP.page (n:aP) (l:Nat):aB:=⟨l,n.get (l * 8),n.get (l * 8+1),n.get (l * 8+2),n.get (l * 8+3),n.get (l * 8+4),n.get (l * 8+5),n.get (l * 8+6),n.get (l * 8+7)⟩
theorem Df {n:aP} {at_ c q:Nat} (hq:q<c) (hl:at_+c≤n.words.length):(n.read at_ c)[q]?=some (n.get (at_+q)):=by
 unfold aP.read
 have hs:n.words[at_+q]?=some (n.get (at_+q)):=aP.get_some (by omega)
 rw [Int.toNat_natCast,Int.toNat_natCast,List.getElem?_take_of_lt hq,List.getElem?_drop,hs]
theorem Dg {n:aP} {l i:Nat} (hi:i<7):((n.page l).cells.take (2+i)++List.replicate (7 - i) (Value.int .u64 0)).set (2+i) (Value.int .u64 (n.get (l * 8+(1+i))))=(n.page l).cells.take (2+(i+1))++List.replicate (7 - (i+1)) (Value.int .u64 0):=by
 have h:i=0∨i=1∨i=2∨i=3∨i=4∨i=5∨i=6:=by omega
 rcases h with rfl | rfl | rfl | rfl | rfl | rfl | rfl<;>rfl
set_option maxRecDepth 20000 in
set_option maxHeartbeats 2000000 in
theorem yF {A:Nat→Prop} {χ:Nat→Tag} {w:World} {fb:Nat} {X:FabX} (h:aY A χ w fb X) {i:Nat} {x:kg} (hx:X.nodes[i]?=some x) {l:Nat} (hl:96≤l∧l<256) (hw:l * 8+8≤x.n.words.length) (hd:x.n.down=false) :
  Does 18 [ptr fb,.int .i64 i,.int .i64 l] w λv w'=>v=.tuple #[(x.n.page l).val,.bool true]∧New w w':=by
 refine does Tryz.func18 ?_
 rw [ptr,rC]
 rintro b1 w1 hb1 hw1
 obtain ⟨hz1,hn1⟩:=aN hb1 hw1
 have hz1:Blk w1 b1 (aB.cells ⟨0,0,0,0,0,0,0,0,0⟩) TPg:=hz1
 clear hw1
 have h1:=h.new hn1
 refine aE (ot h1 hx) ?_
 rintro v u1 ⟨rfl,rfl⟩
 refine ⟨_,rfl,cU rfl ?_⟩
 refine aE (De _ (l:=(l:Int)) (by omega) (by omega)) ?_
 rintro v u2 ⟨rfl,rfl⟩
 refine ⟨_,rfl,?_⟩
 have hchk:x.n.chk ((l:Int) * 8) 8=0:=by
  unfold aP.chk
  rw [if_neg (by omega),if_neg (by simp [hd])]
 refine aE (yn (h1.node i x hx).node ((l:Int) * 8) 8) ?_
 rintro v u3 (⟨hc,_⟩ | ⟨_,a,cap,rfl,hn3,ho,ha⟩)
 ·exact absurd hchk hc
 have hg:∀ q,q<8→(x.n.read ((l:Int) * 8) 8)[q]?=some (x.n.get (l * 8+q)):=λq hq=>by
  have:=Df (n:=x.n) (at_:=l * 8) (c:=8) hq (by omega)
  simpa using this
 have hlen:(x.n.read ((l:Int) * 8) 8).length=8:=aP.read_len hchk
 have hrd:=ho.rd
 obtain ⟨ba,oa,rfl⟩:∃ b o,a=⟨b,o,none⟩:=by
  rcases hrd with hr | ⟨b,o,he,_⟩
  ·have:=congrArg List.length hr
   simp [us,hlen] at this
  ·simp at he
   exact ⟨b,o,he⟩
 have hrc:∀ z,New u3 z→∀ q,q<8→z.cell? ⟨ba,oa+q,none⟩=some (.int .u64 (x.n.get (l * 8+q))):=λz hz q hq=>by
  rcases hrd.new hz with hr | ⟨b,o,he,hcell⟩
  ·have:=congrArg List.length hr
   simp [us,hlen] at this
  ·simp at he
   obtain ⟨rfl,rfl⟩:=he
   exact hcell q _ (by simp [us,hg q hq])
 have hs1:=hn1.size
 have hs3:=hn3.size
 have hl1:=hz1.lt
 refine ⟨_,_,_,_,rfl,cU rfl (cU rfl ?_)⟩
 refine bB (by omega) (by decide) ⟨_,by simpa using hrc u3 (Keep.refl _ _) 0 (by omega),?_⟩
 refine gX (vs:=aB.cells ⟨l,x.n.get (l * 8),0,0,0,0,0,0,0⟩) rfl (aB.single _) λb2 u4 hb2 hz2 hn4=>?_
 refine aQ mix (λq env z=>∃ (i:Nat) (jj:List Value),q=7 - i∧i≤7∧env=fF ⟨b1,0,none⟩ (some ⟨ba,oa,none⟩) 8 cap ⟨b2,0,none⟩ i jj∧New u3 z∧Blk z b2 ((x.n.page l).cells.take (2+i)++List.replicate (7 - i) (.int .u64 0)) TPg) 7
  ⟨0,_,rfl,by omega,rfl,hn4,hz2⟩ ?_
 rintro q env z ⟨i,jj,rfl,hi,rfl,hnz,hbz⟩
 rw [lQ]
 refine aJ (λhlt=>?_) (λhge=>?_)
 ·have hlt':i<7:=by omega
  rw [w64 (x:=1+(i:Int)) (by omega) (by omega)]
  refine bB (by omega) (by omega) ⟨x.n.get (l * 8+(1+i)),?_,?_⟩
  ·have:=hrc z hnz (1+i) (by omega)
   simpa [show (1+(i:Int)).toNat=1+i by omega] using this
  refine sN (by omega) (by omega) ?_
  have e:0+2+(i:Int).toNat * 1=2+i:=by omega
  rw [e]
  refine rN hbz (by rw [List.length_append,List.length_take,List.length_replicate,aB.len];omega) λz2 hbz2 hk2=>?_
  rw [w64 (x:=(i:Int)+1) (by omega) (by omega)]
  rw [Dg hlt'] at hbz2
  exact ⟨7 - (i+1),by omega,i+1,_,rfl,by omega,rfl,hnz.trans hk2 λk hk e=>by have e2:k=b2:=e;omega,hbz2⟩
 ·have hi7:i=7:=by omega
  subst hi7
  rw [nz]
  have hbz:Blk z b2 (x.n.page l).cells TPg:=hbz
  have hz1z:Blk z b1 (aB.cells ⟨0,0,0,0,0,0,0,0,0⟩) TPg:=New.blk (hn3.new hnz) hz1
  refine aB.mk_ex (x.n.page l) ⟨aK hbz rfl,?_⟩
  refine gJ hz1z rfl (aB.single _) λz2 hb12 hk2=>?_
  refine aB.mk_ex (x.n.page l) ⟨aK hb12 rfl,rfl,rfl,?_⟩
  exact ((hn1.new hn3).new hnz).trans hk2 λk hk e=>by omega
end Go.Proofs.YtegepanmkjemjaaGreat
namespace Go.Proofs.YtegepanmkjemjaaGreat
open Go.Proofs.Tryz
open Go.Eng IntKind
variable (w:World) (R:Value→World→Prop)
theorem pk (p0 p1:Int):fnW prog f12 [.int .i64 p0,.int .i64 p1] R w=(Calls prog 32 #[.int .i64 p1] w λe w1=>∃ a,e=.returned (.int .i64 a)∧Calls prog 31 #[.int .i64 p0,.int .i64 6,.int .i64 a] w1 λe w2=>∃ b c,e=.returned (.tuple #[.pointer b,.bool c])∧Calls prog 32 #[.int .i64 p1] w2 λe w3=>∃ d,e=.returned (.int .i64 d)∧Calls prog 33 #[.int .i64 p0] w3 λe w4=>aM.ex λf=>e=.returned f.val∧∀ b1 w5,b1=w4.heap.size→w5=w4.alloc (.cells #[.pointer b,.int .i64 d,.int .i64 f.Number,.slice f.Members f.Members_l f.Members_c] 40)→R (.tuple #[.pointer (some ⟨b1,0,none⟩),.bool c]) w5):=by kernel_rfl
theorem pm  : fnW prog f13 [] R w=(Calls prog 31 #[.int .i64 1,.int .i64 1,.int .i64 98] w λe w1=>∃ (a:Option Addr) (b:Bool),e=.returned (.tuple #[.pointer a,.bool b])∧(bif (!b) then (R (.bool false) w1) else (Calls prog 33 #[.int .i64 1] w1 λe w2=>aM.ex λm=>e=.returned m.val∧∀ b1 w3,b1=w2.heap.size→w3=w2.alloc (.cells #[.int .i64 96,.int .u64 256,.int .u64 7,.int .u64 0,.int .u64 0,.int .u64 0,.int .u64 0,.int .u64 0,.int .u64 0] 55)→Calls prog 15 #[.pointer a,.agg #[.int .i64 3,.int .i64 0,.int .i64 0,.int .i64 0,.int .i64 0,.int .i64 0,.int .i64 0,.int .u64 0,.int .i64 0,.int .i64 1,.int .i64 98,.int .i64 m.Number,.slice m.Members m.Members_l m.Members_c,.slice none 0 0,.slice (some ⟨b1,0,none⟩) 1 1,.slice none 0 0,.bool false,.bool false,.int .i64 0,.int .i64 0,.slice none 0 0,.int .i64 0,.slice none 0 0,.int .u64 0,.int .i64 0]] w3 λe w4=>aC.ex λn=>e=.returned n.val∧∀ b2 w5,b2=w4.heap.size→w5=w4.alloc (.cells #[.int .i64 0,.int .i64 0,.int .i64 0,.int .i64 0,.int .i64 0,.int .i64 0,.int .i64 0,.int .u64 0,.int .i64 0,.int .i64 0,.int .i64 0,.int .i64 0,.slice none 0 0,.slice none 0 0,.slice none 0 0,.slice none 0 0,.bool false,.bool false,.int .i64 0,.int .i64 0,.slice none 0 0,.int .i64 0,.slice none 0 0,.int .u64 0,.int .i64 0] 49)→wrAt w5 ⟨b2,0,none⟩ 0 n.cells∧∀ w6,w6=puts w5 ⟨b2,0,none⟩ 0 n.cells→Calls prog 18 #[.pointer a,.int .i64 0,.int .i64 96] w6 λe w7=>aB.ex λo=>∃ (c:Bool),e=.returned (.tuple #[o.val,.bool c])∧∀ b3 w8,b3=w7.heap.size→w8=w7.alloc (.cells #[.int .i64 0,.int .u64 0,.int .u64 0,.int .u64 0,.int .u64 0,.int .u64 0,.int .u64 0,.int .u64 0,.int .u64 0] 55)→wrAt w8 ⟨b3,0,none⟩ 0 o.cells∧∀ w9,w9=puts w8 ⟨b3,0,none⟩ 0 o.cells→∃ d,w9.cell? ⟨b2,16,none⟩=some (.bool d)∧(bif d then (∃ f,w9.cell? ⟨b2,17,none⟩=some (.bool f)∧(bif (!f) then (∃ g,w9.cell? ⟨b2,18,none⟩=some (.int .i64 g)∧(bif ((g:Int) == 0) then (∃ h,w9.cell? ⟨b2,24,none⟩=some (.int .i64 h)∧(bif ((h:Int) == 3) then ((bif c then (∃ i,w9.cell? ⟨b3,1,none⟩=some (.int .u64 i)∧(bif ((i:Int) == 512) then (idxA ⟨b3,2,none⟩ 7 0 1 λad=>∃ x,w9.cell? ad=some (.int .u64 x)∧(bif ((x:Int) == 7) then (Calls prog 16 #[.pointer a,.int .i64 0] w9 λe p=>∃ (k:Int),e=.returned (.int .i64 k)∧(bif ((k:Int) == 4) then (Calls prog 34 #[.pointer a,.int .i64 0] p λe q=>∃ (l:Int),e=.returned (.int .i64 l)∧R (.bool ((l:Int) == 5)) q) else (R (.bool false) p))) else (R (.bool false) w9))) else (R (.bool false) w9))) else (R (.bool false) w9))) else (R (.bool false) w9))) else (R (.bool false) w9))) else (R (.bool false) w9))) else (R (.bool false) w9))))):=by kernel_rfl
theorem m4 (p0:Nat) (p1:Int):fnW prog f34 [.pointer (some ⟨p0,0,none⟩),.int .i64 p1] R w=(Calls prog 38 #[.pointer (some ⟨p0,0,none⟩),.int .i64 p1] w λe w1=>∃ a,e=.returned (.pointer a)∧(bif (!(Option.isNone a)) then (nilP a λc=>∃ b,w1.cell? ⟨c.block,c.off+6,none⟩=some (.int .i64 b)∧R (.int .i64 b) w1) else (R (.int .i64 0) w1))):=by kernel_rfl
theorem pn (p0:Int):fnW prog f42 [.int .i64 p0] R w=((bif (decide ((p0:Int)≥0)) then (R (.bool (decide ((p0:Int)<6))) w) else (R (.bool false) w))):=by kernel_rfl
end Go.Proofs.YtegepanmkjemjaaGreat
namespace Go.Proofs.YtegepanmkjemjaaGreat
open Go.Eng
end Go.Proofs.YtegepanmkjemjaaGreat
