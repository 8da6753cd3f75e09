import Derived.Test.YtgpmeaicjonenaaGreatProg
import Derived.Test.YtgpmeaicjonenaaGreata03
import Derived.Test.YtgpmeaicjonenaaGreata24
set_option linter.unusedVariables false
namespace Go.Proofs.YtgpmeaicjonenaaGreat
open Go.Proofs.Tryz
open Go.Eng IntKind
variable (w:World) (R:Value→World→Prop)
def dB (s0 s2:Addr) (s4:Option Addr) (a b:Nat) (s5:Option Addr) (c d:Nat) (s6:Option Addr) (f g:Nat) (h:Option Addr) (i k:Nat) (l m:Int) (j:LV):LV:=[(.pointer (some s0)),jg j 0,(.pointer (some s2)),jg j 1,(.slice s4 a b),(.slice s5 c d),(.slice s6 f g),jg j 2,jg j 3,jg j 4,jg j 5,jg j 6,jg j 7,jg j 8,jg j 9,jg j 10,jg j 11,jg j 12,jg j 13,jg j 14,jg j 15,jg j 16,(.slice h i k),(.int .i64 l),(.int .i64 m),jg j 17,jg j 18,jg j 19,jg j 20,jg j 21,jg j 22,jg j 23,jg j 24,jg j 25,jg j 26,jg j 27,jg j 28,jg j 29,jg j 30,jg j 31,jg j 32,jg j 33,jg j 34,jg j 35,jg j 36,jg j 37,jg j 38,jg j 39,jg j 40,jg j 41,jg j 42,jg j 43,jg j 44,jg j 45,jg j 46,jg j 47,jg j 48,jg j 49,jg j 50,jg j 51,jg j 52,jg j 53,jg j 54,jg j 55,jg j 56,jg j 57,jg j 58,jg j 59,jg j 60,jg j 61,jg j 62,jg j 63,jg j 64,jg j 65,jg j 66,jg j 67,jg j 68,jg j 69,jg j 70,jg j 71,jg j 72,jg j 73,jg j 74,jg j 75,jg j 76,jg j 77,jg j 78,jg j 79,jg j 80,jg j 81,jg j 82,jg j 83,jg j 84,jg j 85,jg j 86,jg j 87,jg j 88,jg j 89,jg j 90,jg j 91,jg j 92,jg j 93,jg j 94,jg j 95,jg j 96,jg j 97,jg j 98,jg j 99,jg j 100,jg j 101,jg j 102,jg j 103,jg j 104,jg j 105,jg j 106,jg j 107,jg j 108,jg j 109,jg j 110,jg j 111,jg j 112,jg j 113,jg j 114,jg j 115,jg j 116,jg j 117,jg j 118,jg j 119,jg j 120,jg j 121,jg j 122,jg j 123,jg j 124,jg j 125,jg j 126,jg j 127,jg j 128,jg j 129,jg j 130,jg j 131,jg j 132,jg j 133,jg j 134,jg j 135,jg j 136,jg j 137,jg j 138,jg j 139,jg j 140,jg j 141,jg j 142,jg j 143,jg j 144,jg j 145,jg j 146]
def gC (a b:Addr) (s4:Option Addr) (c d:Nat) (s5:Option Addr) (f g:Nat) (s6:Option Addr) (h i:Nat) (j:LV):LV:=.pointer (some a)::jq j 0 1 (.pointer (some b)::jq j 1 1 (.slice s4 c d::.slice s5 f g::.slice s6 h i::jq j 2 148 []))
def dC (s0 s2:Addr) (s4:Option Addr) (a b:Nat) (s5:Option Addr) (c d:Nat) (s6:Option Addr) (f g:Nat) (h:Option Addr) (i k:Nat) (l m:Int) (j:LV):LV:=.pointer (some s0)::jq j 0 1 (.pointer (some s2)::jq j 1 1 (.slice s4 a b::.slice s5 c d::.slice s6 f g::jq j 2 57 (.slice h i k::.int .i64 l::.int .i64 m::jq j 59 88 [])))
def eD (a b:Addr) (s4:Option Addr) (c d:Nat) (s5:Option Addr) (f g:Nat) (s6:Option Addr) (h i:Nat) (j:LV):LV:=.pointer (some a)::jq j 0 1 (.pointer (some b)::jq j 1 1 (.slice s4 c d::.slice s5 f g::.slice s6 h i::jq j 2 148 []))
def bR (s0 s2:Addr) (s4:Option Addr) (a b:Nat) (s5:Option Addr) (c d:Nat) (s6:Option Addr) (f g:Nat) (h:Bool) (i:Option Addr) (k l:Nat) (m n:Int) (j:LV):LV:=.pointer (some s0)::jq j 0 1 (.pointer (some s2)::jq j 1 1 (.slice s4 a b::.slice s5 c d::.slice s6 f g::jq j 2 7 (.bool h::jq j 9 84 (.slice i k l::.int .i64 m::.int .i64 n::jq j 93 53 []))))
def eE (a b:Addr) (s5:Option Addr) (c d:Nat) (f:Bool) (j:LV):LV:=.pointer (some a)::jq j 0 1 (.pointer (some b)::jq j 1 2 (.slice s5 c d::jq j 3 8 (.bool f::jq j 11 140 [])))
theorem l6 (p0:Nat):fnW prog f187 [.pointer (some ⟨p0,0,none⟩)] R w=(∀ b1 w1,b1=w.heap.size→w1=w.alloc (.cells #[.int .i64 0,.int .i64 0] 188)→∃ a b c,w1.cell? ⟨p0,6,none⟩=some (.slice a b c)∧cQ prog (.loop (sub (aD f187) [1,1,1,0,1,0,0])) (dB ⟨p0,0,none⟩ ⟨b1,0,none⟩ none 0 0 none 0 0 none 0 0 a b c (b:Nat) 0 (undef::jb false::uq 11 (jp ⟨p0,0,none⟩::jp ⟨p0,0,none⟩::jp ⟨p0,0,none⟩::jp ⟨p0,6,none⟩::uq 130 []))) (aK 0 (nx f187 [1,1,1,1] R)) w1):=by kernel_rfl
set_option maxHeartbeats 4000000 in
theorem iM (s0 s2:Addr) (s4:Option Addr) (a b:Nat) (s5:Option Addr) (c d:Nat) (s6:Option Addr) (f g:Nat) (h:Option Addr) (i k:Nat) (l m:Int) (j:LV) (N1:LV→World→Prop):W prog (sub (aD f187) [1,1,1,0,1,0,0]) (dB s0 s2 s4 a b s5 c d s6 f g h i k l m j) (seqQ N1 (aK 0 (nx f187 [1,1,1,1] R))) w=((bif (decide ((m:Int)<l)) then (idxS h i m 9 λad=>aG.ex λr=>aC w ad 0 r.cells∧∀ b1 w1,b1=w.heap.size→w1=w.alloc (.cells #[.int .i64 0,.int .u64 0,.int .u64 0,.int .u64 0,.int .u64 0,.int .u64 0,.int .u64 0,.int .u64 0,.int .u64 0] 73)→wrAt w1 ⟨b1,0,none⟩ 0 r.cells∧∀ w2,w2=puts w1 ⟨b1,0,none⟩ 0 r.cells→∀ w3,w3=w2.drew→∃ Sx:World→Prop,Sx w3∧aG.ex λr1=>(∀ u,Sx u→aC u ⟨b1,0,none⟩ 0 r1.cells)∧∃ n,(∀ u,Sx u→u.cell? s0=some (.int .i64 n))∧Calls prog 233 #[r1.val,.int .i64 n] w3 λe w4=>∃ (o p:Int),e=.returned (.tuple #[.int .u64 o,.int .i64 p])∧∀ w5,w5=w4.drew→∃ Sx1:World→Prop,Sx1 w5∧aE.ex λac=>(∀ u,Sx1 u→aC u ⟨s0.block,s0.off+8,none⟩ 0 ac.cells)∧∃ q,(∀ u,Sx1 u→u.cell? ⟨b1,0,none⟩=some (.int .i64 q))∧∃ s,(∀ u,Sx1 u→u.cell? ⟨b1,1,none⟩=some (.int .u64 s))∧Calls prog 116 #[.int .i64 q] w5 λe w6=>∃ (t:Int),e=.returned (.int .i64 t)∧Sx1 w6∧Calls prog 234 #[.pointer (some s0),ac.val,.agg #[.int .i64 3,.int .i64 0,.int .i64 t,.int .i64 0,.int .u64 s,.int .u64 o,.slice none 0 0,.int .u64 0,.int .i64 0]] w6 λe w7=>aJ.ex λae=>e=.returned ae.val∧Sx1 w7∧∀ b2 w8,b2=w7.heap.size→w8=w7.alloc (.cells ae.cells.toArray 173)→Sx1 w8∧∃ (ap:Option Addr) (v x:Nat),∃ w9,(Builtin.append_ #[140,140] 140 #[.slice s4 a b,.slice (some ⟨b2,0,none⟩) 1 1]).run prog w8=.ok (.slice ap v x) w9∧Sx1 w9∧∃ y,w9.cell? ⟨b1,1,none⟩=some (.int .u64 y)∧∀ b3 af,b3=w9.heap.size→af=w9.alloc (.cells #[.int .u64 y] 30)→∃ (z:Option Addr) (aa ab:Nat),∃ ag,(Builtin.append_ #[106,106] 106 #[.slice s6 f g,.slice (some ⟨b3,0,none⟩) 1 1]).run prog af=.ok (.slice z aa ab) ag∧N1 (dB s0 s2 ap v x s5 c d z aa ab h i k l (i64.wrap (m+1)) (jg j 0::jg j 1::jg j 2::jp ⟨b1,0,none⟩::ju o::ji p::jq j 6 11 (jb (decide ((m:Int)<l))::jp ad::r.val::.tuple #[.int .u64 o,.int .i64 p]::r1.val::jp s0::jp s0::jp s0::jp s0::ji n::.tuple #[.int .u64 o,.int .i64 p]::ju o::ji p::js s4 a b::jp s0::jp s0::jp s0::jf s0 8::ac.val::jp ⟨b1,0,none⟩::ji q::ji t::jp ⟨b1,1,none⟩::ju s::ju o::.agg #[.int .i64 3,.int .i64 0,.int .i64 t,.int .i64 0,.int .u64 s,.int .u64 o,.slice none 0 0,.int .u64 0,.int .i64 0]::ae.val::js (some ⟨b2,0,none⟩) 1 1::js ap v x::js s6 f g::jp ⟨b1,1,none⟩::ju y::js (some ⟨b3,0,none⟩) 1 1::js z aa ab::ji (i64.wrap (m+1))::jq j 52 95 []))) ag) else (W prog (sub (aD f187) [1,1,1,1]) (gC s0 s2 s4 a b s5 c d s6 f g (jq j 0 17 (js h i k::ji l::ji m::jb (decide ((m:Int)<l))::jq j 18 129 []))) (retQ prog f187 R) w))):=by kernel_rfl
theorem j5 (a b:Addr) (s4:Option Addr) (c d:Nat) (s5:Option Addr) (f g:Nat) (s6:Option Addr) (h i:Nat) (j:LV):W prog (sub (aD f187) [1,1,1,1]) (gC a b s4 c d s5 f g s6 h i j) (retQ prog f187 R) w=(∃ k l m,w.cell? ⟨a.block,a.off+5,none⟩=some (.slice k l m)∧cQ prog (.loop (sub (aD f187) [1,1,1,1,0,1,0,0])) (dC a b s4 c d s5 f g s6 h i k l m (l:Nat) 0 (jq j 0 55 (jp a::jp a::jp a::jf a 5::jq j 62 88 []))) (aK 2 (nx f187 [1,1,1,1,1] R)) w):=by kernel_rfl
theorem iN (s0 s2:Addr) (s4:Option Addr) (a b:Nat) (s5:Option Addr) (c d:Nat) (s6:Option Addr) (f g:Nat) (h:Option Addr) (i k:Nat) (l m:Int) (j:LV) (N2:LV→World→Prop):W prog (sub (aD f187) [1,1,1,1,0,1,0,0]) (dC s0 s2 s4 a b s5 c d s6 f g h i k l m j) (seqQ N2 (aK 2 (nx f187 [1,1,1,1,1] R))) w=((bif (decide ((m:Int)<l)) then (idxS h i m 2 λad=>aV.ex λr=>aC w ad 0 r.cells∧∀ b1 w1,b1=w.heap.size→w1=w.alloc (.cells #[.int .i64 0,.int .u64 0] 137)→wrAt w1 ⟨b1,0,none⟩ 0 r.cells∧∀ w2,w2=puts w1 ⟨b1,0,none⟩ 0 r.cells→∀ w3,w3=w2.drew→∃ Sx:World→Prop,Sx w3∧aE.ex λy=>(∀ u,Sx u→aC u ⟨s0.block,s0.off+8,none⟩ 0 y.cells)∧∃ n,(∀ u,Sx u→u.cell? ⟨b1,0,none⟩=some (.int .i64 n))∧Calls prog 116 #[.int .i64 n] w3 λe w4=>∃ (o:Int),e=.returned (.int .i64 o)∧Sx w4∧Calls prog 234 #[.pointer (some s0),y.val,.agg #[.int .i64 1,.int .i64 0,.int .i64 o,.int .i64 1,.int .u64 0,.int .u64 0,.slice none 0 0,.int .u64 0,.int .i64 0]] w4 λe w5=>aJ.ex λz=>e=.returned z.val∧Sx w5∧∀ b2 w6,b2=w5.heap.size→w6=w5.alloc (.cells z.cells.toArray 173)→Sx w6∧∃ (ap:Option Addr) (p q:Nat),∃ w7,(Builtin.append_ #[140,140] 140 #[.slice s4 a b,.slice (some ⟨b2,0,none⟩) 1 1]).run prog w6=.ok (.slice ap p q) w7∧Sx w7∧∃ s,w7.cell? ⟨b1,1,none⟩=some (.int .u64 s)∧∀ b3 w8,b3=w7.heap.size→w8=w7.alloc (.cells #[.int .u64 s] 30)→∃ (t:Option Addr) (v x:Nat),∃ w9,(Builtin.append_ #[106,106] 106 #[.slice s6 f g,.slice (some ⟨b3,0,none⟩) 1 1]).run prog w8=.ok (.slice t v x) w9∧N2 (dC s0 s2 ap p q s5 c d t v x h i k l (i64.wrap (m+1)) (jq j 0 7 (jp ⟨b1,0,none⟩::jq j 8 51 (jb (decide ((m:Int)<l))::jp ad::r.val::js s4 a b::jp s0::jp s0::jp s0::jf s0 8::y.val::jp ⟨b1,0,none⟩::ji n::ji o::.agg #[.int .i64 1,.int .i64 0,.int .i64 o,.int .i64 1,.int .u64 0,.int .u64 0,.slice none 0 0,.int .u64 0,.int .i64 0]::z.val::js (some ⟨b2,0,none⟩) 1 1::js ap p q::js s6 f g::jp ⟨b1,1,none⟩::ju s::js (some ⟨b3,0,none⟩) 1 1::js t v x::ji (i64.wrap (m+1))::jq j 81 66 [])))) w9) else (W prog (sub (aD f187) [1,1,1,1,1]) (eD s0 s2 s4 a b s5 c d s6 f g (jq j 0 59 (js h i k::ji l::ji m::jb (decide ((m:Int)<l))::jq j 60 87 []))) (retQ prog f187 R) w))):=by kernel_rfl
theorem j6 (a b:Addr) (s4:Option Addr) (c d:Nat) (s5:Option Addr) (f g:Nat) (s6:Option Addr) (h i:Nat) (j:LV):W prog (sub (aD f187) [1,1,1,1,1]) (eD a b s4 c d s5 f g s6 h i j) (retQ prog f187 R) w=(Calls prog 235 #[.pointer (some a),.slice s4 c d,.int .i64 1] w λe w1=>∃ k l m,aA.ex λo=>∃ n,e=.returned (.tuple #[.slice k l m,o.val,.bool n])∧wrAt w1 b 0 o.cells∧∀ w2,w2=puts w1 b 0 o.cells→(bif (!n) then (aA.ex λr=>aC w2 b 0 r.cells∧wrAt w2 b 0 r.cells∧∀ w3,w3=puts w2 b 0 r.cells→aA.ex λp=>aC w3 b 0 p.cells∧w3=w3∧R (.tuple #[p.val,.bool false]) w3) else (cQ prog (.loop (sub (aD f187) [1,1,1,1,1,1,1,1,0,1,0,0])) (bR a b s4 c d s5 f g s6 h i false k l m (l:Nat) 0 (jg j 0::jb n::jq j 2 6 (js k l m::jq j 10 74 (.tuple #[.slice k l m,o.val,.bool n]::jp a::js s4 c d::.tuple #[.slice k l m,o.val,.bool n]::js k l m::o.val::jb n::jb n::jb (!n)::jg j 93::jq j 97 53 [])))) (aK 4 (nx f187 [1,1,1,1,1,1,1,1,1] R)) w2))):=by kernel_rfl
set_option maxHeartbeats 4000000 in
theorem iO (s0 s2:Addr) (s4:Option Addr) (a b:Nat) (s5:Option Addr) (c d:Nat) (s6:Option Addr) (f g:Nat) (h:Bool) (i:Option Addr) (k l:Nat) (m n:Int) (j:LV) (N3:LV→World→Prop):W prog (sub (aD f187) [1,1,1,1,1,1,1,1,0,1,0,0]) (bR s0 s2 s4 a b s5 c d s6 f g h i k l m n j) (seqQ N3 (aK 4 (nx f187 [1,1,1,1,1,1,1,1,1] R))) w=((bif (decide ((n:Int)<m)) then (idxS i k n 2 λad=>aY.ex λr=>aC w ad 0 r.cells∧∀ b1 w1,b1=w.heap.size→w1=w.alloc (.cells #[.int .i64 0,.slice none 0 0] 146)→wrAt w1 ⟨b1,0,none⟩ 0 r.cells∧∀ w2,w2=puts w1 ⟨b1,0,none⟩ 0 r.cells→∀ w3,w3=w2.drew→∃ Sx:World→Prop,Sx w3∧aY.ex λr1=>(∀ u,Sx u→aC u ⟨b1,0,none⟩ 0 r1.cells)∧idxS s6 f n 1 λy=>∃ x,(∀ u,Sx u→u.cell? y=some (.int .u64 x))∧Calls prog 218 #[r1.val] w3 λe w4=>∃ (o:Int),e=.returned (.int .u64 o)∧Sx w4∧(bif ((o:Int) != x) then (N3 (bR s0 s2 s4 a b s5 c d s6 f g true i k l m (i64.wrap (n+1)) (jq j 0 9 (ji n::jp ⟨b1,0,none⟩::jq j 11 82 (jb (decide ((n:Int)<m))::ji n::jp ad::r.val::jb ((o:Int) != x)::r1.val::ju o::js s6 f g::ji n::jp y::ju x::jb ((o:Int) != x)::jq j 105 27 (ji (i64.wrap (n+1))::jq j 133 13 []))))) w4) else (idxS s4 a n 9 λz=>∃ p,w4.cell? z=some (.int .i64 p)∧(bif ((p:Int) == 3) then (idxS s4 a n 9 λaa=>aJ.ex λr2=>aC w4 aa 0 r2.cells∧∀ b2 w5,b2=w4.heap.size→w5=w4.alloc (.cells #[.int .i64 0,.int .i64 0,.int .i64 0,.int .i64 0,.int .u64 0,.int .u64 0,.slice none 0 0,.int .u64 0,.int .i64 0] 173)→wrAt w5 ⟨b2,0,none⟩ 0 r2.cells∧∀ w6,w6=puts w5 ⟨b2,0,none⟩ 0 r2.cells→∀ w7,w7=w6.drew→∃ Sx1:World→Prop,Sx1 w7∧idxS s4 a n 9 λab=>∃ q,(∀ u,Sx1 u→u.cell? ⟨ab.block,ab.off+5,none⟩=some (.int .u64 q))∧idxS s4 a n 9 λac=>∃ s,(∀ u,Sx1 u→u.cell? ⟨ac.block,ac.off+4,none⟩=some (.int .u64 s))∧(∃ u,w7.cell? ⟨b2,4,none⟩=some u)∧w7.frozen? ⟨b2,4,none⟩=false∧∀ w8,w8=w7.setCell ⟨b2,4,none⟩ (.int .u64 q)→Sx1 w8∧(∃ u,w8.cell? ⟨b2,5,none⟩=some u)∧w8.frozen? ⟨b2,5,none⟩=false∧∀ w9,w9=w8.setCell ⟨b2,5,none⟩ (.int .u64 s)→aJ.ex λr3=>aC w9 ⟨b2,0,none⟩ 0 r3.cells∧∀ b3 ae,b3=w9.heap.size→ae=w9.alloc (.cells r3.cells.toArray 173)→∃ (ap:Option Addr) (t v:Nat),∃ af,(Builtin.append_ #[140,140] 140 #[.slice s5 c d,.slice (some ⟨b3,0,none⟩) 1 1]).run prog ae=.ok (.slice ap t v) af∧N3 (bR s0 s2 s4 a b ap t v s6 f g h i k l m (i64.wrap (n+1)) (jq j 0 9 (ji n::jp ⟨b1,0,none⟩::jp ⟨b2,0,none⟩::jq j 12 81 (jb (decide ((n:Int)<m))::ji n::jp ad::r.val::jb ((o:Int) != x)::r1.val::ju o::js s6 f g::ji n::jp y::ju x::jb ((o:Int) != x)::jb ((p:Int) == 3)::js s4 a b::ji n::jp z::jp z::ji p::jb ((p:Int) == 3)::js s4 a b::ji n::jp aa::r2.val::js s4 a b::ji n::jp ab::jf ab 5::ju q::js s4 a b::ji n::jp ac::jf ac 4::ju s::jp ⟨b2,4,none⟩::jp ⟨b2,5,none⟩::js s5 c d::r3.val::js (some ⟨b3,0,none⟩) 1 1::js ap t v::ji (i64.wrap (n+1))::jq j 133 13 [])))) af) else (N3 (bR s0 s2 s4 a b s5 c d s6 f g h i k l m (i64.wrap (n+1)) (jq j 0 9 (ji n::jp ⟨b1,0,none⟩::jq j 11 82 (jb (decide ((n:Int)<m))::ji n::jp ad::r.val::jb ((o:Int) != x)::r1.val::ju o::js s6 f g::ji n::jp y::ju x::jb ((o:Int) != x)::jb ((p:Int) == 3)::js s4 a b::ji n::jp z::jp z::ji p::jb ((p:Int) == 3)::jq j 112 20 (ji (i64.wrap (n+1))::jq j 133 13 []))))) w4))))) else (W prog (sub (aD f187) [1,1,1,1,1,1,1,1,1]) (eE s0 s2 s5 c d h (jg j 0::jg j 1::js s4 a b::js s6 f g::jq j 2 91 (js i k l::ji m::ji n::jb (decide ((n:Int)<m))::jq j 94 52 []))) (retQ prog f187 R) w))):=by kernel_rfl
theorem j7 (a b:Addr) (s5:Option Addr) (c d:Nat) (f:Bool) (j:LV):W prog (sub (aD f187) [1,1,1,1,1,1,1,1,1]) (eE a b s5 c d f j) (retQ prog f187 R) w=((bif (!f) then (wrAt w b 0 [.int .i64 0,.int .i64 0]∧∀ w1,w1=puts w b 0 [.int .i64 0,.int .i64 0]→aA.ex λl=>aC w1 b 0 l.cells∧w1=w1∧R (.tuple #[l.val,.bool true]) w1) else (Calls prog 235 #[.pointer (some a),.slice s5 c d,.int .i64 1] w λe w2=>∃ g h i,aA.ex λm=>∃ k,e=.returned (.tuple #[.slice g h i,m.val,.bool k])∧wrAt w2 b 0 m.cells∧∀ w3,w3=puts w2 b 0 m.cells→(bif k then (wrAt w3 b 0 [.int .i64 7,.int .i64 1]∧∀ w4,w4=puts w3 b 0 [.int .i64 7,.int .i64 1]→aA.ex λr=>aC w4 b 0 r.cells∧wrAt w4 b 0 r.cells∧∀ w5,w5=puts w4 b 0 r.cells→aA.ex λn=>aC w5 b 0 n.cells∧w5=w5∧R (.tuple #[n.val,.bool false]) w5) else (aA.ex λr1=>aC w3 b 0 r1.cells∧wrAt w3 b 0 r1.cells∧∀ w6,w6=puts w3 b 0 r1.cells→aA.ex λo=>aC w6 b 0 o.cells∧w6=w6∧R (.tuple #[o.val,.bool false]) w6))))):=by kernel_rfl
end Go.Proofs.YtgpmeaicjonenaaGreat
namespace Go.Proofs.YtgpmeaicjonenaaGreat
open Go.Proofs.Tryz
open Go.Eng
def m0Of (j:CJob):aE:=j.v.mem.headD noM
def casV (j:CJob) (p:aG):Verb:=addr j.v.number (m0Of j) ⟨3,0,p.Line * 8,0,p.Head,eT p.Head j.client,[],0,0⟩
def sY (j:CJob) (s:aV):Verb:=addr j.v.number (m0Of j) ⟨1,0,s.Line * 8,1,0,0,[],0,0⟩
def aX (j:CJob):List Verb:=j.writes.map (casV j)++j.reads.map (sY j)
def dR (j:CJob):List Int:=j.writes.map (·.Head)++j.reads.map (·.Head)
def vT (v:Verb):Verb:={ v with old:=v.new,new:=v.old }
def eO:List Verb→List Int→List Done→List Verb
 |v::vs,x::xs,d::ds=>(if eA d=x∧v.kind=3 then [vT v] else [])++eO vs xs ds
 | _,_,_=>[]
def eM:List Int→List Done→Bool
 |x::xs,d::ds=>decide (eA d≠x) || eM xs ds
 | _,_=>false
def mF (j:CJob) (G:List (List Done)):SR:=
 if (bL G (aX j) 1).ok=false then bL G (aX j) 1
 else if eM (dR j) (bL G (aX j) 1).done=false then ⟨true,[],(0,0),(bL G (aX j) 1).got,none,false⟩
 else if (bL (bL G (aX j) 1).got (eO (aX j) (dR j) (bL G (aX j) 1).done) 1).ok=true then ⟨false,[],(7,1),(bL (bL G (aX j) 1).got (eO (aX j) (dR j) (bL G (aX j) 1).done) 1).got,none,false⟩
 else bL (bL G (aX j) 1).got (eO (aX j) (dR j) (bL G (aX j) 1).done) 1
theorem vU:∀ {a:List Verb} {b:List Int} {c:List Done} {v:Verb} {x:Int} {d:Done},a.length=c.length→b.length=c.length→eO (a++[v]) (b++[x]) (c++[d])=eO a b c++(if eA d=x∧v.kind=3 then [vT v] else [])
 | [],[],[],v,x,d,_,_=>by simp [eO]
 | _::a,_::b,_::c,v,x,d,h1,h2=>by
  simp only [List.cons_append,eO]
  rw [vU (by simpa using h1) (by simpa using h2),List.append_assoc]
 | [],_,_::_,_,_,_,h,_=>by simp at h
 | _::_,_,[],_,_,_,h,_=>by simp at h
 | _,[],_::_,_,_,_,_,h=>by simp at h
 | _,_::_,[],_,_,_,_,h=>by simp at h
theorem vV:∀ {b:List Int} {c:List Done} {x:Int} {d:Done},b.length=c.length→eM (b++[x]) (c++[d])=(eM b c || decide (eA d≠x))
 | [],[],x,d,_=>by simp [eM]
 | _::b,_::c,x,d,h=>by
  simp only [List.cons_append,eM]
  rw [vV (by simpa using h),Bool.or_assoc]
 | [],_::_,_,_,h=>by simp at h
 | _::_,[],_,_,h=>by simp at h
theorem sk:∀ {a:List Verb} {b:List Int} {c:List Done},(eO a b c).length≤a.length
 |v::a,y::b,d::c=>by
  have:=@sk a b c
  unfold eO
  rw [List.length_append]
  split
  ·simp;omega
  ·simp;omega
 | [],_,_=>by simp [eO]
 | _::_,[],_=>by simp [eO]
 | _::_,_::_,[]=>by simp [eO]
theorem VB.keep_nw {w0 u u':World} {a:Option Addr} {n cap:Nat} {vs:List Verb} (h:VB w0 u a n cap vs) (hnw:∀ x ∈ vs,x.words=[]) {M:Nat→Prop} (hk:Keep M u u') (hM:∀ k,isB a k→¬ M k):VB w0 u' a n cap vs:=by
 obtain ⟨⟨raws,ho,hv⟩,hl,hf⟩:=h
 refine ⟨⟨raws,ho.keep hk hM,hv.1,λi v x h1 h2=>?_⟩,hl,hf⟩
 have hx:=hv.2 i v x h1 h2
 have he:=hnw x (List.mem_of_getElem? h2)
 have hx2:bI (λk=>M k∨(k<w0.heap.size∨isB a k)) u v x:=⟨hx.eq,hx.rd,hx.nil,.inl he,hx.wf,hx.new,hx.old,hx.key,hx.boot,hx.cap,hx.wlen⟩
 exact (hx2.keep (hk.mono λk _ e=>.inl e) λ_ _ e=>e).mono λk e=>.inr e
theorem jk.after {A:Nat→Prop} {w0 u u5 u6:World} {tb B:Nat} {R:SR} (h:jk A w0 u5 tb B R u6) (hk:Keep (λk=>k=tb) u u5):jk A w0 u tb B R u6:=
 ⟨hk.trans h.keep λ_ _ e=>e,h.tk⟩
theorem D0 {u:World} {b:Nat} {o:aA} (hz:Blk u b o.cells TCO) {K:aA→World→Prop} (hk:∀ u4,Keep (λk=>k=b) u u4→K o u4) :
  aA.ex λr=>aC u ⟨b,0,none⟩ 0 r.cells∧wrAt u ⟨b,0,none⟩ 0 r.cells∧∀ w3,w3=puts u ⟨b,0,none⟩ 0 r.cells→aA.ex λres=>aC w3 ⟨b,0,none⟩ 0 res.cells∧w3=w3∧K res w3:=
 aA.mk_ex o ⟨aI hz rfl,il hz rfl (aA.single _) λw3 hz3 hk3=>aA.mk_ex o ⟨aI hz3 rfl,rfl,hk w3 hk3⟩⟩
structure LkI (w0 u1:World) (cb tb:Nat) (r:aL) (m0:aE) (j:CJob) (z:World) (pa:Option Addr) (n pc:Nat) (qa:Option Addr) (qc:Nat) (vs:List Verb) (ws:List Int):Prop where
 com:fN w0 z cb tb r m0 j
 new:New u1 z
 vb:VB u1 z pa n pc vs
 nw:∀ x ∈ vs,x.words=[]
 own:Owns z TUw 1 qa n qc (us ws)
 qf:∀ k,isB qa k→u1.heap.size≤k
 wl:ws.length=n
theorem LkI.new' {w0 u1:World} {cb tb:Nat} {r:aL} {m0:aE} {j:CJob} {z z':World} {pa:Option Addr} {n pc:Nat} {qa:Option Addr} {qc:Nat} {vs:List Verb} {ws:List Int} (h:LkI w0 u1 cb tb r m0 j z pa n pc qa qc vs ws) (hn:New z z'):LkI w0 u1 cb tb r m0 j z' pa n pc qa qc vs ws:=
 ⟨h.com.new' hn,h.new.new hn,h.vb.new hn,h.nw,Owns.new hn h.own,h.qf,h.wl⟩
set_option maxHeartbeats 1000000 in
theorem LkI.push {w0 u1:World} {cb tb:Nat} {r:aL} {m0:aE} {j:CJob} {z z1:World} {pa:Option Addr} {n pc:Nat} {qa:Option Addr} {qc:Nat} {vs:List Verb} {ws:List Int} (h:LkI w0 u1 cb tb r m0 j z pa n pc qa qc vs ws) (hn:New z z1) {v:aJ} {x:Verb} (hv:bI (λk=>k<z.heap.size) z1 v x) (hxw:x.words=[]) (hf:n≤1000) (hcb:w0.heap.size≤u1.heap.size)
  {bx:Nat} {cs:List Value} {TT:TypeId} (hbx:Blk z1 bx cs TT) (hT1:TT≠TV) (hT2:TT≠TUw) {y:Int} {S:World→Prop} (hS:∀ z',Blk z' bx cs TT→fN w0 z' cb tb r m0 j→S z') {b1:Nat} {z2:World} (hb:b1=z1.heap.size) (hz:z2=z1.alloc (.cells v.cells.toArray TV)) {rd:World→Int→Prop} (hrd:∀ z',Blk z' bx cs TT→rd z' y) {N:Option Addr→Nat→Nat→World→Int→Nat→World→Option Addr→Nat→Nat→World→Prop}
  (hN:∀ ap ac z3 b3 z4 bp bc z',LkI w0 u1 cb tb r m0 j z' ap (n+1) ac bp bc (vs++[x]) (ws++[y])→N ap (n+1) ac z3 y b3 z4 bp (n+1) bc z') :
  S z2∧∃ (ap:Option Addr) (al ac:Nat),∃ z3,(Builtin.append_ #[TSV,TSV] TSV #[(.slice pa n pc),(.slice (some ⟨b1,0,none⟩) 1 1)]).run prog z2=.ok (.slice ap al ac) z3∧S z3∧∃ y:Int,rd z3 y∧∀ b3 z4,b3=z3.heap.size→z4=z3.alloc (.cells #[(.int .u64 y)] TUw)→∃ (bp:Option Addr) (bl bc:Nat),∃ z5,(Builtin.append_ #[106,106] 106 #[(.slice qa n qc),(.slice (some ⟨b3,0,none⟩) 1 1)]).run prog z4=.ok (.slice bp bl bc) z5∧N ap al ac z3 y b3 z4 bp bl bc z5:=by
 have hz2:New z1 z2:=by rw [hz];exact dP _ _
 have hc1:=h.com.new' hn
 refine ⟨hS _ (New.blk hz2 hbx) (hc1.new' hz2),?_⟩
 have hsz:=hn.size
 refine VB.push_e h.vb h.new hn hv (by omega) hb hz λap cap' z3 h3 hk3 hn3=>?_
 have hpv:=h.vb
 have hpa:∀ k,isB pa k→u1.heap.size≤k∧∃ cs,Blk z k cs TV:=λk hk=>by
  obtain ⟨raws,ho,_⟩:=hpv.ex
  exact ⟨hpv.fr k hk,dU ho hk⟩
 have hbx3:Blk z3 bx cs TT:=hk3.blk hbx λe=>by
  obtain ⟨_,cs',hcs⟩:=hpa _ e
  exact (New.blk hn hcs).ne hbx (λe=>hT1 e.symm) rfl
 have hc3:fN w0 z3 cb tb r m0 j:=hc1.keep hk3 λk hk=>by
  obtain ⟨h1,cs',hcs⟩:=hpa k hk
  refine ⟨by omega,λe=>?_⟩
  exact (e▸New.blk hn hcs).ne hc1.blk (by decide) rfl
 refine ⟨hS _ hbx3 hc3,y,hrd _ hbx3,?_⟩
 rintro b3 z4 hb3 hz4
 obtain ⟨hz5,hn4⟩:=aO hb3 hz4
 have hz5:Blk z4 b3 (us [y]) TUw:=hz5
 clear hz4
 have hown3:Owns z3 TUw 1 qa n qc (us ws):=(Owns.new hn h.own).keep hk3 λk hk e=>by
  obtain ⟨_,cs',hcs⟩:=hpa k e
  obtain ⟨cs2,hcs2⟩:=dU h.own hk
  exact hcs.ne hcs2 (by decide) rfl
 refine vN (Owns.new hn4 hown3) (l2:=[y]) (m:=1) (eQ hz5 rfl) rfl (by omega) λbp bc z5 h6 hk6 hbp=>?_
 have hs3:=hn3.size
 have hbpf:∀ k,isB bp k→u1.heap.size≤k:=λk hk=>by
  rcases hbp k hk with e | e
  ·exact h.qf k e
  ·have:=hn4.size;omega
 have hnw:∀ x' ∈ vs++[x],x'.words=[]:=λx' hx'=>by
  rcases List.mem_append.1 hx' with e | e
  ·exact h.nw x' e
  ·simp at e;subst e;exact hxw
 have hqb:∀ k,isB qa k→∃ cs,Blk z4 k cs TUw:=λk hk=>dU (Owns.new hn4 hown3) hk
 refine hN ap cap' z3 b3 z4 bp bc z5 ⟨(hc3.new' hn4).keep hk6 λk hk=>?_,(hn3.new hn4).trans hk6 λk hlt e=>by have:=h.qf k e;omega,(h3.new hn4).keep_nw hnw hk6 λk hk e=>?_,hnw,h6,hbpf,by rw [List.length_append,h.wl];rfl⟩
 ·obtain ⟨cs',hcs⟩:=hqb k hk
  refine ⟨by have:=h.qf k hk;omega,λe=>?_⟩
  exact (e▸hcs).ne (hc3.new' hn4).blk (by decide) rfl
 ·obtain ⟨cs',hcs⟩:=hqb k e
  obtain ⟨raws,ho,_⟩:=(h3.new hn4).ex
  obtain ⟨cs2,hcs2⟩:=dU ho hk
  exact hcs.ne hcs2 (by decide) rfl
end Go.Proofs.YtgpmeaicjonenaaGreat
