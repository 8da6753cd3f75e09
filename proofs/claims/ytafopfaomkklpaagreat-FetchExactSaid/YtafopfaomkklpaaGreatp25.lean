/- A part of the proof. -/
import Derived.Test.YtafopfaomkklpaaGreatProg
import Derived.Test.YtafopfaomkklpaaGreatp03
import Derived.Test.YtafopfaomkklpaaGreatp06
set_option linter.unusedVariables false
namespace Go.Proofs.YtafopfaomkklpaaGreat
open Go.Proofs.Tryz
open Go.Eng IntKind
variable (w:World) (R:Value→World→Prop)
def ee (s2 s4 s5 s6:Addr) (s7:Int) (j:LV):LV:=[jg j 0,jg j 1,(.pointer (some s2)),jg j 2,(.pointer (some s4)),(.pointer (some s5)),(.pointer (some s6)),(.int .i64 s7),jg j 3,jg j 4,jg j 5,jg j 6,jg j 7,jg j 8,jg j 9,jg j 10,jg j 11,jg j 12,jg j 13,jg j 14,jg j 15,jg j 16,jg j 17,jg j 18,jg j 19,jg j 20,jg j 21,jg j 22,jg j 23,jg j 24,jg j 25,jg j 26,jg j 27,jg j 28,jg j 29,jg j 30,jg j 31,jg j 32,jg j 33,jg j 34,jg j 35,jg j 36,jg j 37,jg j 38,jg j 39,jg j 40,jg j 41,jg j 42,jg j 43,jg j 44,jg j 45,jg j 46,jg j 47,jg j 48,jg j 49,jg j 50,jg j 51,jg j 52,jg j 53,jg j 54,jg j 55,jg j 56,jg j 57,jg j 58,jg j 59,jg j 60,jg j 61,jg j 62,jg j 63,jg j 64,jg j 65,jg j 66,jg j 67,jg j 68,jg j 69,jg j 70,jg j 71,jg j 72,jg j 73,jg j 74,jg j 75,jg j 76,jg j 77,jg j 78,jg j 79,jg j 80,jg j 81,jg j 82,jg j 83,jg j 84,jg j 85,jg j 86,jg j 87,jg j 88,jg j 89,jg j 90,jg j 91,jg j 92,jg j 93,jg j 94,jg j 95,jg j 96,jg j 97]
def mc (a b c d:Addr) (j:LV):LV:=jq j 0 2 (.pointer (some a)::jq j 2 1 (.pointer (some b)::.pointer (some c)::.pointer (some d)::jq j 3 96 []))
def eG (s2 s4 s5 s6:Addr) (s8:Int) (j:LV):LV:=jq j 0 2 (.pointer (some s2)::jq j 2 1 (.pointer (some s4)::.pointer (some s5)::.pointer (some s6)::jq j 3 1 (.int .i64 s8::jq j 4 94 [])))
def md (a b c:Addr) (j:LV):LV:=jq j 0 2 (.pointer (some a)::jq j 2 1 (.pointer (some b)::.pointer (some c)::jq j 3 97 []))
theorem sT (p0:aX) (p1:Int):fnW prog f17 [p0.val,.int .i64 p1] R w=(∀ b1 w1,b1=w.heap.size→w1=w.alloc (.cells p0.cells.toArray 58)→∀ b2 w2,b2=w1.heap.size→w2=w1.alloc (.cells #[.int .i64 0,.int .i64 0,.slice none 0 0,.slice none 0 0] 60)→∃ a,w2.cell? ⟨b1,0,none⟩=some (.int .i64 a)∧Calls prog 22 #[.int .i64 a] w2 λe w3=>∃ (b:Int),e=.returned (.int .i64 b)∧Calls prog 57 #[.int .i64 p1] w3 λe w4=>aF.ex λg=>e=.returned g.val∧∀ b3 w5,b3=w4.heap.size→w5=w4.alloc (.cells #[.int .i64 0,.int .i64 0,.slice none 0 0,.slice none 0 0] 60)→wrAt w5 ⟨b3,0,none⟩ 0 [.int .i64 b,.int .i64 g.Number,.slice g.Members g.Members_l g.Members_c,.slice none 0 0]∧∀ w6,w6=puts w5 ⟨b3,0,none⟩ 0 [.int .i64 b,.int .i64 g.Number,.slice g.Members g.Members_l g.Members_c,.slice none 0 0]→∃ c,w6.cell? ⟨b1,1,none⟩=some (.int .i64 c)∧Calls prog 6 #[.int .i64 c,.int .i64 3] w6 λe w7=>∃ (d:Int),e=.returned (.int .i64 d)∧(bif (decide ((d:Int)>0)) then (∃ f,w7.cell? ⟨b1,1,none⟩=some (.int .i64 f)∧Calls prog 58 #[.int .i64 0,.int .i64 f,.int .i64 31,.slice none 0 0,.int .i64 p1] w7 λe w8=>aF.ex λh=>e=.returned h.val∧wrAt w8 ⟨b3,1,none⟩ 0 h.cells∧∀ w9,w9=puts w8 ⟨b3,1,none⟩ 0 h.cells→∀ b4 i,b4=w9.heap.size→i=w9.alloc (.cells #[.bool false,.bool false,.bool false,.bool false,.bool false,.bool false,.bool false,.bool false,.bool false,.bool false,.bool false,.bool false,.bool false,.bool false,.bool false,.bool false] 130)→bW prog (.loop (sub (aA f17) [1,1,1,1,0,1,0,0])) (ee ⟨b1,0,none⟩ ⟨b2,0,none⟩ ⟨b3,0,none⟩ ⟨b4,0,none⟩ 0 (p0.val::ji p1::uq 3 (jp ⟨b1,0,none⟩::ji a::ji b::ji p1::g.val::.agg #[.int .i64 b,.int .i64 g.Number,.slice g.Members g.Members_l g.Members_c,.slice none 0 0]::jp ⟨b1,1,none⟩::ji c::ji d::jb (decide ((d:Int)>0))::jp ⟨b1,1,none⟩::ji f::ji p1::h.val::jp ⟨b3,1,none⟩::uq 78 []))) (aK 0 (nx f17 [1,1,1,1,1] R)) i) else (∀ b5 k,b5=w7.heap.size→k=w7.alloc (.cells #[.bool false,.bool false,.bool false,.bool false,.bool false,.bool false,.bool false,.bool false,.bool false,.bool false,.bool false,.bool false,.bool false,.bool false,.bool false,.bool false] 130)→bW prog (.loop (sub (aA f17) [1,1,1,1,0,1,0,0])) (ee ⟨b1,0,none⟩ ⟨b2,0,none⟩ ⟨b3,0,none⟩ ⟨b5,0,none⟩ 0 (p0.val::ji p1::uq 3 (jp ⟨b1,0,none⟩::ji a::ji b::ji p1::g.val::.agg #[.int .i64 b,.int .i64 g.Number,.slice g.Members g.Members_l g.Members_c,.slice none 0 0]::jp ⟨b1,1,none⟩::ji c::ji d::jb (decide ((d:Int)>0))::uq 83 []))) (aK 0 (nx f17 [1,1,1,1,1] R)) k))):=by kernel_rfl
theorem nK (s2 s4 s5 s6:Addr) (s7:Int) (j:LV) (N1:LV→World→Prop):W prog (sub (aA f17) [1,1,1,1,0,1,0,0]) (ee s2 s4 s5 s6 s7 j) (seqQ N1 (aK 0 (nx f17 [1,1,1,1,1] R))) w=(∃ a b c,w.cell? ⟨s2.block,s2.off+4,none⟩=some (.slice a b c)∧(bif (decide ((s7:Int)<(b:Nat))) then (∀ w1,w1=w.drew→∃ Sx:World→Prop,Sx w1∧∃ d f g,(∀ u,Sx u→u.cell? ⟨s2.block,s2.off+4,none⟩=some (.slice d f g))∧idxS d f s7 1 λad=>∃ x,(∀ u,Sx u→u.cell? ad=some (.int .i64 x))∧∃ h,(∀ u,Sx u→u.cell? s5=some (.int .i64 h))∧Calls prog 6 #[.int .i64 x,.int .i64 (i64.wrap (h - 96))] w1 λe w2=>∃ i,e=.returned (.int .i64 i)∧Sx w2∧idxA s6 16 i 1 λk=>(∃ u,w2.cell? k=some u)∧w2.frozen? k=false∧∀ w3,w3=w2.setCell k (.bool true)→N1 (ee s2 s4 s5 s6 (i64.wrap (s7+1)) (jq j 0 20 (ji s7::jf s2 4::js a b c::jn b::jb (decide ((s7:Int)<(b:Nat)))::ji s7::ji (i64.wrap (s7+1))::jf s2 4::js d f g::ji s7::jp ad::ji x::jp s5::ji h::ji (i64.wrap (h - 96))::ji i::jp k::jq j 37 61 []))) w3) else (W prog (sub (aA f17) [1,1,1,1,1]) (mc s2 s4 s5 s6 (jg j 0::jg j 1::jg j 2::ji s7::jq j 3 17 (ji s7::jf s2 4::js a b c::jn b::jb (decide ((s7:Int)<(b:Nat)))::jq j 25 73 []))) (retQ prog f17 R) w))):=by kernel_rfl
theorem pC (a b c d:Addr) (j:LV):W prog (sub (aA f17) [1,1,1,1,1]) (mc a b c d j) (retQ prog f17 R) w=(bW prog (.loop (sub (aA f17) [1,1,1,1,1,0,1,0,0])) (eG a b c d 0 (jq j 0 4 (jq j 5 94 []))) (aK 2 (nx f17 [1,1,1,1,1,1] R)) w):=by kernel_rfl
theorem nL (s2 s4 s5 s6:Addr) (s8:Int) (j:LV) (N2:LV→World→Prop):W prog (sub (aA f17) [1,1,1,1,1,0,1,0,0]) (eG s2 s4 s5 s6 s8 j) (seqQ N2 (aK 2 (nx f17 [1,1,1,1,1,1] R))) w=((bif (decide ((s8:Int)<16)) then (idxA s6 16 s8 1 λad=>∃ x,w.cell? ad=some (.bool x)∧(bif x then (∃ a b c,w.cell? ⟨s5.block,s5.off+3,none⟩=some (.slice a b c)∧∀ b1 w1,b1=w.heap.size→w1=w.alloc (.cells #[.int .i64 (i64.wrap (96+s8))] 3)→∃ ap d f,∃ w2,(Builtin.append_ #[33,33] 33 #[.slice a b c,.slice (some ⟨b1,0,none⟩) 1 1]).run prog w1=.ok (.slice ap d f) w2∧(∃ u,w2.cell? ⟨s5.block,s5.off+3,none⟩=some u)∧w2.frozen? ⟨s5.block,s5.off+3,none⟩=false∧∀ w3,w3=w2.setCell ⟨s5.block,s5.off+3,none⟩ (.slice ap d f)→N2 (eG s2 s4 s5 s6 (i64.wrap (s8+1)) (jq j 0 37 (ji s8::jb (decide ((s8:Int)<16))::ji s8::ji (i64.wrap (s8+1))::ji s8::jp ad::jb x::jf s5 3::js a b c::ji s8::ji (i64.wrap (96+s8))::js (some ⟨b1,0,none⟩) 1 1::js ap d f::jf s5 3::jq j 51 47 []))) w3) else (N2 (eG s2 s4 s5 s6 (i64.wrap (s8+1)) (jq j 0 37 (ji s8::jb (decide ((s8:Int)<16))::ji s8::ji (i64.wrap (s8+1))::ji s8::jp ad::jb x::jq j 44 54 []))) w))) else (W prog (sub (aA f17) [1,1,1,1,1,1]) (md s2 s4 s5 (jg j 0::jg j 1::jg j 2::jp s6::jg j 3::ji s8::jq j 4 33 (ji s8::jb (decide ((s8:Int)<16))::jq j 39 59 []))) (retQ prog f17 R) w))):=by kernel_rfl
theorem pD (a b c:Addr) (j:LV):W prog (sub (aA f17) [1,1,1,1,1,1]) (md a b c j) (retQ prog f17 R) w=(∃ At,w.cell? ⟨a.block,a.off+3,none⟩=some (.int .i64 At)∧∃ d f g,w.cell? ⟨c.block,c.off+3,none⟩=some (.slice d f g)∧Calls prog 6 #[.int .i64 At,.int .i64 (if (1:Int)<(f:Nat) then ((f:Nat):Int) else 1)] w λe w1=>∃ (h:Int),e=.returned (.int .i64 h)∧∃ i,w1.cell? ⟨a.block,a.off+2,none⟩=some (.int .i64 i)∧Calls prog 6 #[.int .i64 i,.int .i64 12] w1 λe w2=>∃ (k:Int),e=.returned (.int .i64 k)∧(bif ((k:Int) == 0) then (∃ l,w2.cell? ⟨a.block,a.off+3,none⟩=some (.int .i64 l)∧Calls prog 6 #[.int .i64 l,.int .i64 300] w2 λe w3=>∃ (m:Int),e=.returned (.int .i64 m)∧(∃ u,w3.cell? c=some u)∧w3.frozen? c=false∧∀ w4,w4=w3.setCell c (.int .i64 m)→aN.ex λr=>aE w4 c 0 r.cells∧wrAt w4 b 0 r.cells∧∀ w5,w5=puts w4 b 0 r.cells→aN.ex λai=>aE w5 b 0 ai.cells∧w5=w5∧R ai.val w5) else ((bif ((k:Int) == 1) then (∃ n o p,w2.cell? ⟨c.block,c.off+1+1,none⟩=some (.slice n o p)∧sl3 n o p 1 (o:Nat) (p:Nat) 3 λxa xl xc=>∃ (ap:Option Addr) (q s:Nat),∃ w6,(Builtin.append_ #[29,29] 29 #[.slice none 0 0,.slice xa xl xc]).run prog w2=.ok (.slice ap q s) w6∧(∃ u,w6.cell? ⟨c.block,c.off+1+1,none⟩=some u)∧w6.frozen? ⟨c.block,c.off+1+1,none⟩=false∧∀ w7,w7=w6.setCell ⟨c.block,c.off+1+1,none⟩ (.slice ap q s)→aN.ex λr1=>aE w7 c 0 r1.cells∧wrAt w7 b 0 r1.cells∧∀ w8,w8=puts w7 b 0 r1.cells→aN.ex λaj=>aE w8 b 0 aj.cells∧w8=w8∧R aj.val w8) else ((bif ((k:Int) == 2) then (∃ t v y,w2.cell? ⟨c.block,c.off+3,none⟩=some (.slice t v y)∧(bif (decide (((v:Nat):Int)>0)) then (∀ w9,w9=w2.drew→∃ Sx:World→Prop,Sx w9∧∃ z aa ab,(∀ u,Sx u→u.cell? ⟨c.block,c.off+3,none⟩=some (.slice z aa ab))∧∃ ac ae af,(∀ u,Sx u→u.cell? ⟨c.block,c.off+3,none⟩=some (.slice ac ae af))∧idxS ac ae h 1 λad=>∃ x,(∀ u,Sx u→u.cell? ad=some (.int .i64 x))∧∃ ag,(∀ u,Sx u→u.cell? ⟨a.block,a.off+3,none⟩=some (.int .i64 ag))∧Calls prog 6 #[.int .i64 (i64.wrap (Int.tdiv ag 16)),.int .i64 9] w9 λe ak=>∃ (ah:Int),e=.returned (.int .i64 ah)∧Sx ak∧idxS z aa h 1 λal=>(∃ u,ak.cell? al=some u)∧ak.frozen? al=false∧∀ am,am=ak.setCell al (.int .i64 (i64.wrap ((i64.wrap (x+ah)) - 4)))→aN.ex λr2=>aE am c 0 r2.cells∧wrAt am b 0 r2.cells∧∀ an,an=puts am b 0 r2.cells→aN.ex λao=>aE an b 0 ao.cells∧an=an∧R ao.val an) else (aN.ex λr3=>aE w2 c 0 r3.cells∧wrAt w2 b 0 r3.cells∧∀ aq,aq=puts w2 b 0 r3.cells→aN.ex λar=>aE aq b 0 ar.cells∧aq=aq∧R ar.val aq))) else (aN.ex λr4=>aE w2 c 0 r4.cells∧wrAt w2 b 0 r4.cells∧∀ au,au=puts w2 b 0 r4.cells→aN.ex λav=>aE au b 0 av.cells∧au=au∧R av.val au))))))):=by kernel_rfl
def iK (s1:Addr) (a:Option Addr) (b c:Nat) (d f:Int) (j:LV):LV:=jq j 0 1 (.pointer (some s1)::jq j 1 27 (.slice a b c::.int .i64 d::.int .i64 f::jq j 28 30 []))
def pm (a:Addr) (j:LV):LV:=jq j 0 1 (.pointer (some a)::jq j 1 60 [])
def gJ (s1:Addr) (a:Option Addr) (b c:Nat) (d f:Int) (j:LV):LV:=jq j 0 1 (.pointer (some s1)::jq j 1 40 (.slice a b c::.int .i64 d::.int .i64 f::jq j 41 17 []))
def po  (j:LV):LV:=jq j 0 62 []
theorem uu (p0:aN):fnW prog f59 [p0.val] R w=(∀ b1 w1,b1=w.heap.size→w1=w.alloc (.cells p0.cells.toArray 60)→aF.ex λl=>aE w1 ⟨b1,1,none⟩ 0 l.cells∧Calls prog 99 #[l.val,.int .i64 5] w1 λe w2=>∃ a,e=.returned (.int .i64 a)∧(bif ((a:Int) != 0) then (R (.int .i64 a) w2) else (∃ b,w2.cell? ⟨b1,0,none⟩=some (.int .i64 b)∧(bif (decide ((b:Int)<98)) then (R (.int .i64 18) w2) else (∃ c,w2.cell? ⟨b1,0,none⟩=some (.int .i64 c)∧(bif (decide ((c:Int)>256)) then (R (.int .i64 18) w2) else (∃ d f g,w2.cell? ⟨b1,3,none⟩=some (.slice d f g)∧(bif (decide (((f:Nat):Int)>1024)) then (R (.int .i64 18) w2) else (∃ h i k,w2.cell? ⟨b1,3,none⟩=some (.slice h i k)∧bW prog (.loop (sub (aA f59) [1,1,1,0,1,0,0])) (iK ⟨b1,0,none⟩ h i k (i:Nat) 0 (p0.val::ji 0::ji a::uq 4 (jp ⟨b1,1,none⟩::l.val::ji a::ji a::jb ((a:Int) != 0)::undef::jp ⟨b1,0,none⟩::ji b::jb (decide ((b:Int)<98))::jb false::jp ⟨b1,0,none⟩::ji c::jb (decide ((c:Int)>256))::jb (decide ((c:Int)>256))::jb false::jp ⟨b1,3,none⟩::js d f g::jn f::jb (decide (((f:Nat):Int)>1024))::jb (decide (((f:Nat):Int)>1024))::jp ⟨b1,3,none⟩::uq 30 []))) (aK 0 (nx f59 [1,1,1,1] R)) w2))))))))):=by kernel_rfl
theorem pE (s1:Addr) (a:Option Addr) (b c:Nat) (d f:Int) (j:LV) (N1:LV→World→Prop):W prog (sub (aA f59) [1,1,1,0,1,0,0]) (iK s1 a b c d f j) (seqQ N1 (aK 0 (nx f59 [1,1,1,1] R))) w=((bif (decide ((f:Int)<d)) then (idxS a b f 1 λad=>∃ x,w.cell? ad=some (.int .i64 x)∧∃ g,w.cell? s1=some (.int .i64 g)∧Calls prog 107 #[.int .i64 x,.int .i64 g] w λe w1=>∃ h,e=.returned (.bool h)∧(bif (!h) then (R (.int .i64 2) w1) else (N1 (iK s1 a b c d (i64.wrap (f+1)) (jq j 0 4 (ji x::jq j 5 23 (jb (decide ((f:Int)<d))::jp ad::ji x::ji x::jp s1::ji g::jb h::jb (!h)::ji (i64.wrap (f+1))::jq j 37 21 [])))) w1))) else (W prog (sub (aA f59) [1,1,1,1]) (pm s1 (jq j 0 28 (js a b c::ji d::ji f::jb (decide ((f:Int)<d))::jq j 29 29 []))) (retQ prog f59 R) w))):=by kernel_rfl
theorem rq (a:Addr) (j:LV):W prog (sub (aA f59) [1,1,1,1]) (pm a j) (retQ prog f59 R) w=(∃ b c d,w.cell? ⟨a.block,a.off+3,none⟩=some (.slice b c d)∧bW prog (.loop (sub (aA f59) [1,1,1,1,0,1,0,0])) (gJ a b c d (c:Nat) 0 (jq j 0 40 (jf a 3::jq j 44 17 []))) (aK 2 (nx f59 [1,1,1,1,1] R)) w):=by kernel_rfl
theorem pF (s1:Addr) (a:Option Addr) (b c:Nat) (d f:Int) (j:LV) (N2:LV→World→Prop):W prog (sub (aA f59) [1,1,1,1,0,1,0,0]) (gJ s1 a b c d f j) (seqQ N2 (aK 2 (nx f59 [1,1,1,1,1] R))) w=((bif (decide ((f:Int)<d)) then (idxS a b f 1 λad=>∃ x,w.cell? ad=some (.int .i64 x)∧(bif (decide ((f:Int)>0)) then (∃ g h i,w.cell? ⟨s1.block,s1.off+3,none⟩=some (.slice g h i)∧idxS g h (i64.wrap (f - 1)) 1 λk=>∃ x1,w.cell? k=some (.int .i64 x1)∧(bif (decide ((x:Int)≤x1)) then (R (.int .i64 1) w) else (N2 (gJ s1 a b c d (i64.wrap (f+1)) (jq j 0 5 (ji f::ji x::jq j 7 34 [jb (decide ((f:Int)<d)),ji f,jp ad,ji x,ji f,jb (decide ((f:Int)>0)),jb true,ji x,jf s1 3,js g h i,ji f,ji (i64.wrap (f - 1)),jp k,ji x1,jb (decide ((x:Int)≤x1)),jb (decide ((x:Int)≤x1)),ji (i64.wrap (f+1))]))) w))) else (N2 (gJ s1 a b c d (i64.wrap (f+1)) (jq j 0 5 (ji f::ji x::jq j 7 34 (jb (decide ((f:Int)<d))::ji f::jp ad::ji x::ji f::jb (decide ((f:Int)>0))::jb false::uq 8 [jb false,ji (i64.wrap (f+1))])))) w))) else (W prog (sub (aA f59) [1,1,1,1,1]) (po  (jg j 0::jp s1::jq j 1 40 (js a b c::ji d::ji f::jb (decide ((f:Int)<d))::jq j 42 16 []))) (retQ prog f59 R) w))):=by kernel_rfl
theorem rt  (j:LV):W prog (sub (aA f59) [1,1,1,1,1]) (po  j) (retQ prog f59 R) w=(R (.int .i64 0) w):=by kernel_rfl
def dT (s0:Int) (s2:Option Addr) (a b:Nat) (s8:Int) (j:LV):LV:=.int .i64 s0::jq j 0 1 (.slice s2 a b::jq j 1 5 (.int .i64 s8::jq j 6 46 []))
def iu (s2:Option Addr) (a b:Nat) (j:LV):LV:=jq j 0 2 (.slice s2 a b::jq j 2 52 [])
def dU (s2:Option Addr) (a b:Nat) (s9:Int) (j:LV):LV:=jq j 0 2 (.slice s2 a b::jq j 2 6 (.int .i64 s9::jq j 8 45 []))
def iv  (j:LV):LV:=jq j 0 55 []
theorem om (p0:Int) (p1:aF) (p2:Option Addr) (a b:Nat):fnW prog f64 [.int .i64 p0,p1.val,.slice p2 a b] R w=(∀ b1 w1,b1=w.heap.size→w1=w.alloc (.cells p1.cells.toArray 31)→aF.ex λr=>aE w1 ⟨b1,0,none⟩ 0 r.cells∧Calls prog 103 #[r.val,.int .i64 5] w1 λe w2=>∃ c,e=.returned (.int .i64 c)∧(bif ((c:Int) != 0) then (R (.int .i64 c) w2) else ((bif (decide ((p0:Int)<98)) then (R (.int .i64 18) w2) else ((bif (decide ((p0:Int)>256)) then (R (.int .i64 18) w2) else ((bif (decide (((a:Nat):Int)>1024)) then (R (.int .i64 18) w2) else (bW prog (.loop (sub (aA f64) [1,1,1,0,1,0,0])) (dT p0 p2 a b 0 (p1.val::undef::jp ⟨b1,0,none⟩::undef::ji 0::ji c::undef::r.val::ji c::ji c::jb ((c:Int) != 0)::undef::ji p0::jb (decide ((p0:Int)<98))::jb false::ji p0::jb (decide ((p0:Int)>256))::jb (decide ((p0:Int)>256))::jb false::js p2 a b::jn a::jb (decide (((a:Nat):Int)>1024))::jb (decide (((a:Nat):Int)>1024))::uq 29 [])) (aK 0 (nx f64 [1,1,1,1] R)) w2))))))))):=by kernel_rfl
theorem jE (s0:Int) (s2:Option Addr) (a b:Nat) (s8:Int) (j:LV) (N1:LV→World→Prop):W prog (sub (aA f64) [1,1,1,0,1,0,0]) (dT s0 s2 a b s8 j) (seqQ N1 (aK 0 (nx f64 [1,1,1,1] R))) w=((bif (decide ((s8:Int)<(a:Nat))) then (idxS s2 a s8 1 λad=>∃ x,w.cell? ad=some (.int .i64 x)∧Calls prog 109 #[.int .i64 x,.int .i64 s0] w λe w1=>∃ c,e=.returned (.bool c)∧(bif (!c) then (R (.int .i64 2) w1) else (N1 (dT s0 s2 a b (i64.wrap (s8+1)) (jq j 0 23 (ji s8::js s2 a b::jn a::jb (decide ((s8:Int)<(a:Nat)))::ji s8::ji (i64.wrap (s8+1))::js s2 a b::ji s8::jp ad::ji x::ji s0::jb c::jb (!c)::jq j 36 16 []))) w1))) else (W prog (sub (aA f64) [1,1,1,1]) (iu s2 a b (ji s0::jq j 0 6 (ji s8::jq j 6 17 (ji s8::js s2 a b::jn a::jb (decide ((s8:Int)<(a:Nat)))::jq j 27 25 [])))) (retQ prog f64 R) w))):=by kernel_rfl
theorem kX (s2:Option Addr) (a b:Nat) (j:LV):W prog (sub (aA f64) [1,1,1,1]) (iu s2 a b j) (retQ prog f64 R) w=(bW prog (.loop (sub (aA f64) [1,1,1,1,0,1,0,0])) (dU s2 a b 1 (jq j 0 8 (jq j 9 45 []))) (aK 2 (nx f64 [1,1,1,1,1] R)) w):=by kernel_rfl
theorem jF (s2:Option Addr) (a b:Nat) (s9:Int) (j:LV) (N2:LV→World→Prop):W prog (sub (aA f64) [1,1,1,1,0,1,0,0]) (dU s2 a b s9 j) (seqQ N2 (aK 2 (nx f64 [1,1,1,1,1] R))) w=((bif (decide ((s9:Int)<(a:Nat))) then (∀ w1,w1=w.drew→∃ Sx:World→Prop,Sx w1∧idxS s2 a (i64.wrap (s9 - 1)) 1 λad=>∃ x,(∀ u,Sx u→u.cell? ad=some (.int .i64 x))∧idxS s2 a s9 1 λc=>∃ x1,(∀ u,Sx u→u.cell? c=some (.int .i64 x1))∧(bif (decide ((x:Int)≥x1)) then (R (.int .i64 1) w1) else (N2 (dU s2 a b (i64.wrap (s9+1)) (jq j 0 37 [ji s9,js s2 a b,jn a,jb (decide ((s9:Int)<(a:Nat))),ji s9,ji (i64.wrap (s9+1)),js s2 a b,ji s9,ji (i64.wrap (s9 - 1)),jp ad,ji x,js s2 a b,ji s9,jp c,ji x1,jb (decide ((x:Int)≥x1))])) w1))) else (W prog (sub (aA f64) [1,1,1,1,1]) (iv  (jg j 0::jg j 1::js s2 a b::jq j 2 6 (ji s9::jq j 8 29 (ji s9::js s2 a b::jn a::jb (decide ((s9:Int)<(a:Nat)))::jq j 41 12 [])))) (retQ prog f64 R) w))):=by kernel_rfl
theorem kY  (j:LV):W prog (sub (aA f64) [1,1,1,1,1]) (iv  j) (retQ prog f64 R) w=(R (.int .i64 0) w):=by kernel_rfl
end Go.Proofs.YtafopfaomkklpaaGreat
namespace Go.Proofs.YtafopfaomkklpaaGreat
open Go.Eng
structure FJob where
 total:Int
 v:Vw
 lines:List Int
structure jP (w:World) (r:aN) (j:FJob):Prop where
 total:r.Total=j.total
 view:∃ M,gO M w r.View j.v
 rd:Rd w r.Lines (is j.lines)
 len:r.Lines_l=j.lines.length
 few:j.lines.length≤100000
theorem jP.new {w w':World} {r:aN} {j:FJob} (h:jP w r j) (hn:New w w'):jP w' r j:=⟨h.total,h.view.imp λ_ h=>h.new hn,h.rd.new hn,h.len,h.few⟩
def asc (l:List Int) (i:Nat):Bool:=decide (i=0) || decide (l.getD (i - 1) 0<l.getD i 0)
def FJob.valid (j:FJob):Int:=
 if j.v.valid 5≠0 then j.v.valid 5 else if j.total<98∨256<j.total∨1024<j.lines.length then 18
 else if j.lines.all (pT · j.total)=false then 2 else if (List.range j.lines.length).all (asc j.lines)=false then 1 else 0
theorem Cm {w:World} {r:aN} {j:FJob} (h:jP w r j):Does 59 [r.val] w λx w'=>x=.int .i64 j.valid∧New w w':=by
 refine does Tryz.func59 ?_
 rw [uu]
 rintro b1 w1 hb1 hw1
 obtain ⟨hz,hn⟩:=aR hb1 hw1
 have hz:Blk w1 b1 r.cells 60:=hz
 clear hw1
 have hlen:=h.len
 have htot:=h.total
 have hfew:=h.few
 obtain ⟨MM,hview⟩:=h.view
 refine aF.mk_ex r.View ⟨aH hz rfl,?_⟩
 refine aC (BV (hview.new hn) 5) ?_
 rintro x w2 ⟨rfl,hn2⟩
 have hz2:=New.blk hn2 hz
 have hn12:=hn.new hn2
 unfold FJob.valid
 refine ⟨_,rfl,bQ (λhv=>?_) (λhv=>?_)⟩
 ·rw [if_pos hv];exact ⟨rfl,hn12⟩
 rw [if_neg (by omega)]
 refine ⟨_,hz2.cell (i:=0) rfl,aD (λhp=>?_) (λhp=>⟨_,hz2.cell (i:=0) rfl,aD (λhp2=>?_) (λhp2=>⟨_,_,_,hz2.cell (i:=3) rfl,aD (λhp3=>?_) (λhp3=>⟨_,_,_,hz2.cell (i:=3) rfl,?_⟩)⟩)⟩)⟩
 ·rw [if_pos (by omega)];exact ⟨rfl,hn12⟩
 ·rw [if_pos (by omega)];exact ⟨rfl,hn12⟩
 ·rw [if_pos (by omega)];exact ⟨rfl,hn12⟩
 rw [if_neg (by omega)]
 refine aW mix (λm env u=>∃ (i:Nat) (jj:List Value),m=j.lines.length - i∧i≤j.lines.length∧env=iK ⟨b1,0,none⟩ r.Lines r.Lines_l r.Lines_c r.Lines_l i jj∧u=w2∧(j.lines.take i).all (pT · j.total)=true) j.lines.length
  ⟨0,_,by omega,by omega,rfl,rfl,rfl⟩ ?_
 rintro m env u ⟨i,jj,rfl,hi,rfl,rfl,hok⟩
 have hrd:=h.rd.new hn12
 rw [pE]
 refine aD (λhq=>?_) (λhq=>?_)
 ·have hlt:i<j.lines.length:=by omega
  have hg:j.lines[i]?=some j.lines[i]:=List.getElem?_eq_getElem hlt
  refine rd_i hrd hg rfl hlen λb o hc=>⟨_,hc _ (Keep.refl _ _),_,hz2.cell (i:=0) rfl,?_⟩
  refine aC (BX _ _ _) ?_
  rintro x w3 ⟨rfl,rfl⟩
  refine ⟨_,rfl,nj (λhf=>?_) (λht=>?_)⟩
  ·rw [if_pos (by
    rw [List.all_eq_false]
    exact ⟨_,List.getElem_mem hlt,by rw [←htot,hf];simp⟩)]
   exact ⟨rfl,hn12⟩
  ·rw [w64 (by omega) (by omega)]
   refine ⟨j.lines.length - (i+1),by omega,i+1,_,rfl,by omega,rfl,rfl,?_⟩
   rw [List.take_add_one,hg,List.all_append,hok]
   simp [←htot,ht]
 have ht:j.lines.take i=j.lines:=List.take_of_length_le (by omega)
 rw [ht] at hok
 rw [if_neg (by rw [hok];simp),rq]
 refine ⟨_,_,_,hz2.cell (i:=3) rfl,?_⟩
 refine aW mix (λm env z=>∃ (i:Nat) (jj:List Value),m=j.lines.length - i∧i≤j.lines.length∧env=gJ ⟨b1,0,none⟩ r.Lines r.Lines_l r.Lines_c r.Lines_l i jj∧z=u∧∀ k,k<i→asc j.lines k=true) j.lines.length
  ⟨0,_,by omega,by omega,rfl,rfl,λk hk=>by omega⟩ ?_
 clear hok hi hq ht
 rintro m env z ⟨i,jj,rfl,hi,rfl,rfl,hok⟩
 rw [pF]
 refine aD (λhq=>?_) (λhq=>?_)
 ·have hlt:i<j.lines.length:=by omega
  have hg:j.lines[i]?=some j.lines[i]:=List.getElem?_eq_getElem hlt
  have hgd:=lN (d:=0) hg
  have step:asc j.lines i=true→∀ k,k<i+1→asc j.lines k=true:=λha k hk=>by
   rcases Nat.lt_succ_iff_lt_or_eq.1 hk with hk | rfl
   ·exact hok k hk
   ·exact ha
  refine rd_i hrd hg rfl hlen λb o hc=>⟨_,hc _ (Keep.refl _ _),aD (λh0=>⟨_,_,_,hz2.cell (i:=3) rfl,?_⟩) (λh0=>?_)⟩
  ·have hg1:j.lines[i - 1]?=some j.lines[i - 1]:=List.getElem?_eq_getElem (by omega)
   have hgd1:=lN (d:=0) hg1
   refine rd_i hrd hg1 (by rw [w64 (by omega) (by omega)];omega) hlen λb' o' hc'=>⟨_,hc' _ (Keep.refl _ _),aD (λhp6=>?_) (λhp6=>?_)⟩
   ·rw [if_pos (kf hlt (by unfold asc;rw [hgd,hgd1];simp;omega))]
    exact ⟨rfl,hn12⟩
   ·rw [w64 (by omega) (by omega)]
    exact ⟨j.lines.length - (i+1),by omega,i+1,_,rfl,by omega,rfl,rfl,step (by unfold asc;rw [hgd,hgd1];simp;omega)⟩
  ·rw [w64 (by omega) (by omega)]
   exact ⟨j.lines.length - (i+1),by omega,i+1,_,rfl,by omega,rfl,rfl,step (by unfold asc;simp;omega)⟩
 ·rw [rt,if_neg (by
   rw [Bool.not_eq_false,List.all_eq_true]
   intro k hk
   exact hok k (by have:=List.mem_range.1 hk;omega))]
  exact ⟨rfl,hn12⟩
theorem vw {w:World} {r:aN} {j:FJob} (h:jP w r j):Does 64 [.int .i64 r.Total,r.View.val,.slice r.Lines r.Lines_l r.Lines_c] w λx w'=>x=.int .i64 j.valid∧New w w':=by
 refine does Tryz.func64 ?_
 rw [om]
 rintro b1 w1 hb1 hw1
 obtain ⟨hz,hn⟩:=aR hb1 hw1
 have hz:Blk w1 b1 r.View.cells TVw:=hz
 clear hw1
 have hlen:=h.len
 have htot:=h.total
 have hfew:=h.few
 obtain ⟨MM,hview⟩:=h.view
 refine aF.mk_ex r.View ⟨aH hz rfl,?_⟩
 refine aC (yK (hview.new hn) 5) ?_
 rintro x w2 ⟨rfl,hn2⟩
 have hn12:=hn.new hn2
 unfold FJob.valid
 refine ⟨_,rfl,bQ (λhv=>?_) (λhv=>?_)⟩
 ·rw [if_pos hv];exact ⟨rfl,hn12⟩
 rw [if_neg (by omega)]
 refine aD (λhp=>?_) (λhp=>aD (λhp2=>?_) (λhp2=>aD (λhp3=>?_) (λhp3=>?_)))
 ·rw [if_pos (by omega)];exact ⟨rfl,hn12⟩
 ·rw [if_pos (by omega)];exact ⟨rfl,hn12⟩
 ·rw [if_pos (by omega)];exact ⟨rfl,hn12⟩
 rw [if_neg (by omega)]
 refine aW mix (λm env u=>∃ (i:Nat) (jj:List Value),m=j.lines.length - i∧i≤j.lines.length∧env=dT r.Total r.Lines r.Lines_l r.Lines_c i jj∧u=w2∧(j.lines.take i).all (pT · j.total)=true) j.lines.length
  ⟨0,_,by omega,by omega,rfl,rfl,rfl⟩ ?_
 rintro m env u ⟨i,jj,rfl,hi,rfl,rfl,hok⟩
 have hrd:=h.rd.new hn12
 rw [jE]
 refine aD (λhq=>?_) (λhq=>?_)
 ·have hlt:i<j.lines.length:=by omega
  have hg:j.lines[i]?=some j.lines[i]:=List.getElem?_eq_getElem hlt
  refine rd_i hrd hg rfl hlen λb o hc=>⟨_,hc _ (Keep.refl _ _),?_⟩
  refine aC (wt _ _ _) ?_
  rintro x w3 ⟨rfl,rfl⟩
  refine ⟨_,rfl,nj (λhf=>?_) (λht=>?_)⟩
  ·rw [if_pos (by
    rw [List.all_eq_false]
    exact ⟨_,List.getElem_mem hlt,by rw [←htot,hf];simp⟩)]
   exact ⟨rfl,hn12⟩
  ·rw [w64 (by omega) (by omega)]
   refine ⟨j.lines.length - (i+1),by omega,i+1,_,rfl,by omega,rfl,rfl,?_⟩
   rw [List.take_add_one,hg,List.all_append,hok]
   simp [←htot,ht]
 have ht:j.lines.take i=j.lines:=List.take_of_length_le (by omega)
 rw [ht] at hok
 rw [if_neg (by rw [hok];simp),kX]
 refine aW mix (λm env z=>∃ (i:Nat) (jj:List Value),m=j.lines.length+1 - i∧1≤i∧env=dU r.Lines r.Lines_l r.Lines_c i jj∧New u z∧i≤j.lines.length+1∧∀ k,k<i→asc j.lines k=true) j.lines.length
  ⟨1,_,by omega,by omega,rfl,Keep.refl _ _,by omega,λk hk=>by unfold asc;simp;omega⟩ ?_
 clear hok hi hq ht
 rintro m env z ⟨i,jj,rfl,hi1,rfl,hnz,hi,hok⟩
 rw [jF]
 refine aD (λhq=>?_) (λhq=>?_)
 ·have hlt:i<j.lines.length:=by omega
  have hg:j.lines[i]?=some j.lines[i]:=List.getElem?_eq_getElem hlt
  have hgd:=lN (d:=0) hg
  have hg1:j.lines[i - 1]?=some j.lines[i - 1]:=List.getElem?_eq_getElem (by omega)
  have hgd1:=lN (d:=0) hg1
  rintro z1 hz1
  have hn3:New z z1:=by rw [hz1];exact aT _
  clear hz1
  have hrz:=(hrd.new hnz).new hn3
  refine ⟨λy=>New z1 y,Keep.refl _ _,?_⟩
  refine rd_i hrz hg1 (by rw [w64 (by omega) (by omega)];omega) hlen λb o hc=>⟨_,λy hy=>hc y hy,?_⟩
  refine rd_i hrz hg rfl hlen λb' o' hc'=>⟨_,λy hy=>hc' y hy,aD (λhp6=>?_) (λhp6=>?_)⟩
  ·rw [if_pos (kf hlt (by unfold asc;rw [hgd,hgd1];simp;omega))]
   exact ⟨rfl,hn12.new (hnz.new hn3)⟩
  ·rw [w64 (by omega) (by omega)]
   refine ⟨j.lines.length+1 - (i+1),by omega,i+1,_,rfl,by omega,rfl,hnz.new hn3,by omega,λk hk=>?_⟩
   rcases Nat.lt_succ_iff_lt_or_eq.1 hk with hk | rfl
   ·exact hok k hk
   ·unfold asc;rw [hgd,hgd1];simp;omega
 ·rw [kY,if_neg (by
   rw [Bool.not_eq_false,List.all_eq_true]
   intro k hk
   exact hok k (by have:=List.mem_range.1 hk;omega))]
  exact ⟨rfl,hn12.new hnz⟩
end Go.Proofs.YtafopfaomkklpaaGreat
