import Derived.Test.YtgpmeaicjonenaaGreatProg
import Derived.Test.YtgpmeaicjonenaaGreata03
import Derived.Test.YtgpmeaicjonenaaGreata33
import Derived.Test.YtgpmeaicjonenaaGreata16
set_option linter.unusedVariables false
namespace Go.Proofs.YtgpmeaicjonenaaGreat
open Go.Proofs.Tryz
open Go.Eng IntKind
variable (w:World) (R:Value→World→Prop)
def iA (s1:Option Addr) (a b:Nat) (s2 s5 s8:Addr) (c:Option Addr) (d f:Nat) (g:Option Addr) (h i:Nat) (k l:Int) (j:LV):LV:=[jg j 0,(.slice s1 a b),(.pointer (some s2)),jg j 1,jg j 2,(.pointer (some s5)),jg j 3,jg j 4,(.pointer (some s8)),jg j 5,(.slice c d f),jg j 6,jg j 7,jg j 8,jg j 9,jg j 10,jg j 11,jg j 12,jg j 13,jg j 14,jg j 15,jg j 16,jg j 17,jg j 18,jg j 19,jg j 20,jg j 21,jg j 22,jg j 23,jg j 24,jg j 25,jg j 26,jg j 27,jg j 28,jg j 29,jg j 30,(.slice g h i),(.int .i64 k),(.int .i64 l),jg j 31,jg j 32,jg j 33,jg j 34,jg j 35,jg j 36,jg j 37,jg j 38,jg j 39,jg j 40,jg j 41,jg j 42,jg j 43,jg j 44,jg j 45,jg j 46,jg j 47,jg j 48,jg j 49,jg j 50,jg j 51,jg j 52,jg j 53,jg j 54,jg j 55,jg j 56,jg j 57,jg j 58,jg j 59,jg j 60,jg j 61,jg j 62,jg j 63,jg j 64,jg j 65,jg j 66,jg j 67,jg j 68,jg j 69,jg j 70,jg j 71,jg j 72,jg j 73,jg j 74,jg j 75,jg j 76,jg j 77,jg j 78,jg j 79,jg j 80,jg j 81,jg j 82,jg j 83,jg j 84,jg j 85,jg j 86,jg j 87,jg j 88,jg j 89,jg j 90,jg j 91,jg j 92,jg j 93,jg j 94,jg j 95,jg j 96,jg j 97,jg j 98,jg j 99,jg j 100,jg j 101,jg j 102,jg j 103,jg j 104,jg j 105]
def nE (s1:Option Addr) (a b:Nat) (c d:Addr) (f:Option Addr) (g h:Nat) (j:LV):LV:=jq j 0 1 (.slice s1 a b::.pointer (some c)::jq j 1 2 (.pointer (some d)::jq j 3 4 (.slice f g h::jq j 7 103 [])))
def nF (a b:Addr) (c d:Option Addr) (f g:Nat) (h:Bool) (j:LV):LV:=jq j 0 2 (.pointer (some a)::jq j 2 2 (.pointer (some b)::jq j 4 8 (.pointer c::.slice d f g::.bool h::jq j 12 97 [])))
def iB (a b:Addr) (c:Option Addr) (d f:Nat) (g:Bool) (j:LV):LV:=jq j 0 2 (.pointer (some a)::jq j 2 2 (.pointer (some b)::jq j 4 9 (.slice c d f::jq j 13 59 (.bool g::jq j 72 38 []))))
def kK (a b:Addr) (c:Option Addr) (d f:Nat) (j:LV):LV:=jq j 0 2 (.pointer (some a)::jq j 2 2 (.pointer (some b)::jq j 4 9 (.slice c d f::jq j 13 98 [])))
def iC (s2 s5:Addr) (a:Option Addr) (b c:Nat) (d f:Int) (j:LV):LV:=jq j 0 2 (.pointer (some s2)::jq j 2 2 (.pointer (some s5)::jq j 4 77 (.slice a b c::.int .i64 d::.int .i64 f::jq j 81 28 [])))
def nG (a:Addr) (j:LV):LV:=jq j 0 5 (.pointer (some a)::jq j 5 108 [])
theorem uJ (p0:bN) (p1:Option Addr) (a b:Nat):fnW prog f124 [p0.val,.slice p1 a b] R w=(∀ b1 w1,b1=w.heap.size→w1=w.alloc (.cells p0.cells.toArray 86)→∀ b2 w2,b2=w1.heap.size→w2=w1.alloc (.cells #[.int .i64 0,.slice none 0 0] 218)→bN.ex λr=>aC w2 ⟨b1,0,none⟩ 0 r.cells∧Calls prog 161 #[r.val] w2 λe w3=>∃ c,e=.returned (.int .i64 c)∧(bif ((c:Int) != 0) then (wrAt w3 ⟨b2,0,none⟩ 0 [.int .i64 c,.slice none 0 0]∧∀ w4,w4=puts w3 ⟨b2,0,none⟩ 0 [.int .i64 c,.slice none 0 0]→aQ.ex λi=>aC w4 ⟨b2,0,none⟩ 0 i.cells∧w4=w4∧R (.tuple #[.slice none 0 0,i.val,.bool true]) w4) else (aM.ex λk=>aC w3 ⟨b1,1,none⟩ 0 k.cells∧Calls prog 135 #[k.val] w3 λe w5=>aE.ex λl=>∃ d,e=.returned (.tuple #[l.val,.bool d])∧∀ b3 w6,b3=w5.heap.size→w6=w5.alloc (.cells #[.int .i64 0,.int .i64 0,.bool false] 128)→wrAt w6 ⟨b3,0,none⟩ 0 l.cells∧∀ w7,w7=puts w6 ⟨b3,0,none⟩ 0 l.cells→∃ f g h,w7.cell? ⟨b1,3,none⟩=some (.slice f g h)∧cQ prog (.loop (sub (aD f124) [1,1,1,1,0,1,0,0])) (iA p1 a b ⟨b1,0,none⟩ ⟨b2,0,none⟩ ⟨b3,0,none⟩ none 0 0 f g h (g:Nat) 0 (p0.val::undef::jz::jb false::ji c::jb d::uq 12 (r.val::ji c::ji c::jb ((c:Int) != 0)::uq 2 (.tuple #[l.val,.bool d]::jp ⟨b1,1,none⟩::k.val::.tuple #[l.val,.bool d]::l.val::jb d::jp ⟨b1,3,none⟩::uq 75 [])))) (aK 0 (nx f124 [1,1,1,1,1] R)) w7))):=by kernel_rfl
theorem nH (s1:Option Addr) (a b:Nat) (s2 s5 s8:Addr) (c:Option Addr) (d f:Nat) (g:Option Addr) (h i:Nat) (k l:Int) (j:LV) (QX:Exit→LV→World→Prop):W prog (sub (aD f124) [1,1,1,1,0,1,0,0]) (iA s1 a b s2 s5 s8 c d f g h i k l j) (Qr prog f124 R QX) w=((bif (decide ((l:Int)<k)) then (idxS g h l 1 λad=>∃ x,w.cell? ad=some (.int .i64 x)∧Calls prog 116 #[.int .i64 x] w λe w1=>∃ (m:Int),e=.returned (.int .i64 m)∧∀ b1 w2,b1=w1.heap.size→w2=w1.alloc (.cells #[.int .i64 0,.int .i64 0,.int .i64 0,.int .i64 0,.int .u64 0,.int .u64 0,.slice none 0 0,.int .u64 0,.int .i64 0] 173)→wrAt w2 ⟨b1,0,none⟩ 0 [.int .i64 1,.int .i64 0,.int .i64 m,.int .i64 8,.int .u64 0,.int .u64 0,.slice none 0 0,.int .u64 0,.int .i64 0]∧∀ w3,w3=puts w2 ⟨b1,0,none⟩ 0 [.int .i64 1,.int .i64 0,.int .i64 m,.int .i64 8,.int .u64 0,.int .u64 0,.slice none 0 0,.int .u64 0,.int .i64 0]→aM.ex λp=>aC w3 ⟨s2.block,s2.off+1,none⟩ 0 p.cells∧aE.ex λr=>aC w3 s8 0 r.cells∧aJ.ex λr1=>aC w3 ⟨b1,0,none⟩ 0 r1.cells∧Calls prog 162 #[p.val,r.val,.bool true,r1.val] w3 λe w4=>aJ.ex λq=>e=.returned q.val∧∀ b2 w5,b2=w4.heap.size→w5=w4.alloc (.cells q.cells.toArray 173)→∃ (ap:Option Addr) (n o:Nat),∃ w6,(Builtin.append_ #[140,140] 140 #[.slice c d f,.slice (some ⟨b2,0,none⟩) 1 1]).run prog w5=.ok (.slice ap n o) w6∧QX .normal (iA s1 a b s2 s5 s8 ap n o g h i k (i64.wrap (l+1)) (jq j 0 7 (ji x::jp ⟨b1,0,none⟩::jq j 9 22 (jb (decide ((l:Int)<k))::jp ad::ji x::ji x::ji m::.agg #[.int .i64 1,.int .i64 0,.int .i64 m,.int .i64 8,.int .u64 0,.int .u64 0,.slice none 0 0,.int .u64 0,.int .i64 0]::js c d f::jf s2 1::p.val::r.val::r1.val::q.val::js (some ⟨b2,0,none⟩) 1 1::js ap n o::ji (i64.wrap (l+1))::jq j 46 60 [])))) w6) else (QX (.exit 0) (nE s1 a b s2 s5 c d f (jq j 0 5 (jp s8::jq j 5 26 (js g h i::ji k::ji l::jb (decide ((l:Int)<k))::jq j 32 74 [])))) w))):=by kernel_rfl
theorem p6 (s1:Option Addr) (a b:Nat) (c d:Addr) (f:Option Addr) (g h:Nat) (j:LV) (QX:Exit→LV→World→Prop):W prog (sub (aD f124) [1,1,1,1,1]) (nE s1 a b c d f g h j) (Qr prog f124 R QX) w=(Calls prog 125 #[.slice s1 a b] w λe w1=>∃ i,e=.returned (.pointer i)∧Calls prog 126 #[.pointer i,.slice f g h] w1 λe w2=>∃ k l m n,e=.returned (.tuple #[.slice k l m,.bool n])∧Calls prog 128 #[.pointer i] w2 λe w3=>∃ o p q r,e=.returned (.tuple #[.slice o p q,.bool r])∧(bif r then (wrAt w3 d 0 [.int .i64 0,.slice none 0 0]∧∀ w4,w4=puts w3 d 0 [.int .i64 0,.slice none 0 0]→aQ.ex λs=>aC w4 d 0 s.cells∧w4=w4∧R (.tuple #[.slice o p q,s.val,.bool false]) w4) else (W prog (sub (aD f124) [1,1,1,1,1,1,1,1]) (nF c d i k l m n (jg j 0::js s1 a b::jq j 1 6 (js f g h::jg j 7::jg j 8::jg j 9::js o p q::jb r::jq j 15 35 (js s1 a b::.pointer i::.tuple #[.slice k l m,.bool n]::.pointer i::js f g h::.tuple #[.slice k l m,.bool n]::js k l m::jb n::.tuple #[.slice o p q,.bool r]::.pointer i::.tuple #[.slice o p q,.bool r]::js o p q::jb r::jb r::jq j 64 46 [])))) (Qr prog f124 R QX) w3))):=by kernel_rfl
theorem nI (env:LV) (w:World) (Q:Exit→LV→World→Prop):W prog (sub (aD f124) [1,1,1,1,1,1,1,1]) env Q w=W prog (sub (aD f124) [1,1,1,1,1,1,1,1,0]) env (seqQ (λenv w=>W prog (sub (aD f124) [1,1,1,1,1,1,1,1,1]) env Q w) Q) w:=by
 rw [show sub (aD f124) [1,1,1,1,1,1,1,1]=.seq (sub (aD f124) [1,1,1,1,1,1,1,1,0]) (sub (aD f124) [1,1,1,1,1,1,1,1,1]) by kernel_rfl]
 generalize sub (aD f124) [1,1,1,1,1,1,1,1,0]=a
 generalize sub (aD f124) [1,1,1,1,1,1,1,1,1]=b
 kernel_rfl
theorem mG (env:LV) (w:World) (Q:Exit→LV→World→Prop):W prog (sub (aD f124) [1,1,1,1,1,1,1,1,0]) env Q w=W prog (sub (aD f124) [1,1,1,1,1,1,1,1,0,0]) env (seqQ (λenv w=>W prog (sub (aD f124) [1,1,1,1,1,1,1,1,0,1]) env Q w) Q) w:=by
 rw [show sub (aD f124) [1,1,1,1,1,1,1,1,0]=.seq (sub (aD f124) [1,1,1,1,1,1,1,1,0,0]) (sub (aD f124) [1,1,1,1,1,1,1,1,0,1]) by kernel_rfl]
 generalize sub (aD f124) [1,1,1,1,1,1,1,1,0,0]=a
 generalize sub (aD f124) [1,1,1,1,1,1,1,1,0,1]=b
 kernel_rfl
theorem p8 (a b:Addr) (c d:Option Addr) (f g:Nat) (h:Bool) (j:LV) (QX:Exit→LV→World→Prop):W prog (sub (aD f124) [1,1,1,1,1,1,1,1,0,0]) (nF a b c d f g h j) (Qr prog f124 R QX) w=((bif (!h) then (QX .normal (iB a b d f g true (jq j 0 12 (.pointer c::jb h::jq j 12 53 (jb h::jb (!h)::jb true::uq 2 (jq j 71 38 []))))) w) else (Calls prog 129 #[.pointer c] w λe w1=>∃ i,e=.returned (.bool i)∧QX .normal (iB a b d f g i (jq j 0 12 (.pointer c::jb h::jq j 12 53 (jb h::jb (!h)::jb false::.pointer c::jb i::jq j 71 38 [])))) w1))):=by kernel_rfl
theorem lh (a b:Addr) (c:Option Addr) (d f:Nat) (g:Bool) (j:LV) (QX:Exit→LV→World→Prop):W prog (sub (aD f124) [1,1,1,1,1,1,1,1,0,1]) (iB a b c d f g j) (Qr prog f124 R QX) w=((bif g then (wrAt w b 0 [.int .i64 6,.slice none 0 0]∧∀ w1,w1=puts w b 0 [.int .i64 6,.slice none 0 0]→aQ.ex λh=>aC w1 b 0 h.cells∧w1=w1∧R (.tuple #[.slice none 0 0,h.val,.bool true]) w1) else (QX .normal (kK a b c d f (jq j 0 72 (jb g::jq j 72 38 []))) w))):=by kernel_rfl
theorem p9 (a b:Addr) (c:Option Addr) (d f:Nat) (j:LV) (QX:Exit→LV→World→Prop):W prog (sub (aD f124) [1,1,1,1,1,1,1,1,1]) (kK a b c d f j) (Qr prog f124 R QX) w=(Calls prog 163 #[.slice c d f] w λe w1=>∃ g,e=.returned (.int .i64 g)∧(bif ((g:Int) != 0) then (wrAt w1 b 0 [.int .i64 g,.slice none 0 0]∧∀ w2,w2=puts w1 b 0 [.int .i64 g,.slice none 0 0]→aQ.ex λh=>aC w2 b 0 h.cells∧w2=w2∧R (.tuple #[.slice none 0 0,h.val,.bool true]) w2) else (cQ prog (.loop (sub (aD f124) [1,1,1,1,1,1,1,1,1,1,0,1,0,0])) (iC a b c d f (d:Nat) 0 (jq j 0 13 (js c d f::jg j 13::jg j 14::jg j 15::ji g::jq j 17 57 (js c d f::ji g::ji g::jb ((g:Int) != 0)::jg j 78::jg j 79::jq j 83 28 [])))) (aK 2 (seqQ (λenv w=>W prog (sub (aD f124) [1,1,1,1,1,1,1,1,1,1,1]) env (Qr prog f124 R QX) w) (Qr prog f124 R QX))) w1))):=by kernel_rfl
theorem nJ (s2 s5:Addr) (a:Option Addr) (b c:Nat) (d f:Int) (j:LV) (QX:Exit→LV→World→Prop):W prog (sub (aD f124) [1,1,1,1,1,1,1,1,1,1,0,1,0,0]) (iC s2 s5 a b c d f j) (Qr prog f124 R QX) w=((bif (decide ((f:Int)<d)) then (idxS a b f 2 λad=>aY.ex λr=>aC w ad 0 r.cells∧∀ b1 w1,b1=w.heap.size→w1=w.alloc (.cells #[.int .i64 0,.slice none 0 0] 146)→wrAt w1 ⟨b1,0,none⟩ 0 r.cells∧∀ w2,w2=puts w1 ⟨b1,0,none⟩ 0 r.cells→∀ w3,w3=w2.drew→∃ Sx:World→Prop,Sx w3∧∃ g h i,(∀ u,Sx u→u.cell? ⟨s2.block,s2.off+3,none⟩=some (.slice g h i))∧idxS g h f 1 λz=>∃ x,(∀ u,Sx u→u.cell? z=some (.int .i64 x))∧∃ k l m,(∀ u,Sx u→u.cell? ⟨b1,1,none⟩=some (.slice k l m))∧idxS k l 0 1 λaa=>∃ x1,(∀ u,Sx u→u.cell? aa=some (.int .u64 x1))∧∀ b2 w4,b2=w3.heap.size→w4=w3.alloc (.cells #[.int .i64 0,.int .u64 0,.int .u64 0,.int .u64 0,.int .u64 0,.int .u64 0,.int .u64 0,.int .u64 0,.int .u64 0] 73)→Sx w4∧wrAt w4 ⟨b2,0,none⟩ 0 [.int .i64 x,.int .u64 x1,.int .u64 0,.int .u64 0,.int .u64 0,.int .u64 0,.int .u64 0,.int .u64 0,.int .u64 0]∧∀ w5,w5=puts w4 ⟨b2,0,none⟩ 0 [.int .i64 x,.int .u64 x1,.int .u64 0,.int .u64 0,.int .u64 0,.int .u64 0,.int .u64 0,.int .u64 0,.int .u64 0]→∀ w6,w6=w5.drew→∃ Sx1:World→Prop,Sx1 w6∧∃ n o p,(∀ u,Sx1 u→u.cell? ⟨b1,1,none⟩=some (.slice n o p))∧sl3 n o p 1 (o:Nat) (p:Nat) 1 λxa xl xc=>∃ (r1:Int),∃ w7,(Builtin.copy_ #[106,106] 3 #[.slice (some ⟨b2,2,none⟩) 7 7,.slice xa xl xc]).run prog w6=.ok (.int .i64 r1) w7∧Sx1 w7∧∃ q s t,w7.cell? ⟨s5.block,s5.off+1,none⟩=some (.slice q s t)∧aG.ex λr2=>aC w7 ⟨b2,0,none⟩ 0 r2.cells∧∀ b3 w8,b3=w7.heap.size→w8=w7.alloc (.cells r2.cells.toArray 73)→∃ (ap:Option Addr) (v y:Nat),∃ w9,(Builtin.append_ #[37,37] 37 #[.slice q s t,.slice (some ⟨b3,0,none⟩) 1 1]).run prog w8=.ok (.slice ap v y) w9∧(∃ u,w9.cell? ⟨s5.block,s5.off+1,none⟩=some u)∧w9.frozen? ⟨s5.block,s5.off+1,none⟩=false∧∀ ab,ab=w9.setCell ⟨s5.block,s5.off+1,none⟩ (.slice ap v y)→QX .normal (iC s2 s5 a b c d (i64.wrap (f+1)) (jq j 0 18 (ji f::jp ⟨b1,0,none⟩::jp ⟨b2,0,none⟩::jq j 21 60 [jb (decide ((f:Int)<d)),ji f,jp ad,r.val,jf s2 3,js g h i,ji f,jp z,ji x,jp ⟨b1,1,none⟩,js k l m,jp aa,ju x1,.agg #[.int .i64 x,.int .u64 x1,.int .u64 0,.int .u64 0,.int .u64 0,.int .u64 0,.int .u64 0,.int .u64 0,.int .u64 0],jp ⟨b2,2,none⟩,js (some ⟨b2,2,none⟩) 7 7,jp ⟨b1,1,none⟩,js n o p,js xa xl xc,ji r1,jf s5 1,js q s t,r2.val,js (some ⟨b3,0,none⟩) 1 1,js ap v y,jf s5 1,ji (i64.wrap (f+1)),jg j 108]))) ab) else (QX (.exit 2) (nG s5 (jg j 0::jg j 1::jp s2::jq j 2 79 (js a b c::ji d::ji f::jb (decide ((f:Int)<d))::jq j 82 27 []))) w))):=by kernel_rfl
theorem qd (a:Addr) (j:LV) (QX:Exit→LV→World→Prop):W prog (sub (aD f124) [1,1,1,1,1,1,1,1,1,1,1]) (nG a j) (Qr prog f124 R QX) w=(∀ w1,w1=w.drew→∃ Sx:World→Prop,Sx w1∧aQ.ex λr=>(∀ u,Sx u→aC u a 0 r.cells)∧wrAt w1 a 0 r.cells∧∀ w2,w2=puts w1 a 0 r.cells→aQ.ex λb=>aC w2 a 0 b.cells∧w2=w2∧R (.tuple #[.slice none 0 0,b.val,.bool true]) w2):=by kernel_rfl
def gS (s1:Addr) (a:Option Addr) (b c:Nat) (d f:Int) (j:LV):LV:=jq j 0 1 (.pointer (some s1)::jq j 1 27 (.slice a b c::.int .i64 d::.int .i64 f::jq j 28 30 []))
def mt (a:Addr) (j:LV):LV:=jq j 0 1 (.pointer (some a)::jq j 1 60 [])
def fE (s1:Addr) (a:Option Addr) (b c:Nat) (d f:Int) (j:LV):LV:=jq j 0 1 (.pointer (some s1)::jq j 1 40 (.slice a b c::.int .i64 d::.int .i64 f::jq j 41 17 []))
def mu  (j:LV):LV:=jq j 0 62 []
theorem td (p0:bN):fnW prog f161 [p0.val] R w=(∀ b1 w1,b1=w.heap.size→w1=w.alloc (.cells p0.cells.toArray 86)→aM.ex λl=>aC w1 ⟨b1,1,none⟩ 0 l.cells∧Calls prog 181 #[l.val,.int .i64 5] w1 λe w2=>∃ a,e=.returned (.int .i64 a)∧(bif ((a:Int) != 0) then (R (.int .i64 a) w2) else (∃ b,w2.cell? ⟨b1,0,none⟩=some (.int .i64 b)∧(bif (decide ((b:Int)<98)) then (R (.int .i64 18) w2) else (∃ c,w2.cell? ⟨b1,0,none⟩=some (.int .i64 c)∧(bif (decide ((c:Int)>256)) then (R (.int .i64 18) w2) else (∃ d f g,w2.cell? ⟨b1,3,none⟩=some (.slice d f g)∧(bif (decide (((f:Nat):Int)>1024)) then (R (.int .i64 18) w2) else (∃ h i k,w2.cell? ⟨b1,3,none⟩=some (.slice h i k)∧cQ prog (.loop (sub (aD f161) [1,1,1,0,1,0,0])) (gS ⟨b1,0,none⟩ h i k (i:Nat) 0 (p0.val::ji 0::ji a::uq 4 (jp ⟨b1,1,none⟩::l.val::ji a::ji a::jb ((a:Int) != 0)::undef::jp ⟨b1,0,none⟩::ji b::jb (decide ((b:Int)<98))::jb false::jp ⟨b1,0,none⟩::ji c::jb (decide ((c:Int)>256))::jb (decide ((c:Int)>256))::jb false::jp ⟨b1,3,none⟩::js d f g::jn f::jb (decide (((f:Nat):Int)>1024))::jb (decide (((f:Nat):Int)>1024))::jp ⟨b1,3,none⟩::uq 30 []))) (aK 0 (nx f161 [1,1,1,1] R)) w2))))))))):=by kernel_rfl
theorem mH (s1:Addr) (a:Option Addr) (b c:Nat) (d f:Int) (j:LV) (N1:LV→World→Prop):W prog (sub (aD f161) [1,1,1,0,1,0,0]) (gS s1 a b c d f j) (seqQ N1 (aK 0 (nx f161 [1,1,1,1] R))) w=((bif (decide ((f:Int)<d)) then (idxS a b f 1 λad=>∃ x,w.cell? ad=some (.int .i64 x)∧∃ g,w.cell? s1=some (.int .i64 g)∧Calls prog 184 #[.int .i64 x,.int .i64 g] w λe w1=>∃ h,e=.returned (.bool h)∧(bif (!h) then (R (.int .i64 2) w1) else (N1 (gS s1 a b c d (i64.wrap (f+1)) (jq j 0 4 (ji x::jq j 5 23 (jb (decide ((f:Int)<d))::jp ad::ji x::ji x::jp s1::ji g::jb h::jb (!h)::ji (i64.wrap (f+1))::jq j 37 21 [])))) w1))) else (W prog (sub (aD f161) [1,1,1,1]) (mt s1 (jq j 0 28 (js a b c::ji d::ji f::jb (decide ((f:Int)<d))::jq j 29 29 []))) (retQ prog f161 R) w))):=by kernel_rfl
theorem oY (a:Addr) (j:LV):W prog (sub (aD f161) [1,1,1,1]) (mt a j) (retQ prog f161 R) w=(∃ b c d,w.cell? ⟨a.block,a.off+3,none⟩=some (.slice b c d)∧cQ prog (.loop (sub (aD f161) [1,1,1,1,0,1,0,0])) (fE a b c d (c:Nat) 0 (jq j 0 40 (jf a 3::jq j 44 17 []))) (aK 2 (nx f161 [1,1,1,1,1] R)) w):=by kernel_rfl
theorem mI (s1:Addr) (a:Option Addr) (b c:Nat) (d f:Int) (j:LV) (N2:LV→World→Prop):W prog (sub (aD f161) [1,1,1,1,0,1,0,0]) (fE s1 a b c d f j) (seqQ N2 (aK 2 (nx f161 [1,1,1,1,1] R))) w=((bif (decide ((f:Int)<d)) then (idxS a b f 1 λad=>∃ x,w.cell? ad=some (.int .i64 x)∧(bif (decide ((f:Int)>0)) then (∃ g h i,w.cell? ⟨s1.block,s1.off+3,none⟩=some (.slice g h i)∧idxS g h (i64.wrap (f - 1)) 1 λk=>∃ x1,w.cell? k=some (.int .i64 x1)∧(bif (decide ((x:Int)≤x1)) then (R (.int .i64 1) w) else (N2 (fE s1 a b c d (i64.wrap (f+1)) (jq j 0 5 (ji f::ji x::jq j 7 34 [jb (decide ((f:Int)<d)),ji f,jp ad,ji x,ji f,jb (decide ((f:Int)>0)),jb true,ji x,jf s1 3,js g h i,ji f,ji (i64.wrap (f - 1)),jp k,ji x1,jb (decide ((x:Int)≤x1)),jb (decide ((x:Int)≤x1)),ji (i64.wrap (f+1))]))) w))) else (N2 (fE s1 a b c d (i64.wrap (f+1)) (jq j 0 5 (ji f::ji x::jq j 7 34 (jb (decide ((f:Int)<d))::ji f::jp ad::ji x::ji f::jb (decide ((f:Int)>0))::jb false::uq 8 [jb false,ji (i64.wrap (f+1))])))) w))) else (W prog (sub (aD f161) [1,1,1,1,1]) (mu  (jg j 0::jp s1::jq j 1 40 (js a b c::ji d::ji f::jb (decide ((f:Int)<d))::jq j 42 16 []))) (retQ prog f161 R) w))):=by kernel_rfl
theorem oZ  (j:LV):W prog (sub (aD f161) [1,1,1,1,1]) (mu  j) (retQ prog f161 R) w=(R (.int .i64 0) w):=by kernel_rfl
end Go.Proofs.YtgpmeaicjonenaaGreat
namespace Go.Proofs.YtgpmeaicjonenaaGreat
open Go.Eng
structure sE (w:World) (r:bN) (j:FJob):Prop where
 total:r.Total=j.total
 view:∃ M,ViewAt M w r.View j.v
 rd:Rd w r.Lines (is j.lines)
 len:r.Lines_l=j.lines.length
 few:j.lines.length≤100000
theorem sE.new {w w':World} {r:bN} {j:FJob} (h:sE w r j) (hn:New w w'):sE w' r j:=⟨h.total,h.view.imp λ_ h=>h.new hn,h.rd.new hn,h.len,h.few⟩
theorem CE {w:World} {r:bN} {j:FJob} (h:sE w r j):Does 161 [r.val] w λx w'=>x=.int .i64 j.valid∧New w w':=by
 refine does Tryz.func161 ?_
 rw [td]
 rintro b1 w1 hb1 hw1
 obtain ⟨hz,hn⟩:=aO hb1 hw1
 have hz:Blk w1 b1 r.cells 86:=hz
 clear hw1
 have hlen:=h.len
 have htot:=h.total
 have hfew:=h.few
 obtain ⟨MM,hview⟩:=h.view
 refine aM.mk_ex r.View ⟨aI hz rfl,?_⟩
 refine aF (xu (hview.new hn) 5) ?_
 rintro x w2 ⟨rfl,hn2⟩
 have hz2:=New.blk hn2 hz
 have hn12:=hn.new hn2
 unfold FJob.valid
 refine ⟨_,rfl,cU (λhv=>?_) (λhv=>?_)⟩
 ·rw [if_pos hv];exact ⟨rfl,hn12⟩
 rw [if_neg (by omega)]
 refine ⟨_,hz2.cell (i:=0) rfl,aH (λhp=>?_) (λhp=>⟨_,hz2.cell (i:=0) rfl,aH (λhp2=>?_) (λhp2=>⟨_,_,_,hz2.cell (i:=3) rfl,aH (λhp3=>?_) (λhp3=>⟨_,_,_,hz2.cell (i:=3) rfl,?_⟩)⟩)⟩)⟩
 ·rw [if_pos (by omega)];exact ⟨rfl,hn12⟩
 ·rw [if_pos (by omega)];exact ⟨rfl,hn12⟩
 ·rw [if_pos (by omega)];exact ⟨rfl,hn12⟩
 rw [if_neg (by omega)]
 refine aT mix (λm env u=>∃ (i:Nat) (jj:List Value),m=j.lines.length - i∧i≤j.lines.length∧env=gS ⟨b1,0,none⟩ r.Lines r.Lines_l r.Lines_c r.Lines_l i jj∧u=w2∧(j.lines.take i).all (fR · j.total)=true) j.lines.length
  ⟨0,_,by omega,by omega,rfl,rfl,rfl⟩ ?_
 rintro m env u ⟨i,jj,rfl,hi,rfl,rfl,hok⟩
 have hrd:=h.rd.new hn12
 rw [mH]
 refine aH (λhq=>?_) (λhq=>?_)
 ·have hlt:i<j.lines.length:=by omega
  have hg:j.lines[i]?=some j.lines[i]:=List.getElem?_eq_getElem hlt
  refine rd_i hrd hg rfl hlen λb o hc=>⟨_,hc _ (Keep.refl _ _),_,hz2.cell (i:=0) rfl,?_⟩
  refine aF (xB _ _ _) ?_
  rintro x w3 ⟨rfl,rfl⟩
  refine ⟨_,rfl,dG (λhf=>?_) (λht=>?_)⟩
  ·rw [if_pos (by
    rw [List.all_eq_false]
    exact ⟨_,List.getElem_mem hlt,by rw [←htot,hf];simp⟩)]
   exact ⟨rfl,hn12⟩
  ·rw [w64 (by omega) (by omega)]
   refine ⟨j.lines.length - (i+1),by omega,i+1,_,rfl,by omega,rfl,rfl,?_⟩
   rw [List.take_add_one,hg,List.all_append,hok]
   simp [←htot,ht]
 have ht:j.lines.take i=j.lines:=List.take_of_length_le (by omega)
 rw [ht] at hok
 rw [if_neg (by rw [hok];simp),oY]
 refine ⟨_,_,_,hz2.cell (i:=3) rfl,?_⟩
 refine aT mix (λm env z=>∃ (i:Nat) (jj:List Value),m=j.lines.length - i∧i≤j.lines.length∧env=fE ⟨b1,0,none⟩ r.Lines r.Lines_l r.Lines_c r.Lines_l i jj∧z=u∧∀ k,k<i→ascF j.lines k=true) j.lines.length
  ⟨0,_,by omega,by omega,rfl,rfl,λk hk=>by omega⟩ ?_
 clear hok hi hq ht
 rintro m env z ⟨i,jj,rfl,hi,rfl,rfl,hok⟩
 rw [mI]
 refine aH (λhq=>?_) (λhq=>?_)
 ·have hlt:i<j.lines.length:=by omega
  have hg:j.lines[i]?=some j.lines[i]:=List.getElem?_eq_getElem hlt
  have hgd:=li (d:=0) hg
  have step:ascF j.lines i=true→∀ k,k<i+1→ascF j.lines k=true:=λha k hk=>by
   rcases Nat.lt_succ_iff_lt_or_eq.1 hk with hk | rfl
   ·exact hok k hk
   ·exact ha
  refine rd_i hrd hg rfl hlen λb o hc=>⟨_,hc _ (Keep.refl _ _),aH (λh0=>⟨_,_,_,hz2.cell (i:=3) rfl,?_⟩) (λh0=>?_)⟩
  ·have hg1:j.lines[i - 1]?=some j.lines[i - 1]:=List.getElem?_eq_getElem (by omega)
   have hgd1:=li (d:=0) hg1
   refine rd_i hrd hg1 (by rw [w64 (by omega) (by omega)];omega) hlen λb' o' hc'=>⟨_,hc' _ (Keep.refl _ _),aH (λhp6=>?_) (λhp6=>?_)⟩
   ·rw [if_pos (jN hlt (by unfold ascF;rw [hgd,hgd1];simp;omega))]
    exact ⟨rfl,hn12⟩
   ·rw [w64 (by omega) (by omega)]
    exact ⟨j.lines.length - (i+1),by omega,i+1,_,rfl,by omega,rfl,rfl,step (by unfold ascF;rw [hgd,hgd1];simp;omega)⟩
  ·rw [w64 (by omega) (by omega)]
   exact ⟨j.lines.length - (i+1),by omega,i+1,_,rfl,by omega,rfl,rfl,step (by unfold ascF;simp;omega)⟩
 ·rw [oZ,if_neg (by
   rw [Bool.not_eq_false,List.all_eq_true]
   intro k hk
   exact hok k (by have:=List.mem_range.1 hk;omega))]
  exact ⟨rfl,hn12⟩
end Go.Proofs.YtgpmeaicjonenaaGreat
