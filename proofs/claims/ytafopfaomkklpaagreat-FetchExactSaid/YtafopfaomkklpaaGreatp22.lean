/- A part of the proof. -/
import Derived.Test.YtafopfaomkklpaaGreatProg
import Derived.Test.YtafopfaomkklpaaGreatp03
import Derived.Test.YtafopfaomkklpaaGreatp21
set_option linter.unusedVariables false
namespace Go.Proofs.YtafopfaomkklpaaGreat
open Go.Proofs.Tryz
open Go.Eng IntKind
variable (w:World) (R:Value→World→Prop)
def dP (s1:Int) (s2:Option Addr) (a b:Nat) (s7:Option Addr) (c d:Nat) (s8:Int) (j:LV):LV:=[jg j 0,(.int .i64 s1),(.slice s2 a b),jg j 1,jg j 2,jg j 3,jg j 4,(.slice s7 c d),(.int .i64 s8),jg j 5,jg j 6,jg j 7,jg j 8,jg j 9,jg j 10,jg j 11,jg j 12,jg j 13,jg j 14,jg j 15,jg j 16,jg j 17,jg j 18,jg j 19,jg j 20,jg j 21,jg j 22,jg j 23,jg j 24,jg j 25,jg j 26,jg j 27,jg j 28,jg j 29,jg j 30,jg j 31,jg j 32,jg j 33,jg j 34,jg j 35,jg j 36,jg j 37,jg j 38,jg j 39,jg j 40,jg j 41,jg j 42,jg j 43,jg j 44,jg j 45,jg j 46,jg j 47,jg j 48,jg j 49,jg j 50,jg j 51,jg j 52,jg j 53,jg j 54,jg j 55,jg j 56,jg j 57,jg j 58,jg j 59,jg j 60,jg j 61,jg j 62,jg j 63,jg j 64,jg j 65,jg j 66,jg j 67,jg j 68,jg j 69,jg j 70,jg j 71,jg j 72,jg j 73,jg j 74,jg j 75,jg j 76,jg j 77,jg j 78,jg j 79,jg j 80,jg j 81,jg j 82,jg j 83,jg j 84,jg j 85,jg j 86,jg j 87,jg j 88,jg j 89,jg j 90,jg j 91,jg j 92,jg j 93,jg j 94,jg j 95,jg j 96]
def gC (s1:Int) (s2:Option Addr) (a b:Nat) (s7:Option Addr) (c d:Nat) (s8:Int) (f:Addr) (j:LV):LV:=jq j 0 1 (.int .i64 s1::.slice s2 a b::jq j 1 4 (.slice s7 c d::.int .i64 s8::.pointer (some f)::jq j 5 91 []))
def jh (s7:Option Addr) (a b:Nat) (j:LV):LV:=jq j 0 7 (.slice s7 a b::jq j 7 93 [])
def eA (s1:Int) (s2:Option Addr) (a b:Nat) (s7:Option Addr) (c d:Nat) (s8:Int) (f:Addr) (g:Bool) (j:LV):LV:=jq j 0 1 (.int .i64 s1::.slice s2 a b::jq j 1 4 (.slice s7 c d::.int .i64 s8::.pointer (some f)::jq j 5 23 (.bool g::jq j 28 67 [])))
def bC (s1:Int) (s2:Option Addr) (a b:Nat) (s7:Option Addr) (c d:Nat) (s8:Int) (j:LV):LV:=jq j 0 1 (.int .i64 s1::.slice s2 a b::jq j 1 4 (.slice s7 c d::.int .i64 s8::jq j 5 92 []))
def gD (s1:Int) (s2:Option Addr) (a b:Nat) (s7:Option Addr) (c d:Nat) (s8:Int) (f:Addr) (j:LV):LV:=jq j 0 1 (.int .i64 s1::.slice s2 a b::jq j 1 4 (.slice s7 c d::.int .i64 s8::.pointer (some f)::jq j 5 91 []))
def dQ (s1:Int) (s2:Option Addr) (a b:Nat) (s7:Option Addr) (c d:Nat) (s8:Int) (f:Addr) (g:Int) (h:Addr) (j:LV):LV:=jq j 0 1 (.int .i64 s1::.slice s2 a b::jq j 1 4 (.slice s7 c d::.int .i64 s8::.pointer (some f)::.int .i64 g::.pointer (some h)::jq j 5 89 []))
def bM (s1:Int) (s2:Option Addr) (a b:Nat) (s7:Option Addr) (c d:Nat) (s8 f:Int) (g:Addr) (j:LV):LV:=jq j 0 1 (.int .i64 s1::.slice s2 a b::jq j 1 4 (.slice s7 c d::.int .i64 s8::jq j 5 1 (.int .i64 f::.pointer (some g)::jq j 6 89 [])))
theorem p8 (p0:Option Addr) (a b:Nat) (p1:Int) (p2:Option Addr) (c d:Nat):fnW prog f12 [.slice p0 a b,.int .i64 p1,.slice p2 c d] R w=(∃ ap f g,∃ w1,(Builtin.append_ #[46,46] 46 #[.slice none 0 0,.slice p0 a b]).run prog w=.ok (.slice ap f g) w1∧bW prog (.loop (sub (aA f12) [1,1,0,1,0,0])) (dP p1 p2 c d ap f g 0 (js p0 a b::uq 3 (jz::uq 3 (js p0 a b::js ap f g::uq 87 [])))) (aK 0 (nx f12 [1,1,1] R)) w1):=by kernel_rfl
theorem kT (s1:Int) (s2:Option Addr) (a b:Nat) (s7:Option Addr) (c d:Nat) (s8:Int) (j:LV) (QX:Exit→LV→World→Prop):W prog (sub (aA f12) [1,1,0,1,0,0]) (dP s1 s2 a b s7 c d s8 j) (Qr prog f12 R QX) w=((bif (decide ((s8:Int)<(a:Nat))) then (idxS s2 a s8 4 λad=>aY.ex λr=>aE w ad 0 r.cells∧∀ b1 w1,b1=w.heap.size→w1=w.alloc (.cells #[.int .i64 0,.int .i64 0,.int .i64 0,.int .u64 0] 101)→wrAt w1 ⟨b1,0,none⟩ 0 r.cells∧∀ w2,w2=puts w1 ⟨b1,0,none⟩ 0 r.cells→W prog (sub (aA f12) [1,1,0,1,0,0,1,0,0,1]) (gC s1 s2 a b s7 c d s8 ⟨b1,0,none⟩ (jq j 0 5 (jq j 6 4 (ji s8::js s2 a b::jn a::jb (decide ((s8:Int)<(a:Nat)))::jg j 14::jg j 15::js s2 a b::ji s8::jp ad::r.val::jq j 20 77 [])))) (aK 1 (seqQ (λenv w=>W prog (sub (aA f12) [1,1,0,1,0,0,1,1]) env (Qr prog f12 R QX) w) (Qr prog f12 R QX))) w2) else (QX (.exit 0) (jh s7 c d (jg j 0::ji s1::js s2 a b::jq j 1 4 (ji s8::jq j 5 5 (ji s8::js s2 a b::jn a::jb (decide ((s8:Int)<(a:Nat)))::jq j 14 83 [])))) w))):=by kernel_rfl
theorem kU (env:LV) (w:World) (Q:Exit→LV→World→Prop):W prog (sub (aA f12) [1,1,0,1,0,0,1,0,0,1]) env Q w=W prog (sub (aA f12) [1,1,0,1,0,0,1,0,0,1,0]) env (seqQ (λenv w=>W prog (sub (aA f12) [1,1,0,1,0,0,1,0,0,1,1]) env Q w) Q) w:=by
 rw [show sub (aA f12) [1,1,0,1,0,0,1,0,0,1]=.seq (sub (aA f12) [1,1,0,1,0,0,1,0,0,1,0]) (sub (aA f12) [1,1,0,1,0,0,1,0,0,1,1]) by kernel_rfl]
 generalize sub (aA f12) [1,1,0,1,0,0,1,0,0,1,0]=a
 generalize sub (aA f12) [1,1,0,1,0,0,1,0,0,1,1]=b
 kernel_rfl
theorem kw (env:LV) (w:World) (Q:Exit→LV→World→Prop):W prog (sub (aA f12) [1,1,0,1,0,0,1,0,0,1,0]) env Q w=W prog (sub (aA f12) [1,1,0,1,0,0,1,0,0,1,0,0]) env (seqQ (λenv w=>W prog (sub (aA f12) [1,1,0,1,0,0,1,0,0,1,0,1]) env Q w) Q) w:=by
 rw [show sub (aA f12) [1,1,0,1,0,0,1,0,0,1,0]=.seq (sub (aA f12) [1,1,0,1,0,0,1,0,0,1,0,0]) (sub (aA f12) [1,1,0,1,0,0,1,0,0,1,0,1]) by kernel_rfl]
 generalize sub (aA f12) [1,1,0,1,0,0,1,0,0,1,0,0]=a
 generalize sub (aA f12) [1,1,0,1,0,0,1,0,0,1,0,1]=b
 kernel_rfl
theorem mR (s1:Int) (s2:Option Addr) (a b:Nat) (s7:Option Addr) (c d:Nat) (s8:Int) (f:Addr) (j:LV) (QX:Exit→LV→World→Prop):W prog (sub (aA f12) [1,1,0,1,0,0,1,0,0,1,0,0]) (gC s1 s2 a b s7 c d s8 f j) (Qr prog f12 R QX) w=(∃ g,w.cell? f=some (.int .i64 g)∧Calls prog 6 #[.int .i64 g,.int .i64 20] w λe w1=>∃ h,e=.returned (.int .i64 h)∧(bif ((h:Int) != s1) then (QX .normal (eA s1 s2 a b s7 c d s8 f true (jq j 0 19 (jp f::ji g::ji h::ji s1::jb ((h:Int) != s1)::jb true::uq 3 (jq j 29 67 [])))) w1) else (QX .normal (eA s1 s2 a b s7 c d s8 f (((c:Nat):Int) == 0) (jq j 0 19 (jp f::ji g::ji h::ji s1::jb ((h:Int) != s1)::jb false::js s7 c d::jn c::jb (((c:Nat):Int) == 0)::jq j 29 67 []))) w1))):=by kernel_rfl
theorem mS (s7:Option Addr) (a b:Nat) (j:LV) (QX:Exit→LV→World→Prop):W prog (sub (aA f12) [1,1,1]) (jh s7 a b j) (Qr prog f12 R QX) w=(R (.slice s7 a b) w):=by kernel_rfl
theorem mT (s1:Int) (s2:Option Addr) (a b:Nat) (s7:Option Addr) (c d:Nat) (s8:Int) (f:Addr) (g:Bool) (j:LV) (QX:Exit→LV→World→Prop):W prog (sub (aA f12) [1,1,0,1,0,0,1,0,0,1,0,1]) (eA s1 s2 a b s7 c d s8 f g j) (Qr prog f12 R QX) w=((bif g then (QX (.exit 1) (bC s1 s2 a b s7 c d s8 (jq j 0 5 (jp f::jq j 5 23 (jb g::jq j 28 67 [])))) w) else (QX .normal (gD s1 s2 a b s7 c d s8 f (jq j 0 28 (jb g::jq j 28 67 []))) w))):=by kernel_rfl
theorem mU (s1:Int) (s2:Option Addr) (a b:Nat) (s7:Option Addr) (c d:Nat) (s8:Int) (j:LV) (QX:Exit→LV→World→Prop):W prog (sub (aA f12) [1,1,0,1,0,0,1,1]) (bC s1 s2 a b s7 c d s8 j) (Qr prog f12 R QX) w=(QX .normal (dP s1 s2 a b s7 c d (i64.wrap (s8+1)) (jq j 0 14 (ji s8::ji (i64.wrap (s8+1))::jq j 16 81 []))) w):=by kernel_rfl
theorem mV (s1:Int) (s2:Option Addr) (a b:Nat) (s7:Option Addr) (c d:Nat) (s8:Int) (f:Addr) (j:LV) (QX:Exit→LV→World→Prop):W prog (sub (aA f12) [1,1,0,1,0,0,1,0,0,1,1]) (gD s1 s2 a b s7 c d s8 f j) (Qr prog f12 R QX) w=(∃ g,w.cell? ⟨f.block,f.off+1,none⟩=some (.int .i64 g)∧Calls prog 6 #[.int .i64 g,.int .i64 (c:Nat)] w λe w1=>∃ (h:Int),e=.returned (.int .i64 h)∧∀ w2,w2=w1.drew→∃ Sx:World→Prop,Sx w2∧idxS s7 c h 2 λad=>∃ i,(∀ u,Sx u→u.cell? ad=some (.int .i64 i))∧idxS s7 c h 2 λs=>∃ k l m,(∀ u,Sx u→u.cell? ⟨s.block,s.off+1,none⟩=some (.slice k l m))∧(∃ (ap:Option Addr) (n o:Nat),∃ w3,(Builtin.append_ #[34,34] 34 #[.slice none 0 0,.slice k l m]).run prog w2=.ok (.slice ap n o) w3∧Sx w3∧∀ b1 w4,b1=w3.heap.size→w4=w3.alloc (.cells #[.int .i64 0,.slice none 0 0] 53)→Sx w4∧wrAt w4 ⟨b1,0,none⟩ 0 [.int .i64 i,.slice ap n o]∧∀ w5,w5=puts w4 ⟨b1,0,none⟩ 0 [.int .i64 i,.slice ap n o]→W prog (sub (aA f12) [1,1,0,1,0,0,1,0,0,1,1,1,1]) (dQ s1 s2 a b s7 c d s8 f h ⟨b1,0,none⟩ (jq j 0 5 (jq j 7 22 (jf f 1::ji g::js s7 c d::jn c::ji h::js s7 c d::ji h::jp ad::jp ad::ji i::js s7 c d::ji h::jp s::jf s 1::js k l m::js ap n o::.agg #[.int .i64 i,.slice ap n o]::jq j 46 50 [])))) (Qr prog f12 R QX) w5)∧(∀ b2 w6,b2=w2.heap.size→w6=w2.alloc (.cells #[.int .i64 0,.slice none 0 0] 53)→Sx w6∧∃ (p:Option Addr) (q r:Nat),∃ w7,(Builtin.append_ #[34,34] 34 #[.slice none 0 0,.slice k l m]).run prog w6=.ok (.slice p q r) w7∧Sx w7∧wrAt w7 ⟨b2,0,none⟩ 0 [.int .i64 i,.slice p q r]∧∀ w8,w8=puts w7 ⟨b2,0,none⟩ 0 [.int .i64 i,.slice p q r]→W prog (sub (aA f12) [1,1,0,1,0,0,1,0,0,1,1,1,1]) (dQ s1 s2 a b s7 c d s8 f h ⟨b2,0,none⟩ (jq j 0 5 (jq j 7 22 (jf f 1::ji g::js s7 c d::jn c::ji h::js s7 c d::ji h::jp ad::jp ad::ji i::js s7 c d::ji h::jp s::jf s 1::js k l m::js p q r::.agg #[.int .i64 i,.slice p q r]::jq j 46 50 [])))) (Qr prog f12 R QX) w8)):=by kernel_rfl
theorem kV (env:LV) (w:World) (Q:Exit→LV→World→Prop):W prog (sub (aA f12) [1,1,0,1,0,0,1,0,0,1,1,1,1]) env Q w=W prog (sub (aA f12) [1,1,0,1,0,0,1,0,0,1,1,1,1,0]) env (seqQ (λenv w=>W prog (sub (aA f12) [1,1,0,1,0,0,1,0,0,1,1,1,1,1]) env Q w) Q) w:=by
 rw [show sub (aA f12) [1,1,0,1,0,0,1,0,0,1,1,1,1]=.seq (sub (aA f12) [1,1,0,1,0,0,1,0,0,1,1,1,1,0]) (sub (aA f12) [1,1,0,1,0,0,1,0,0,1,1,1,1,1]) by kernel_rfl]
 generalize sub (aA f12) [1,1,0,1,0,0,1,0,0,1,1,1,1,0]=a
 generalize sub (aA f12) [1,1,0,1,0,0,1,0,0,1,1,1,1,1]=b
 kernel_rfl
set_option maxHeartbeats 4000000 in
theorem mW (s1:Int) (s2:Option Addr) (a b:Nat) (s7:Option Addr) (c d:Nat) (s8:Int) (f:Addr) (g:Int) (h:Addr) (j:LV) (QX:Exit→LV→World→Prop):W prog (sub (aA f12) [1,1,0,1,0,0,1,0,0,1,1,1,1,0]) (dQ s1 s2 a b s7 c d s8 f g h j) (Qr prog f12 R QX) w=(∃ i,w.cell? ⟨f.block,f.off+2,none⟩=some (.int .i64 i)∧Calls prog 6 #[.int .i64 i,.int .i64 8] w λe w1=>∃ (k:Int),e=.returned (.int .i64 k)∧(bif ((k:Int) == 0) then (wrAt w1 h 0 [.int .i64 4,.slice none 0 0]∧∀ w2,w2=puts w1 h 0 [.int .i64 4,.slice none 0 0]→QX .normal (bM s1 s2 a b s7 c d s8 g h (jq j 0 5 (jp f::jq j 5 39 (jf f 2::ji i::ji k::jq j 47 17 (jb ((k:Int) == 0)::jb ((k:Int) == 0)::.agg #[.int .i64 4,.slice none 0 0]::jq j 67 27 []))))) w2) else ((bif ((k:Int) == 1) then (wrAt w1 h 0 [.int .i64 5,.slice none 0 0]∧∀ w3,w3=puts w1 h 0 [.int .i64 5,.slice none 0 0]→QX .normal (bM s1 s2 a b s7 c d s8 g h (jq j 0 5 (jp f::jq j 5 39 (jf f 2::ji i::ji k::jq j 47 17 (jb ((k:Int) == 0)::jb ((k:Int) == 0)::jg j 66::jb ((k:Int) == 1)::jb ((k:Int) == 1)::.agg #[.int .i64 5,.slice none 0 0]::jq j 70 24 []))))) w3) else ((bif ((k:Int) == 2) then (∃ l m n,w1.cell? ⟨h.block,h.off+1,none⟩=some (.slice l m n)∧∃ W,w1.cell? ⟨f.block,f.off+3,none⟩=some (.int .u64 W)∧∀ b1 w4,b1=w1.heap.size→w4=w1.alloc (.cells #[.int .u64 W] 32)→∃ (ap:Option Addr) (o p:Nat),∃ w5,(Builtin.append_ #[34,34] 34 #[.slice l m n,.slice (some ⟨b1,0,none⟩) 1 1]).run prog w4=.ok (.slice ap o p) w5∧(∃ u,w5.cell? ⟨h.block,h.off+1,none⟩=some u)∧w5.frozen? ⟨h.block,h.off+1,none⟩=false∧∀ w6,w6=w5.setCell ⟨h.block,h.off+1,none⟩ (.slice ap o p)→QX .normal (bM s1 s2 a b s7 c d s8 g h (jq j 0 5 (jp f::jq j 5 39 (jf f 2::ji i::ji k::jq j 47 17 (jb ((k:Int) == 0)::jb ((k:Int) == 0)::jg j 66::jb ((k:Int) == 1)::jb ((k:Int) == 1)::jg j 69::jb ((k:Int) == 2)::jb ((k:Int) == 2)::jf h 1::js l m n::jf f 3::ju W::js (some ⟨b1,0,none⟩) 1 1::js ap o p::jf h 1::jq j 79 15 []))))) w6) else ((bif ((k:Int) == 3) then (sl3 s7 c d 0 (i64.wrap ((c:Nat) - 1)) (d:Nat) 2 λxa xl xc=>QX (.exit 1) (bC s1 s2 a b xa xl xc s8 (jq j 0 5 (jp f::ji g::jp h::jq j 5 39 (jf f 2::ji i::ji k::jq j 47 17 (jb ((k:Int) == 0)::jb ((k:Int) == 0)::jg j 66::jb ((k:Int) == 1)::jb ((k:Int) == 1)::jg j 69::jb ((k:Int) == 2)::jb ((k:Int) == 2)::jq j 72 7 (jb ((k:Int) == 3)::jb ((k:Int) == 3)::js s7 c d::js s7 c d::jn c::ji (i64.wrap ((c:Nat) - 1))::js xa xl xc::jq j 86 8 [])))))) w1) else ((bif ((k:Int) == 4) then ((∃ u,w1.cell? h=some u)∧w1.frozen? h=false∧∀ w7,w7=w1.setCell h (.int .i64 12)→QX .normal (bM s1 s2 a b s7 c d s8 g h (jq j 0 5 (jp f::jq j 5 39 (jf f 2::ji i::ji k::jq j 47 17 (jb ((k:Int) == 0)::jb ((k:Int) == 0)::jg j 66::jb ((k:Int) == 1)::jb ((k:Int) == 1)::jg j 69::jb ((k:Int) == 2)::jb ((k:Int) == 2)::jq j 72 7 (jb ((k:Int) == 3)::jb ((k:Int) == 3)::jq j 81 5 (jb ((k:Int) == 4)::jb ((k:Int) == 4)::jp h::jq j 89 5 []))))))) w7) else (∃ q r s,w1.cell? ⟨h.block,h.off+1,none⟩=some (.slice q r s)∧(bif (decide (((r:Nat):Int)>0)) then (∀ w8,w8=w1.drew→∃ Sx:World→Prop,Sx w8∧∃ t v x,(∀ u,Sx u→u.cell? ⟨h.block,h.off+1,none⟩=some (.slice t v x))∧∃ W1,(∀ u,Sx u→u.cell? ⟨f.block,f.off+3,none⟩=some (.int .u64 W1))∧∃ y z aa,(∀ u,Sx u→u.cell? ⟨h.block,h.off+1,none⟩=some (.slice y z aa))∧∃ W2,(∀ u,Sx u→u.cell? ⟨f.block,f.off+3,none⟩=some (.int .u64 W2))∧Calls prog 6 #[.int .i64 (i64.wrap (Int.tmod W1 4096)),.int .i64 (z:Nat)] w8 λe w9=>∃ (ab:Int),e=.returned (.int .i64 ab)∧Sx w9∧idxS t v ab 1 λad=>(∃ u,w9.cell? ad=some u)∧w9.frozen? ad=false∧∀ ac,ac=w9.setCell ad (.int .u64 W2)→QX .normal (bM s1 s2 a b s7 c d s8 g h (jq j 0 5 (jp f::jq j 5 39 (jf f 2::ji i::ji k::jf h 1::js q r s::jn r::jb (decide (((r:Nat):Int)>0))::jf h 1::js t v x::jf f 3::ju W1::ju (Int.tmod W1 4096)::ji (i64.wrap (Int.tmod W1 4096))::jf h 1::js y z aa::jn z::ji ab::jf f 3::ju W2::jp ad::jb ((k:Int) == 0)::jb ((k:Int) == 0)::jg j 66::jb ((k:Int) == 1)::jb ((k:Int) == 1)::jg j 69::jb ((k:Int) == 2)::jb ((k:Int) == 2)::jq j 72 7 (jb ((k:Int) == 3)::jb ((k:Int) == 3)::jq j 81 5 (jb ((k:Int) == 4)::jb ((k:Int) == 4)::jq j 88 6 [])))))) ac) else (QX .normal (bM s1 s2 a b s7 c d s8 g h (jq j 0 5 (jp f::jq j 5 39 (jf f 2::ji i::ji k::jf h 1::js q r s::jn r::jb (decide (((r:Nat):Int)>0))::jq j 51 13 (jb ((k:Int) == 0)::jb ((k:Int) == 0)::jg j 66::jb ((k:Int) == 1)::jb ((k:Int) == 1)::jg j 69::jb ((k:Int) == 2)::jb ((k:Int) == 2)::jq j 72 7 (jb ((k:Int) == 3)::jb ((k:Int) == 3)::jq j 81 5 (jb ((k:Int) == 4)::jb ((k:Int) == 4)::jq j 88 6 []))))))) w1))))))))))))):=by kernel_rfl
theorem mX (s1:Int) (s2:Option Addr) (a b:Nat) (s7:Option Addr) (c d:Nat) (s8 f:Int) (g:Addr) (j:LV) (QX:Exit→LV→World→Prop):W prog (sub (aA f12) [1,1,0,1,0,0,1,0,0,1,1,1,1,1]) (bM s1 s2 a b s7 c d s8 f g j) (Qr prog f12 R QX) w=(aV.ex λr=>aE w g 0 r.cells∧idxS s7 c f 2 λad=>wrAt w ad 0 r.cells∧∀ w1,w1=puts w ad 0 r.cells→QX .normal (bC s1 s2 a b s7 c d s8 (jq j 0 6 (ji f::jp g::jq j 6 84 [js s7 c d,ji f,r.val,jp ad,jg j 94]))) w1):=by kernel_rfl
def fK (s0:Addr) (s1:Int) (j:LV):LV:=.pointer (some s0)::.int .i64 s1::jq j 0 29 []
def li (a:Addr) (s1:Int) (j:LV):LV:=.pointer (some a)::.int .i64 s1::jq j 0 29 []
theorem sg (p0:Nat) (p1:Int) (p2:Option Addr) (a b:Nat):fnW prog f13 [.pointer (some ⟨p0,0,none⟩),.int .i64 p1,.slice p2 a b] R w=(Calls prog 36 #[.pointer (some ⟨p0,0,none⟩),.int .i64 p1,.slice p2 a b] w λe w1=>∃ c,e=.returned (.int .i64 c)∧(bif ((c:Int) != 0) then (R (.slice none 0 0) w1) else (bW prog (.loop (sub (aA f13) [1,1,0,0,0])) (fK ⟨p0,0,none⟩ p1 (js p2 a b::uq 3 (jz::uq 2 (jp ⟨p0,0,none⟩::ji p1::js p2 a b::ji c::jb ((c:Int) != 0)::uq 17 [])))) (aK 0 (nx f13 [1,1,1] R)) w1))):=by kernel_rfl
theorem mY (s0:Addr) (s1:Int) (j:LV) (N1:LV→World→Prop):W prog (sub (aA f13) [1,1,0,0,0]) (fK s0 s1 j) (seqQ N1 (aK 0 (nx f13 [1,1,1] R))) w=(Calls prog 37 #[.pointer (some s0),.int .i64 s1] w λe w1=>∃ a,e=.returned (.int .i64 a)∧(bif (decide ((a:Int)>0)) then (Calls prog 39 #[.pointer (some s0)] w1 λe w2=>∃ b c d,e=.returned (.slice b c d)∧idxS b c 0 3 λad=>aJ.ex λr=>aE w2 ad 0 r.cells∧Calls prog 38 #[.pointer (some s0),r.val] w2 λe w3=>∃ f,e=.returned (.bool f)∧N1 (fK s0 s1 (jq j 0 12 (jp s0::ji s1::ji a::jb (decide ((a:Int)>0))::jp s0::jp s0::js b c d::jp ad::r.val::jb f::jq j 22 7 []))) w3) else (W prog (sub (aA f13) [1,1,1]) (li s0 s1 (jq j 0 12 (jp s0::ji s1::ji a::jb (decide ((a:Int)>0))::jq j 16 13 []))) (retQ prog f13 R) w1))):=by kernel_rfl
theorem oT (a:Addr) (s1:Int) (j:LV):W prog (sub (aA f13) [1,1,1]) (li a s1 j) (retQ prog f13 R) w=(Calls prog 40 #[.pointer (some a),.int .i64 s1] w λe w1=>∃ b c d f,e=.returned (.tuple #[.slice b c d,.bool f])∧R (.slice b c d) w1):=by kernel_rfl
end Go.Proofs.YtafopfaomkklpaaGreat
namespace Go.Proofs.YtafopfaomkklpaaGreat
open Go.Eng
def FStR (u:World) (fb:Nat) (F:Fa) (N:List bS) (Cl:List CliR) (c m:Nat) (Av:Nat→Prop) (Q:Nat→List dE) (db hb:Nat) (x:Value) (u':World):Prop:=
 (∃ b:Bool,x=.bool b)∧∃ P' Av' Q' dn' hv',tq u' fb F N Cl P' c m Av' Q' db hb dn' hv'∧msr Q' N.length<msr Q N.length∧Keep (λk=>F.own fb N Cl.length k∨k=db∨k=hb) u u'∧∀ k,Av' k→Av k∨u.heap.size≤k
set_option maxHeartbeats 4000000 in
theorem DW {u:World} {fb:Nat} {F:Fa} {N:List bS} {Cl:List CliR} {P:Nat→List bJ} {c m:Nat} {Av:Nat→Prop} {Q:Nat→List dE} {db hb:Nat} {dn:List aV} {hv:List Bool} (h:tq u fb F N Cl P c m Av Q db hb dn hv) (hm:m≤1000000) {i:Nat} (hiN:i<N.length) (hQ:Q i≠[]) :
  Does 38 [.pointer (some ⟨fb,0,none⟩),(⟨-1,c,i⟩:aJ).val] u (FStR u fb F N Cl c m Av Q db hb):=by
 refine does Tryz.func38 ?_
 rw [nG]
 have hc:=h.st.hc
 rintro b1 w1 hb1 hw1
 obtain ⟨hz1,hn1⟩:=aR hb1 hw1
 have hz1:Blk w1 b1 [.int .i64 (-1),.int .i64 c,.int .i64 i] TCh:=hz1
 clear hw1
 have h1:=h.mid.next hn1
 refine ⟨_,hz1.cell (i:=0) rfl,aD (λe=>absurd e (by omega)) (λ_=>?_)⟩
 rintro w7 hw7
 have hn7:New w1 w7:=by rw [hw7];exact aT _
 clear hw7
 have hz7:=New.blk hn7 hz1
 have h7:=h1.next hn7
 have hn07:=hn1.new hn7
 refine ⟨λy=>y=w7,rfl,_,λy hy=>by rw [hy];exact hz7.cell (i:=0) rfl,bQ (λe=>absurd rfl e) (λ_=>?_)⟩
 refine ⟨_,λy hy=>by rw [hy];exact hz7.cell (i:=1) rfl,aD (λe=>absurd e (by omega)) (λ_=>?_)⟩
 refine ⟨_,λy hy=>by rw [hy];exact hz7.cell (i:=1) rfl,_,_,_,λy hy=>by rw [hy];exact h7.st.fab.fab.cell (i:=3) rfl,aD (λe=>absurd e (by omega)) (λ_=>?_)⟩
 refine ⟨_,λy hy=>by rw [hy];exact hz7.cell (i:=2) rfl,aD (λe=>absurd e (by omega)) (λ_=>?_)⟩
 refine ⟨_,λy hy=>by rw [hy];exact hz7.cell (i:=2) rfl,_,_,_,λy hy=>by rw [hy];exact h7.st.fab.fab.cell (i:=1) rfl,aD (λe=>absurd e (by omega)) (λ_=>?_)⟩
 rintro w8 hw8
 have hn8:New w7 w8:=by rw [hw8];exact aT _
 clear hw8
 have hz8:=New.blk hn8 hz7
 have h8:=h7.next hn8
 have hn08:=hn07.new hn8
 clear h1 h7 hz1 hz7 hn1 hn7 hn8 hn07
 have hPl:=(h8.st.fab.pairs c hc).2
 have hgi:(P c)[i]?=some (P c)[i]:=List.getElem?_eq_getElem (by omega)
 generalize (P c)[i]=pr at hgi
 obtain ⟨q,qs,hq⟩:∃ q qs,Q i=q::qs:=by
  cases hQi:Q i with
  |nil=>exact absurd hQi hQ
  |cons q qs=>exact ⟨q,qs,rfl⟩
 have hgn:N[i]?=some N[i]:=List.getElem?_eq_getElem hiN
 have hrm:=List.getElem_mem hiN
 generalize N[i]=r at hgn hrm
 have had:∀ (P':Nat→List bJ),NdAt fb F N Cl P' r ⟨F.nb,0+(i:Int).toNat * 2,none⟩:=λP' y hy=>by
  rw [show 0+(i:Int).toNat * 2=i * 2+0 by omega]
  exact Owns.row aO.len hy.nodes hgn (j:=0) rfl
 have hup:∀ (P':Nat→List bJ),∀ y,cY y fb F N Cl P'→y.cell? ⟨F.nb,0+(i:Int).toNat * 2+1,none⟩=some (.bool r.Up):=λP' y hy=>by
  rw [show 0+(i:Int).toNat * 2+1=i * 2+1 by omega]
  exact Owns.row aO.len hy.nodes hgn (j:=1) rfl
 obtain ⟨Sx,hSx⟩:∃ S:World→Prop,S=λy=>yU y fb F N Cl c∧Blk y b1 [.int .i64 (-1),.int .i64 c,.int .i64 i] TCh:=⟨_,rfl⟩
 have sF:∀ {y:World} {j:Nat} {v:Value},Sx y→(fabC F.lines F.nb N.length F.nc F.cb Cl.length F.cc F.lb Cl.length F.lc)[j]?=some v→y.cell? ⟨fb,j,none⟩=some v:=λhy hv=>by
  rw [hSx] at hy
  obtain ⟨⟨P2,hy2⟩,_⟩:=hy
  exact hy2.fab.cell hv
 have sC:∀ {y:World} {j:Nat} {v:Value},Sx y→([.int .i64 (-1),.int .i64 c,.int .i64 i]:List Value)[j]?=some v→y.cell? ⟨b1,j,none⟩=some v:=λhy hv=>by
  rw [hSx] at hy
  exact hy.2.cell hv
 have sI:∀ {y:World} {P':Nat→List bJ},cY y fb F N Cl P'→Blk y b1 [.int .i64 (-1),.int .i64 c,.int .i64 i] TCh→Sx y:=λhf hb=>by rw [hSx];exact ⟨⟨_,hf⟩,hb⟩
 have hb1u:u.heap.size≤b1:=by omega
 have hb1o:¬ F.own fb N Cl.length b1:=λe=>by have:=h.st.fab.lt e;omega
 have hdbu:=h.st.ams _ h.avd.1
 have hhbu:=h.st.ams _ h.avd.2
 obtain ⟨cr,hgc,hon,hcd,hcdl,hch,hchl⟩:=h.row
 have fin:∀ {w11:World} {P':Nat→List bJ} {Av':Nat→Prop} {Q':Nat→List dE} {sl slot:Int} {done:Bool} {d:aV} {bx:Nat},Mid w11 fb F N Cl P' c m Av' Q' db hb dn hv sl→msr Q' N.length<msr Q N.length→Keep (λk=>F.own fb N Cl.length k) u w11→(∀ k,Av' k→Av k∨u.heap.size≤k)→Blk w11 b1 [.int .i64 (-1),.int .i64 c,.int .i64 i] TCh→Blk w11 bx d.cells 53→u.heap.size≤bx→
   ((done=true∧sl=slot∧0≤slot∧slot<m∧DnAt w11 Av' d)∨(done=false∧sl=-1))→∀ b:Bool,
   (bif done then (∀ w12,w12=w11.drew→∃ Sx5:World→Prop,Sx5 w12∧∃ (Client3:Option Addr) (Client3_len Client3_cap:Nat),(∀ u,Sx5 u→u.cell? ⟨fb,2,none⟩=some (.slice Client3 Client3_len Client3_cap))∧∃ (Client4:Int),(∀ u,Sx5 u→u.cell? ⟨b1,1,none⟩=some (.int .i64 Client4))∧idxS Client3 Client3_len Client4 7 λad5=>∃ (Done:Option Addr) (Done_len Done_cap:Nat),(∀ u,Sx5 u→u.cell? ⟨ad5.block,ad5.off+3,none⟩=some (.slice Done Done_len Done_cap))∧∃ (Client5:Option Addr) (Client5_len Client5_cap:Nat),(∀ u,Sx5 u→u.cell? ⟨fb,2,none⟩=some (.slice Client5 Client5_len Client5_cap))∧∃ (Client6:Int),(∀ u,Sx5 u→u.cell? ⟨b1,1,none⟩=some (.int .i64 Client6))∧idxS Client5 Client5_len Client6 7 λad6=>∃ (Have:Option Addr) (Have_len Have_cap:Nat),(∀ u,Sx5 u→u.cell? ⟨ad6.block,ad6.off+4,none⟩=some (.slice Have Have_len Have_cap))∧aV.ex λr=>(∀ u,Sx5 u→aE u ⟨bx,0,none⟩ 0 r.cells)∧idxS Done Done_len slot 2 λad7=>wrAt w12 ad7 0 r.cells∧∀ w13,w13=puts w12 ad7 0 r.cells→Sx5 w13∧idxS Have Have_len slot 1 λad8=>(∃ u,w13.cell? ad8=some u)∧w13.frozen? ad8=false∧∀ w14,w14=w13.setCell ad8 (.bool true)→FStR u fb F N Cl c m Av Q db hb (.bool b) w14) else (FStR u fb F N Cl c m Av Q db hb (.bool b) w11)):=by
  intro w11 P' Av' Q' sl slot done d bx hM hms hkp hAv hb1z hbx hbxu hcase b
  rcases hcase with ⟨rfl,rfl,hs0,hsm,hdn⟩ | ⟨rfl,rfl⟩
  ·refine cM rfl ?_
   rintro w12 hw12
   have hn12:New w11 w12:=by rw [hw12];exact aT _
   clear hw12
   have hM12:=hM.next hn12
   have hz12:=New.blk hn12 hb1z
   have hx12:=New.blk hn12 hbx
   have hdn12:=hdn.keep hn12 λ_ _ e=>e.elim
   obtain ⟨s,rfl⟩:=Int.eq_ofNat_of_zero_le hs0
   have hsm':s<m:=by omega
   have es2:0+(s:Int).toNat * 2=s * 2:=by omega
   have es1:0+(s:Int).toNat * 1=s:=by omega
   have hD:∀ {y:World} {P2:Nat→List bJ},cY y fb F N Cl P2→y.cell? ⟨F.cb,0+(c:Int).toNat * 7+3,none⟩=some (.slice (some ⟨db,0,none⟩) m cr.Dc):=λhy=>by
    have:=hy.ccell hgc (j:=3) rfl
    rw [hcd,hcdl] at this
    exact this
   have hH:∀ {y:World} {P2:Nat→List bJ},cY y fb F N Cl P2→y.cell? ⟨F.cb,0+(c:Int).toNat * 7+4,none⟩=some (.slice (some ⟨hb,0,none⟩) m cr.Hc):=λhy=>by
    have:=hy.ccell hgc (j:=4) rfl
    rw [hch,hchl] at this
    exact this
   refine ⟨λy=>(∃ P2,cY y fb F N Cl P2)∧Blk y b1 [.int .i64 (-1),.int .i64 c,.int .i64 i] TCh∧Blk y bx d.cells 53,⟨⟨_,hM12.st.fab⟩,hz12,hx12⟩,?_⟩
   refine ⟨_,_,_,λy hy=>by obtain ⟨⟨P2,hy2⟩,_⟩:=hy;exact hy2.fab.cell (i:=2) rfl,_,λy hy=>hy.2.1.cell (i:=1) rfl,bI (by omega) (by omega) ?_⟩
   refine ⟨_,_,_,λy hy=>by obtain ⟨⟨P2,hy2⟩,_⟩:=hy;exact hD hy2,?_⟩
   refine ⟨_,_,_,λy hy=>by obtain ⟨⟨P2,hy2⟩,_⟩:=hy;exact hy2.fab.cell (i:=2) rfl,_,λy hy=>hy.2.1.cell (i:=1) rfl,bI (by omega) (by omega) ?_⟩
   refine ⟨_,_,_,λy hy=>by obtain ⟨⟨P2,hy2⟩,_⟩:=hy;exact hH hy2,?_⟩
   refine aV.mk_ex d ⟨λy hy=>aH hy.2.2 rfl,bI (by omega) (by omega) ?_⟩
   rw [es2]
   have hdl:(gI dn).flatten.length=m * 2:=by rw [←hM12.dlen];exact j9 aV.len dn
   refine ⟨fF hM12.done (by rw [aV.len,hdl];omega) (aV.single d),?_⟩
   rintro w13 hw13
   have hk13:Keep (λk=>k=db) w12 w13:=by rw [hw13];exact ej _ _ _ _ _
   have hM13:=hM12.put hsm' hdn12 hw13
   clear hw13
   refine ⟨⟨⟨_,hM13.st.fab⟩,hk13.blk hz12 (by omega),hk13.blk hx12 (by omega)⟩,bI (by omega) (by omega) ?_⟩
   rw [es1]
   obtain ⟨bv,hgv⟩:∃ v,hv[s]?=some v:=⟨_,List.getElem?_eq_getElem (by rw [hM13.hlen];exact hsm')⟩
   refine ⟨⟨_,hM13.have_.cell (Dg hgv)⟩,hM13.have_.frozen,?_⟩
   rintro w14 hw14
   have hk14:Keep (λk=>k=hb) w13 w14:=by rw [hw14];exact aZ _ _ _ _
   have hM14:=hM13.mark hsm' hw14
   refine ⟨⟨_,rfl⟩,P',Av',Q',_,_,hM14.run,hms,?_,hAv⟩
   refine ((hkp.mono λk _ e=>.inl e).new hn12).trans ((hk13.mono λk _ e=>.inr (.inl e)).trans (hk14.mono λk _ e=>.inr (.inr e)) λ_ _ e=>e) λ_ _ e=>e
  ·exact eE rfl ⟨⟨_,rfl⟩,P',Av',Q',_,_,hM.run,hms,hkp.mono λk _ e=>.inl e,hAv⟩
 have eoff4:0+(i:Int).toNat * 4=i * 4:=by omega
 have hAo:∀ {y:World} {A:Nat→Prop},Mid y fb F N Cl P c m A Q db hb dn hv (-1)→A (F.pb c)∧∀ k,WBk N k→A k:=λhy=>⟨hy.st.own _ (.inr (.inr (.inr (.inr (.inl ⟨c,hc,rfl⟩))))),λk ⟨r,hr,hb⟩=>hy.st.own _ (.inr (.inr (.inr (.inr (.inr ⟨r,hr,hb⟩)))))⟩
 have stepC:∀ {y:World} {A:Nat→Prop} (hy:Mid y fb F N Cl P c m A Q db hb dn hv (-1)),Does 92 [.pointer (some ⟨F.pb c,i * 4,none⟩),.pointer (some ⟨F.nb,0+(i:Int).toNat * 2,none⟩)] y (StR y fb F N Cl P c i m pr A q qs):=λhy=>by
  have hpq:=(hy.st.pairs i pr hgi).2
  rw [hq] at hpq
  exact DS hy.st.fab hc hgi hrm (had P) (hup P) hy.st.ams (hAo hy).1 (hAo hy).2 hpq
 have hlb:∀ y,Sx y→y.cell? ⟨F.lb,0+(c:Int).toNat * 1,none⟩=some (.slice (some ⟨F.pb c,0,none⟩) N.length (F.pc c)):=λy hy=>by
  rw [hSx] at hy
  obtain ⟨⟨P2,hy2⟩,_⟩:=hy
  rw [show 0+(c:Int).toNat * 1=c by omega]
  exact Owns.cell hy2.live (vt hc)
 have hs08:=hn08.size
 refine ⟨Sx,sI h8.st.fab hz8,_,_,_,λy hy=>sF hy (j:=3) rfl,_,λy hy=>sC hy (j:=1) rfl,bI (by omega) (by omega) ⟨_,_,_,hlb,_,λy hy=>sC hy (j:=2) rfl,bI (by omega) (by omega) ⟨_,_,_,λy hy=>sF hy (j:=1) rfl,_,λy hy=>sC hy (j:=2) rfl,bI (by omega) (by omega) ?_⟩⟩⟩
 rw [eoff4]
 refine ⟨?_,?_⟩
 ·refine aC (stepC h8) ?_
  rintro x w9 hst
  obtain ⟨d,slot,done,P',Q',sl,rfl,hM9,hms,hk9,hcase⟩:=tq.step h8 hgi hq hst
  clear hst
  have hz9:=hk9.blk hz8 hb1o
  refine aV.mk_ex d ⟨_,_,_,rfl,sI hM9.st.fab hz9,?_⟩
  rintro b2 w10 hb2 hw10
  obtain ⟨hx10,hn10⟩:=aR hb2 hw10
  have hx10:Blk w10 b2 (aV.cells ⟨0,none,0,0⟩) 53:=hx10
  clear hw10
  have hs9:=hk9.size
  have hM10:=hM9.box hn10 (b:=b2) (by omega) hx10.lt
  have hz10:=New.blk hn10 hz9
  refine ⟨sI hM10.st.fab hz10,fF hx10 (by rw [aV.len];simp [aV.cells]) (aV.single d),?_⟩
  rintro w11 hw11
  have hk11:Keep (λk=>k=b2) w10 w11:=by rw [hw11];exact ej _ _ _ _ _
  have hx11:=hx10.puts (o:=0) (i:=0) (vs:=d.cells)
  rw [nU (by rfl)] at hx11
  have hw11':w11=puts w10 ⟨b2,0,none⟩ 0 d.cells:=hw11
  rw [←hw11'] at hx11
  clear hw11 hw11'
  have hO2:∀ k,F.own fb N Cl.length k→¬ k=b2:=λk hk e=>by have:=h.st.fab.lt hk;omega
  have hM11:=hM10.keep hk11 (λk _ e=>.inr e) hO2 (by omega) (by omega)
  have hb1l:=hz9.lt
  refine fin (sl:=sl) (slot:=slot) (done:=done) (d:=d) (bx:=b2) hM11 hms ?_ (λk hk=>?_) (hk11.blk hz10 (by omega)) hx11 (by omega) ?_ true
  ·exact (((Keep.of_new hn08).trans hk9 λ_ _ e=>e).new hn10).trans hk11 λk hlt e=>by omega
  ·rcases hk with e | e
   ·exact .inl e
   ·exact .inr (by omega)
  ·rcases hcase with ⟨q1,q2,q3,q4,q5⟩ | q1
   ·refine .inl ⟨q1,q2,q3,q4,?_⟩
    have hsz:=hx10.lt
    exact ((q5.to (Av':=λk=>Av k∨k=b2) λk hlt e=>e.elim id λe=>by omega).keep hn10 λ_ _ e=>e.elim).keep hk11 λk _ e=>.inr e
   ·exact .inr q1
 ·rintro b3 w15 hb3 hw15
  obtain ⟨hx15,hn15⟩:=aR hb3 hw15
  have hx15:Blk w15 b3 (aV.cells ⟨0,none,0,0⟩) 53:=hx15
  clear hw15
  have hM15:=h8.box hn15 (b:=b3) (by omega) hx15.lt
  have hz15:=New.blk hn15 hz8
  have hb1l:=hz8.lt
  refine ⟨sI hM15.st.fab hz15,?_⟩
  refine aC (stepC hM15) ?_
  rintro x w16 hst
  obtain ⟨d,slot,done,P',Q',sl,rfl,hM16,hms,hk16,hcase⟩:=tq.step hM15 hgi hq hst
  clear hst
  have hO2:∀ k,F.own fb N Cl.length k→¬ k=b3:=λk hk e=>by have:=h.st.fab.lt hk;omega
  have hz16:=hk16.blk hz15 hb1o
  have hx16:=hk16.blk hx15 (λe=>hO2 _ e rfl)
  refine aV.mk_ex d ⟨_,_,_,rfl,sI hM16.st.fab hz16,fF hx16 (by rw [aV.len];simp [aV.cells]) (aV.single d),?_⟩
  rintro w17 hw17
  have hk17:Keep (λk=>k=b3) w16 w17:=by rw [hw17];exact ej _ _ _ _ _
  have hx17:=hx16.puts (o:=0) (i:=0) (vs:=d.cells)
  rw [nU (by rfl)] at hx17
  have hw17':w17=puts w16 ⟨b3,0,none⟩ 0 d.cells:=hw17
  rw [←hw17'] at hx17
  clear hw17 hw17'
  have hM17:=hM16.keep hk17 (λk _ e=>.inr e) hO2 (by omega) (by omega)
  refine fin (sl:=sl) (slot:=slot) (done:=done) (d:=d) (bx:=b3) hM17 hms ?_ (λk hk=>?_) (hk17.blk hz16 (by omega)) hx17 (by omega) ?_ true
  ·exact (((Keep.of_new hn08).new hn15).trans hk16 λ_ _ e=>e).trans hk17 λk hlt e=>by omega
  ·rcases hk with e | e
   ·exact .inl e
   ·exact .inr (by omega)
  ·rcases hcase with ⟨q1,q2,q3,q4,q5⟩ | q1
   ·exact .inl ⟨q1,q2,q3,q4,q5.keep hk17 λk _ e=>.inr e⟩
   ·exact .inr q1
def Fl (w:World) (fb:Nat) (F:Fa) (N:List bS) (Cl:List CliR) (m:Nat) (x:Value) (w':World):Prop:=
 Keep (λk=>F.own fb N Cl.length k) w w'∧(x=.slice none 0 0∨∃ (db cap:Nat) (dn:List aV),x=.slice (some ⟨db,0,none⟩) m cap∧Blk w' db (gI dn).flatten 53∧dn.length=m∧w.heap.size≤db∧∀ d ∈ dn,DnAt w' (λk=>k=db) d)
theorem EI {w:World} {fb:Nat} {F:Fa} {N:List bS} {Cl:List CliR} {P:Nat→List bJ} (h:cY w fb F N Cl P) {c:Nat} (hc:c<Cl.length) (hid:Idle N Cl P) {a:Option Addr} {n cap:Nat} {l:List aU} (hn:n=l.length) (hb:Bat w (F.own fb N Cl.length) a l) (hfew:l.length≤1000000) :
  Does 13 [.pointer (some ⟨fb,0,none⟩),.int .i64 c,.slice a n cap] w (Fl w fb F N Cl l.length):=by
 refine does Tryz.func13 ?_
 rw [sg]
 refine aC (DV h hc hid hn hb hfew) ?_
 rintro x w1 (⟨e,rfl,he,hn1⟩ | ⟨rfl,Cl',P',Av,Q,db,hb',dn,hv,hrun,hlen,hdb,hhb,hk1,hav⟩)
 ·exact ⟨_,rfl,bQ (λ_=>⟨Keep.of_new hn1,.inl rfl⟩) (λe'=>absurd e' he)⟩
 refine ⟨_,rfl,bQ (λe=>absurd rfl e) (λ_=>?_)⟩
 generalize hmm:l.length=m at hrun hfew
 have hO:∀ k,F.own fb N Cl'.length k→F.own fb N Cl.length k:=λk hk=>by rw [hlen] at hk;exact hk
 refine aW mix (λq env u=>∃ (P':Nat→List bJ) (Av:Nat→Prop) (Q:Nat→List dE) (dn:List aV) (hv:List Bool) (jj:List Value),q=msr Q N.length∧env=fK ⟨fb,0,none⟩ c jj∧tq u fb F N Cl' P' c m Av Q db hb' dn hv∧Keep (λk=>F.own fb N Cl.length k) w u) (msr Q N.length)
  ⟨P',Av,Q,dn,hv,_,rfl,rfl,hrun,hk1.mono λk _ e=>?_⟩ ?_
 ·rcases e with e | e
  ·exact .inr (.inr (.inr (.inr (.inl ⟨c,hc,e⟩))))
  ·exact .inr (.inr (.inl e))
 rintro q env u ⟨P2,Av2,Q2,dn2,hv2,jj,rfl,rfl,hr,hku⟩
 rw [mY]
 refine aC (wG hr hfew) ?_
 rintro x w2 ⟨rfl,k,rfl,hk⟩
 refine ⟨_,rfl,aD (λhpos=>?_) (λhz=>?_)⟩
 ·obtain ⟨t,ht⟩:=hk (by omega)
  obtain ⟨j,p,g1,g2,_⟩:=hr.cov t ht
  refine aC (AH hr.st) ?_
  rintro x w3 ⟨ca,ccap,cs,rfl,hn3,hrd,hall,hne⟩
  have hcs:=hne ⟨j,g1,λe=>by rw [e] at g2;cases g2⟩
  obtain ⟨ch,cs',rfl⟩:∃ ch cs',cs=ch::cs':=by
   cases cs with
   |nil=>exact absurd rfl hcs
   |cons ch cs'=>exact ⟨ch,cs',rfl⟩
  obtain ⟨i,hch,hiN,hQi⟩:=hall ch (List.mem_cons_self ..)
  have hr3:=(hr.mid.next hn3).run
  refine ⟨_,_,_,rfl,gN (cells:=aJ.cells) aJ.len (by omega) (i:=0) (x:=ch) (l:=ch::cs') hrd rfl rfl rfl λb o hcc _=>aJ.mk_ex ch ⟨hcc,?_⟩⟩
  rw [hch]
  refine aC (DW hr3 hfew hiN hQi) ?_
  rintro x w4 ⟨⟨bb,rfl⟩,P4,Av4,Q4,dn4,hv4,hr4,hms,hk4,_⟩
  refine ⟨_,rfl,msr Q4 N.length,hms,P4,Av4,Q4,dn4,hv4,_,rfl,rfl,hr4,(hku.new hn3).trans hk4 λk hlt e=>?_⟩
  rcases e with e | e | e
  ·exact hO k e
  ·omega
  ·omega
 ·rw [oT]
  refine aC (EH hr hfew) ?_
  rintro x w3 (⟨rfl,rfl⟩ | ⟨tc,rfl,hk3⟩)
  ·exact ⟨_,_,_,_,rfl,hku,.inl rfl⟩
  ·refine ⟨_,_,_,_,rfl,hku.trans hk3 λk _ e=>by rw [e];exact .inr (.inr (.inl rfl)),.inr ⟨db,tc,dn2,rfl,?_,hr.dlen,hdb,λd hd=>?_⟩⟩
   ·exact hk3.blk hr.done λe=>hr.new_.1 (by rw [e];exact .inr (.inr (.inl rfl)))
   ·have hM:∀ k,k<w2.heap.size→k=F.cb→Av2 k:=λk _ e=>by rw [e];exact hr.st.own _ (.inr (.inr (.inl rfl)))
    exact ((hr.dok d hd).keep hk3 hM).to λk _ e=>by rw [e];exact hr.avd.1
end Go.Proofs.YtafopfaomkklpaaGreat
