/- A part of the proof. -/
import Derived.Test.YtafopfaomkklpaaGreatProg
import Derived.Test.YtafopfaomkklpaaGreatp03
import Derived.Test.YtafopfaomkklpaaGreatp04
set_option linter.unusedVariables false
namespace Go.Proofs.YtafopfaomkklpaaGreat
open Go.Proofs.Tryz
open Go.Eng IntKind
variable (w:World) (R:Value→World→Prop)
theorem qW (p0:Int):fnW prog f22 [(.int .i64 p0)] R w=(Calls prog 6 #[(.int .i64 p0),(.int .i64 7)] w λe w1=>∃ a,e=.returned (.int .i64 a)∧R (.int .i64 (i64.wrap (98+a))) w1):=by kernel_rfl
theorem qX (p0:Int):fnW prog f57 [.int .i64 p0] R w=(∀ b1 w1,b1=w.heap.size→w1=w.alloc (.cells #[.int .i64 0,.slice none 0 0] 31)→Calls prog 106 #[.int .i64 p0] w1 λe w2=>aF.ex λb=>∃ a,e=.returned (.tuple #[b.val,.int .i64 a])∧∀ b2 w3,b2=w2.heap.size→w3=w2.alloc (.cells #[.int .i64 0,.slice none 0 0] 31)→wrAt w3 ⟨b2,0,none⟩ 0 b.cells∧∀ w4,w4=puts w3 ⟨b2,0,none⟩ 0 b.cells→aF.ex λr=>aE w4 ⟨b2,0,none⟩ 0 r.cells∧wrAt w4 ⟨b1,0,none⟩ 0 r.cells∧∀ w5,w5=puts w4 ⟨b1,0,none⟩ 0 r.cells→aF.ex λc=>aE w5 ⟨b1,0,none⟩ 0 c.cells∧w5=w5∧R c.val w5):=by kernel_rfl
def bR (s1 s2:Int) (s3:Option Addr) (a b:Nat) (s4:Int) (c d:Addr) (f:Bool) (g:Int) (j:LV):LV:=jq j 0 1 (.int .i64 s1::.int .i64 s2::.slice s3 a b::.int .i64 s4::jq j 1 5 (.pointer (some c)::.pointer (some d)::.bool f::.int .i64 g::jq j 6 61 []))
def k9 (a b:Addr) (c:Bool) (j:LV):LV:=jq j 0 10 (.pointer (some a)::.pointer (some b)::.bool c::jq j 10 62 [])
theorem rR (p0 p1 p2:Int) (p3:Option Addr) (a b:Nat) (p4:Int):fnW prog f58 [.int .i64 p0,.int .i64 p1,.int .i64 p2,.slice p3 a b,.int .i64 p4] R w=(∀ b1 w1,b1=w.heap.size→w1=w.alloc (.cells #[.int .i64 0,.slice none 0 0] 31)→Calls prog 6 #[.int .i64 p0,.int .i64 16] w1 λe w2=>∃ c,e=.returned (.int .i64 c)∧∀ b2 w3,b2=w2.heap.size→w3=w2.alloc (.cells #[.int .i64 0,.slice none 0 0] 31)→wrAt w3 ⟨b2,0,none⟩ 0 [.int .i64 c,.slice none 0 0]∧∀ w4,w4=puts w3 ⟨b2,0,none⟩ 0 [.int .i64 c,.slice none 0 0]→bW prog (.loop (sub (aA f58) [1,1,1,0,1,0,0])) (bR p1 p2 p3 a b p4 ⟨b1,0,none⟩ ⟨b2,0,none⟩ false 0 (ji p0::uq 6 (ji p0::ji c::.agg #[.int .i64 c,.slice none 0 0]::uq 57 []))) (aK 0 (nx f58 [1,1,1,1] R)) w4):=by kernel_rfl
set_option maxHeartbeats 4000000 in
theorem mv (s1 s2:Int) (s3:Option Addr) (a b:Nat) (s4:Int) (c d:Addr) (f:Bool) (g:Int) (j:LV) (N1:LV→World→Prop):W prog (sub (aA f58) [1,1,1,0,1,0,0]) (bR s1 s2 s3 a b s4 c d f g j) (seqQ N1 (aK 0 (nx f58 [1,1,1,1] R))) w=((bif (decide ((g:Int)<s4)) then (Calls prog 6 #[.int .i64 s1,.int .i64 32] w λe w1=>∃ (h:Int),e=.returned (.int .i64 h)∧0≤(u64.wrap g)∧(bif (((band .i64 (bshr .i64 h (u64.wrap g)) 1):Int) == 0) then (N1 (bR s1 s2 s3 a b s4 c d f (i64.wrap (g+1)) (jq j 0 10 (ji g::ji s4::jb (decide ((g:Int)<s4))::ji g::ji (i64.wrap (g+1))::ji s1::ji h::ji g::ju (u64.wrap g)::ji (bshr .i64 h (u64.wrap g))::ji (band .i64 (bshr .i64 h (u64.wrap g)) 1)::jb (((band .i64 (bshr .i64 h (u64.wrap g)) 1):Int) == 0)::jq j 22 45 []))) w1) else (Calls prog 6 #[.int .i64 s2,.int .i64 32] w1 λe w2=>∃ (i:Int),e=.returned (.int .i64 i)∧0≤(u64.wrap g)∧∀ b1 w3,b1=w2.heap.size→w3=w2.alloc (.cells #[.int .i64 0,.int .i64 0,.bool false] 133)→wrAt w3 ⟨b1,0,none⟩ 0 [.int .i64 g,.int .i64 1,.bool (((band .i64 (bshr .i64 i (u64.wrap g)) 1):Int) == 1)]∧∀ w4,w4=puts w3 ⟨b1,0,none⟩ 0 [.int .i64 g,.int .i64 1,.bool (((band .i64 (bshr .i64 i (u64.wrap g)) 1):Int) == 1)]→(bif (decide ((g:Int)<(a:Nat))) then (idxS s3 a g 1 λad=>∃ x,w4.cell? ad=some (.int .i64 x)∧Calls prog 6 #[.int .i64 x,.int .i64 31] w4 λe w5=>∃ (k:Int),e=.returned (.int .i64 k)∧(∃ u,w5.cell? ⟨b1,1,none⟩=some u)∧w5.frozen? ⟨b1,1,none⟩=false∧∀ w6,w6=w5.setCell ⟨b1,1,none⟩ (.int .i64 (i64.wrap (k+1)))→(bif f then (∃ l m n,w6.cell? ⟨d.block,d.off+1,none⟩=some (.slice l m n)∧aB.ex λr=>aE w6 ⟨b1,0,none⟩ 0 r.cells∧∀ b2 w7,b2=w6.heap.size→w7=w6.alloc (.cells r.cells.toArray 133)→∃ (ap:Option Addr) (o p:Nat),∃ w8,(Builtin.append_ #[29,29] 29 #[.slice l m n,.slice (some ⟨b2,0,none⟩) 1 1]).run prog w7=.ok (.slice ap o p) w8∧(∃ u,w8.cell? ⟨d.block,d.off+1,none⟩=some u)∧w8.frozen? ⟨d.block,d.off+1,none⟩=false∧∀ w9,w9=w8.setCell ⟨d.block,d.off+1,none⟩ (.slice ap o p)→N1 (bR s1 s2 s3 a b s4 c d true (i64.wrap (g+1)) (jq j 0 6 (jp ⟨b1,0,none⟩::jg j 7::jg j 8::jg j 9::ji g::ji s4::jb (decide ((g:Int)<s4))::ji g::ji (i64.wrap (g+1))::ji s1::ji h::ji g::ju (u64.wrap g)::ji (bshr .i64 h (u64.wrap g))::ji (band .i64 (bshr .i64 h (u64.wrap g)) 1)::jb (((band .i64 (bshr .i64 h (u64.wrap g)) 1):Int) == 0)::ji g::ji s2::ji i::ji g::ju (u64.wrap g)::ji (bshr .i64 i (u64.wrap g))::ji (band .i64 (bshr .i64 i (u64.wrap g)) 1)::jb (((band .i64 (bshr .i64 i (u64.wrap g)) 1):Int) == 1)::.agg #[.int .i64 g,.int .i64 1,.bool (((band .i64 (bshr .i64 i (u64.wrap g)) 1):Int) == 1)]::ji g::js s3 a b::jn a::jb (decide ((g:Int)<(a:Nat)))::js s3 a b::ji g::jp ad::ji x::ji k::ji (i64.wrap (k+1))::jp ⟨b1,1,none⟩::jb f::jb true::uq 2 (jb true::jf d 1::js l m n::r.val::js (some ⟨b2,0,none⟩) 1 1::js ap o p::jf d 1::jq j 53 14 [])))) w9) else (∃ q,w6.cell? ⟨b1,2,none⟩=some (.bool q)∧∃ s t v,w6.cell? ⟨d.block,d.off+1,none⟩=some (.slice s t v)∧aB.ex λr1=>aE w6 ⟨b1,0,none⟩ 0 r1.cells∧∀ b3 aq,b3=w6.heap.size→aq=w6.alloc (.cells r1.cells.toArray 133)→∃ (y:Option Addr) (z aa:Nat),∃ ar,(Builtin.append_ #[29,29] 29 #[.slice s t v,.slice (some ⟨b3,0,none⟩) 1 1]).run prog aq=.ok (.slice y z aa) ar∧(∃ u,ar.cell? ⟨d.block,d.off+1,none⟩=some u)∧ar.frozen? ⟨d.block,d.off+1,none⟩=false∧∀ au,au=ar.setCell ⟨d.block,d.off+1,none⟩ (.slice y z aa)→N1 (bR s1 s2 s3 a b s4 c d q (i64.wrap (g+1)) (jq j 0 6 (jp ⟨b1,0,none⟩::jg j 7::jg j 8::jg j 9::ji g::ji s4::jb (decide ((g:Int)<s4))::ji g::ji (i64.wrap (g+1))::ji s1::ji h::ji g::ju (u64.wrap g)::ji (bshr .i64 h (u64.wrap g))::ji (band .i64 (bshr .i64 h (u64.wrap g)) 1)::jb (((band .i64 (bshr .i64 h (u64.wrap g)) 1):Int) == 0)::ji g::ji s2::ji i::ji g::ju (u64.wrap g)::ji (bshr .i64 i (u64.wrap g))::ji (band .i64 (bshr .i64 i (u64.wrap g)) 1)::jb (((band .i64 (bshr .i64 i (u64.wrap g)) 1):Int) == 1)::.agg #[.int .i64 g,.int .i64 1,.bool (((band .i64 (bshr .i64 i (u64.wrap g)) 1):Int) == 1)]::ji g::js s3 a b::jn a::jb (decide ((g:Int)<(a:Nat)))::js s3 a b::ji g::jp ad::ji x::ji k::ji (i64.wrap (k+1))::jp ⟨b1,1,none⟩::jb f::jb false::jp ⟨b1,2,none⟩::jb q::jb q::jf d 1::js s t v::r1.val::js (some ⟨b3,0,none⟩) 1 1::js y z aa::jf d 1::jq j 53 14 []))) au))) else ((bif f then (∃ ab ac ae,w4.cell? ⟨d.block,d.off+1,none⟩=some (.slice ab ac ae)∧aB.ex λr2=>aE w4 ⟨b1,0,none⟩ 0 r2.cells∧∀ b4 av,b4=w4.heap.size→av=w4.alloc (.cells r2.cells.toArray 133)→∃ (af:Option Addr) (ag ah:Nat),∃ aw,(Builtin.append_ #[29,29] 29 #[.slice ab ac ae,.slice (some ⟨b4,0,none⟩) 1 1]).run prog av=.ok (.slice af ag ah) aw∧(∃ u,aw.cell? ⟨d.block,d.off+1,none⟩=some u)∧aw.frozen? ⟨d.block,d.off+1,none⟩=false∧∀ ax,ax=aw.setCell ⟨d.block,d.off+1,none⟩ (.slice af ag ah)→N1 (bR s1 s2 s3 a b s4 c d true (i64.wrap (g+1)) (jq j 0 6 (jp ⟨b1,0,none⟩::jg j 7::jg j 8::jg j 9::ji g::ji s4::jb (decide ((g:Int)<s4))::ji g::ji (i64.wrap (g+1))::ji s1::ji h::ji g::ju (u64.wrap g)::ji (bshr .i64 h (u64.wrap g))::ji (band .i64 (bshr .i64 h (u64.wrap g)) 1)::jb (((band .i64 (bshr .i64 h (u64.wrap g)) 1):Int) == 0)::ji g::ji s2::ji i::ji g::ju (u64.wrap g)::ji (bshr .i64 i (u64.wrap g))::ji (band .i64 (bshr .i64 i (u64.wrap g)) 1)::jb (((band .i64 (bshr .i64 i (u64.wrap g)) 1):Int) == 1)::.agg #[.int .i64 g,.int .i64 1,.bool (((band .i64 (bshr .i64 i (u64.wrap g)) 1):Int) == 1)]::ji g::js s3 a b::jn a::jb (decide ((g:Int)<(a:Nat)))::jq j 35 7 (jb f::jb true::uq 2 (jb true::jf d 1::js ab ac ae::r2.val::js (some ⟨b4,0,none⟩) 1 1::js af ag ah::jf d 1::jq j 53 14 []))))) ax) else (∃ ai,w4.cell? ⟨b1,2,none⟩=some (.bool ai)∧∃ aj ak al,w4.cell? ⟨d.block,d.off+1,none⟩=some (.slice aj ak al)∧aB.ex λr3=>aE w4 ⟨b1,0,none⟩ 0 r3.cells∧∀ b5 ay,b5=w4.heap.size→ay=w4.alloc (.cells r3.cells.toArray 133)→∃ (am:Option Addr) (an ao:Nat),∃ az,(Builtin.append_ #[29,29] 29 #[.slice aj ak al,.slice (some ⟨b5,0,none⟩) 1 1]).run prog ay=.ok (.slice am an ao) az∧(∃ u,az.cell? ⟨d.block,d.off+1,none⟩=some u)∧az.frozen? ⟨d.block,d.off+1,none⟩=false∧∀ a0,a0=az.setCell ⟨d.block,d.off+1,none⟩ (.slice am an ao)→N1 (bR s1 s2 s3 a b s4 c d ai (i64.wrap (g+1)) (jq j 0 6 (jp ⟨b1,0,none⟩::jg j 7::jg j 8::jg j 9::ji g::ji s4::jb (decide ((g:Int)<s4))::ji g::ji (i64.wrap (g+1))::ji s1::ji h::ji g::ju (u64.wrap g)::ji (bshr .i64 h (u64.wrap g))::ji (band .i64 (bshr .i64 h (u64.wrap g)) 1)::jb (((band .i64 (bshr .i64 h (u64.wrap g)) 1):Int) == 0)::ji g::ji s2::ji i::ji g::ju (u64.wrap g)::ji (bshr .i64 i (u64.wrap g))::ji (band .i64 (bshr .i64 i (u64.wrap g)) 1)::jb (((band .i64 (bshr .i64 i (u64.wrap g)) 1):Int) == 1)::.agg #[.int .i64 g,.int .i64 1,.bool (((band .i64 (bshr .i64 i (u64.wrap g)) 1):Int) == 1)]::ji g::js s3 a b::jn a::jb (decide ((g:Int)<(a:Nat)))::jq j 35 7 (jb f::jb false::jp ⟨b1,2,none⟩::jb ai::jb ai::jf d 1::js aj ak al::r3.val::js (some ⟨b5,0,none⟩) 1 1::js am an ao::jf d 1::jq j 53 14 [])))) a0))))))) else (W prog (sub (aA f58) [1,1,1,1]) (k9 c d f (jg j 0::ji s1::ji s2::js s3 a b::ji s4::jq j 1 5 (ji g::jq j 6 4 (ji g::ji s4::jb (decide ((g:Int)<s4))::jq j 13 54 [])))) (retQ prog f58 R) w))):=by kernel_rfl
theorem oJ (a b:Addr) (c:Bool) (j:LV):W prog (sub (aA f58) [1,1,1,1]) (k9 a b c j) (retQ prog f58 R) w=(∃ d f g,w.cell? ⟨b.block,b.off+1,none⟩=some (.slice d f g)∧(bif (((f:Nat):Int) == 0) then (∀ b1 w1,b1=w.heap.size→w1=w.alloc (.cells #[.int .i64 0,.int .i64 1,.bool false] 133)→(∃ u,w1.cell? ⟨b.block,b.off+1,none⟩=some u)∧w1.frozen? ⟨b.block,b.off+1,none⟩=false∧∀ w2,w2=w1.setCell ⟨b.block,b.off+1,none⟩ (.slice (some ⟨b1,0,none⟩) 1 1)→(bif (!c) then (∃ h i k,w2.cell? ⟨b.block,b.off+1,none⟩=some (.slice h i k)∧idxS h i 0 3 λad=>(∃ u,w2.cell? ⟨ad.block,ad.off+2,none⟩=some u)∧w2.frozen? ⟨ad.block,ad.off+2,none⟩=false∧∀ w3,w3=w2.setCell ⟨ad.block,ad.off+2,none⟩ (.bool true)→aF.ex λr=>aE w3 b 0 r.cells∧wrAt w3 a 0 r.cells∧∀ w4,w4=puts w3 a 0 r.cells→aF.ex λo=>aE w4 a 0 o.cells∧w4=w4∧R o.val w4) else (aF.ex λr1=>aE w2 b 0 r1.cells∧wrAt w2 a 0 r1.cells∧∀ w5,w5=puts w2 a 0 r1.cells→aF.ex λp=>aE w5 a 0 p.cells∧w5=w5∧R p.val w5))) else ((bif (!c) then (∃ l m n,w.cell? ⟨b.block,b.off+1,none⟩=some (.slice l m n)∧idxS l m 0 3 λq=>(∃ u,w.cell? ⟨q.block,q.off+2,none⟩=some u)∧w.frozen? ⟨q.block,q.off+2,none⟩=false∧∀ w6,w6=w.setCell ⟨q.block,q.off+2,none⟩ (.bool true)→aF.ex λr2=>aE w6 b 0 r2.cells∧wrAt w6 a 0 r2.cells∧∀ w7,w7=puts w6 a 0 r2.cells→aF.ex λs=>aE w7 a 0 s.cells∧w7=w7∧R s.val w7) else (aF.ex λr3=>aE w b 0 r3.cells∧wrAt w a 0 r3.cells∧∀ w8,w8=puts w a 0 r3.cells→aF.ex λt=>aE w8 a 0 t.cells∧w8=w8∧R t.val w8))))):=by kernel_rfl
def ew (s0:Int) (s2 s4:Addr) (s5:Int) (j:LV):LV:=.int .i64 s0::jq j 0 1 (.pointer (some s2)::jq j 1 1 (.pointer (some s4)::.int .i64 s5::jq j 2 21 []))
def iY (a b:Addr) (j:LV):LV:=jq j 0 2 (.pointer (some a)::jq j 2 1 (.pointer (some b)::jq j 3 22 []))
theorem pS (p0:Int):fnW prog f106 [.int .i64 p0] R w=(∀ b1 w1,b1=w.heap.size→w1=w.alloc (.cells #[.int .i64 0,.slice none 0 0] 31)→(bif (decide ((p0:Int)<1)) then (wrAt w1 ⟨b1,0,none⟩ 0 [.int .i64 0,.slice none 0 0]∧∀ w2,w2=puts w1 ⟨b1,0,none⟩ 0 [.int .i64 0,.slice none 0 0]→aF.ex λa=>aE w2 ⟨b1,0,none⟩ 0 a.cells∧w2=w2∧R (.tuple #[a.val,.int .i64 1]) w2) else ((bif (decide ((p0:Int)>5)) then (wrAt w1 ⟨b1,0,none⟩ 0 [.int .i64 0,.slice none 0 0]∧∀ w3,w3=puts w1 ⟨b1,0,none⟩ 0 [.int .i64 0,.slice none 0 0]→aF.ex λb=>aE w3 ⟨b1,0,none⟩ 0 b.cells∧w3=w3∧R (.tuple #[b.val,.int .i64 1]) w3) else (∀ b2 w4,b2=w1.heap.size→w4=w1.alloc (.cells #[.int .i64 0,.slice none 0 0] 31)→wrAt w4 ⟨b2,0,none⟩ 0 [.int .i64 0,.slice none 0 0]∧∀ w5,w5=puts w4 ⟨b2,0,none⟩ 0 [.int .i64 0,.slice none 0 0]→bW prog (.loop (sub (aA f106) [1,1,1,0,1,0,0])) (ew p0 ⟨b1,0,none⟩ ⟨b2,0,none⟩ 0 (undef::ji 0::ji p0::jb (decide ((p0:Int)<1))::jb false::ji p0::jb (decide ((p0:Int)>5))::jb (decide ((p0:Int)>5))::undef::.agg #[.int .i64 0,.slice none 0 0]::uq 13 [])) (aK 0 (nx f106 [1,1,1,1] R)) w5))))):=by kernel_rfl
theorem kO (s0:Int) (s2 s4:Addr) (s5:Int) (j:LV) (N1:LV→World→Prop):W prog (sub (aA f106) [1,1,1,0,1,0,0]) (ew s0 s2 s4 s5 j) (seqQ N1 (aK 0 (nx f106 [1,1,1,1] R))) w=((bif (decide ((s5:Int)<s0)) then (∃ a b c,w.cell? ⟨s4.block,s4.off+1,none⟩=some (.slice a b c)∧∀ b1 w1,b1=w.heap.size→w1=w.alloc (.cells #[.int .i64 s5,.int .i64 1,.bool true] 133)→∃ ap d f,∃ w2,(Builtin.append_ #[29,29] 29 #[.slice a b c,.slice (some ⟨b1,0,none⟩) 1 1]).run prog w1=.ok (.slice ap d f) w2∧(∃ u,w2.cell? ⟨s4.block,s4.off+1,none⟩=some u)∧w2.frozen? ⟨s4.block,s4.off+1,none⟩=false∧∀ w3,w3=w2.setCell ⟨s4.block,s4.off+1,none⟩ (.slice ap d f)→N1 (ew s0 s2 s4 (i64.wrap (s5+1)) (jq j 0 10 [ji s5,ji s0,jb (decide ((s5:Int)<s0)),ji s5,ji (i64.wrap (s5+1)),jf s4 1,js a b c,ji s5,.agg #[.int .i64 s5,.int .i64 1,.bool true],js (some ⟨b1,0,none⟩) 1 1,js ap d f,jf s4 1,jg j 22])) w3) else (W prog (sub (aA f106) [1,1,1,1]) (iY s2 s4 (ji s0::jg j 0::jg j 1::ji s5::jq j 2 8 (ji s5::ji s0::jb (decide ((s5:Int)<s0))::jq j 13 10 []))) (retQ prog f106 R) w))):=by kernel_rfl
theorem mw (a b:Addr) (j:LV):W prog (sub (aA f106) [1,1,1,1]) (iY a b j) (retQ prog f106 R) w=(aF.ex λr=>aE w b 0 r.cells∧wrAt w a 0 r.cells∧∀ w1,w1=puts w a 0 r.cells→aF.ex λc=>aE w1 a 0 c.cells∧w1=w1∧R (.tuple #[c.val,.int .i64 0]) w1):=by kernel_rfl
end Go.Proofs.YtafopfaomkklpaaGreat
namespace Go.Proofs.YtafopfaomkklpaaGreat
open Go.Proofs.Tryz
open Go.Eng
abbrev NoM:Nat→Prop:=λ_=>False
theorem Fe (a:Option Addr):Off NoM a:=by cases a with
 |none=>exact trivial
 |some a=>exact id
theorem jT {x n:Int} (hn:1≤n):0≤(if n<1 then 0 else x % n)∧(if n<1 then 0 else x % n)<n:=by
 rw [if_neg (by omega)]
 exact ⟨Int.emod_nonneg x (by omega),Int.emod_lt_of_pos x (by omega)⟩
theorem Lines_c (w:World) {x:Int} (hx:I64 x):Does 22 [.int .i64 x] w λv w'=>∃ n:Int,v=.int .i64 n∧98≤n∧n≤104∧w'=w:=by
 refine does Tryz.func22 ?_
 rw [qW]
 refine aC (dK w x 7 hx (by omega)) ?_
 rintro v w1 ⟨rfl,rfl⟩
 have:=jT (x:=x) (n:=7) (by omega)
 refine ⟨_,rfl,_,rfl,?_,?_,rfl⟩<;>rw [w64 (by omega) (by omega)]<;>omega
structure DA (v:Vw):Prop where
 num:0≤v.number∧v.number<16
 boot:∀ m ∈ v.mem,1≤m.Boot
 ne:v.mem≠[]
 few:v.mem.length≤5
abbrev Ao (A:Nat):Nat→Prop:=λk=>k<A
theorem Eu {w:World} {n:Int} {a:Option Addr} {c A:Nat} {L:List aB} (ho:Owns w TMb 3 a L.length c (gV L).flatten) (hl:L.length≤1000000) (hf:∀ k,isB a k→A≤k):gO (Ao A) w ⟨n,a,L.length,c⟩ ⟨n,L⟩:=
 ⟨rfl,rfl,ho.le,ho.rd,C8 ho.rd λk hk h=>Nat.lt_irrefl _ (Nat.lt_of_lt_of_le h (hf k hk)),hl⟩
theorem gO.mono {M M':Nat→Prop} {w:World} {r:aF} {v:Vw} (h:gO M w r v) (hm:∀ k,k<w.heap.size→M' k→M k):gO M' w r v:=by
 refine ⟨h.num,h.len,h.cap,h.rd,?_,h.small⟩
 rcases h.off with e | e
 ·exact .inl e
 ·rcases h.rd with e2 | ⟨b,o,e2,hc⟩
  ·exact .inl e2
  ·by_cases he:(gV v.mem).flatten=[]
   ·exact .inl he
   ·rw [e2] at e ⊢
    refine .inr λhM=>e (hm _ ?_ hM)
    cases hl:(gV v.mem).flatten with
    |nil=>exact absurd hl he
    |cons x xs=>exact xI (hc 0 x (by rw [hl];rfl))
theorem gO.keep {M N:Nat→Prop} {w w':World} {r:aF} {v:Vw} (h:gO M w r v) (hk:Keep N w w') (hN:∀ k,N k→M k):gO M w' r v:=
 ⟨h.num,h.len,h.cap,h.rd.keep hk (h.off.imp id λe=>by cases ha:r.Members with
  |none=>exact trivial
  |some a=>rw [ha] at e;exact λhn=>e (hN _ hn)),h.off,h.small⟩
theorem zv (w:World) {n:Int} (h1:1≤n) (h5:n≤5):Does 106 [.int .i64 n] w λx w'=>∃ (a:Option Addr) (c:Nat) (L:List aB),x=.tuple #[aF.val ⟨0,a,L.length,c⟩,.int .i64 0]∧Owns w' TMb 3 a L.length c (gV L).flatten∧New w w'∧(∀ m ∈ L,1≤m.Boot)∧(L.length:Int)=n∧(∀ k,isB a k→w.heap.size≤k):=by
 refine does Tryz.func106 ?_
 rw [pS]
 rintro b1 w1 hb1 hw1
 obtain ⟨hz1,hn1⟩:=aR hb1 hw1
 have hz1:Blk w1 b1 (aF.cells ⟨0,none,0,0⟩) TVw:=hz1
 clear hw1
 refine aD (λhp=>absurd hp (by omega)) (λ_=>aD (λhp=>absurd hp (by omega)) (λ_=>?_))
 refine mr (vs:=aF.cells ⟨0,none,0,0⟩) rfl (aF.single _) λb2 w3 hb2 hz3 hn3=>?_
 have hz13:=New.blk hn3 hz1
 have hn03:=hn1.new hn3
 have hs1:=hn1.size
 have hs1':=hz1.lt
 refine aW mix (λm env u=>∃ (i:Nat) (a:Option Addr) (c:Nat) (L:List aB) (jj:List Value),m=n.toNat - i∧i≤n.toNat∧env=ew n ⟨b1,0,none⟩ ⟨b2,0,none⟩ i jj∧New w u∧Blk u b1 (aF.cells ⟨0,none,0,0⟩) TVw∧Blk u b2 (aF.cells ⟨0,a,L.length,c⟩) TVw∧Owns u TMb 3 a L.length c (gV L).flatten∧(∀ k,isB a k→b2<k)∧(∀ m ∈ L,1≤m.Boot)∧L.length=i) n.toNat
  ⟨0,none,0,[],_,by omega,by omega,rfl,hn03,hz13,hz3,Owns.nil _ _ _,(λk hk=>by obtain ⟨o,ho⟩:=hk;cases ho),by simp,rfl⟩ ?_
 rintro m env u ⟨i,a,c,L,jj,rfl,hi,rfl,hnu,hu1,hu2,hown,hfr,hbt,hLi⟩
 rw [kO]
 refine aD (λhq=>?_) (λhq=>?_)
 ·refine ⟨_,_,_,hu2.cell (i:=1) rfl,?_⟩
  refine xM hown rfl (m:=⟨i,1,true⟩) (by omega) ?_
  intro b3 ap cap u3 hb3 ho3 hk3 hap
  have hu13:=hk3.blk hu1 λe=>by have:=hfr b1 e;omega
  have hu23:=hk3.blk hu2 λe=>by have:=hfr b2 e;omega
  have hus:=hu2.lt
  have hfr3:∀ k,isB ap k→b2<k:=λk hk=>by
   rcases hap k hk with h1 | h1
   ·exact hfr k h1
   ·omega
  refine qR (b:=b2) hu23 (o:=0+1) (by simp [aF.cells]) λu4 hu24 hk4=>?_
  rw [w64 (by omega) (by omega)]
  refine ⟨n.toNat - (i+1),by omega,i+1,ap,cap,L++[⟨i,1,true⟩],_,rfl,by omega,rfl,?_,hk4.blk hu13 (by omega),?_,?_,hfr3,?_,by simp [hLi]⟩
  ·have h1:New w u3:=wo hnu hk3 λk hk=>by have:=hfr k hk;omega
   exact h1.trans hk4 λk hlt e=>by omega
  ·rw [List.length_append];exact hu24
  ·rw [List.length_append];exact Owns.keep hk4 ho3 λk hk e=>by have:=hfr3 k hk;omega
  ·intro m hm
   rcases List.mem_append.1 hm with h | h
   ·exact hbt m h
   ·simp at h;subst h;simp
 ·have hin:i=n.toNat:=by omega
  rw [mw]
  refine aF.mk_ex ⟨0,a,L.length,c⟩ ⟨aH hu2 rfl,?_⟩
  refine ⟨fF hu1 (by simp [aF.cells]) (aF.single _),λu2 hu=>?_⟩
  have hk:Keep (λk=>k=b1) u u2:=by rw [hu];exact ej _ _ _ _ _
  have hz:Blk u2 b1 (aF.cells ⟨0,a,L.length,c⟩) TVw:=by rw [hu];exact hu1.puts
  refine aF.mk_ex ⟨0,a,L.length,c⟩ ⟨aH hz rfl,rfl,a,c,L,rfl,?_,?_,hbt,by omega,?_⟩
  ·exact Owns.keep hk hown λk hk' e=>by have:=hfr k hk';omega
  ·exact hnu.trans hk λk hlt e=>by omega
  ·intro k hk';have:=hfr k hk';omega
theorem DB (w:World) {n:Int} (h1:1≤n) (h5:n≤5):Does 57 [.int .i64 n] w λx w'=>∃ r v,x=aF.val r∧gO (Ao w.heap.size) w' r v∧New w w'∧DA v∧(v.mem.length:Int)=n:=by
 refine does Tryz.func57 ?_
 rw [qX]
 rintro b1 w1 hb1 hw1
 obtain ⟨hz1,hn1⟩:=aR hb1 hw1
 have hz1:Blk w1 b1 (aF.cells ⟨0,none,0,0⟩) TVw:=hz1
 clear hw1
 refine aC (zv w1 h1 h5) ?_
 rintro v w2 ⟨a,c,L,rfl,hown,hn2,hbt,hLn,hfr⟩
 refine aF.mk_ex ⟨0,a,L.length,c⟩ ⟨_,rfl,?_⟩
 refine mr (vs:=aF.cells ⟨0,a,L.length,c⟩) rfl (aF.single _) λb2 w3 hb2 hz3 hn3=>?_
 refine aF.mk_ex ⟨0,a,L.length,c⟩ ⟨aH hz3 rfl,?_⟩
 have hz13:=New.blk (hn2.new hn3) hz1
 have hown3:=Owns.new hn3 hown
 refine ⟨fF hz13 (by simp [aF.cells]) (aF.single _),λu2 hu=>?_⟩
 have hk:Keep (λk=>k=b1) w3 u2:=by rw [hu];exact ej _ _ _ _ _
 have hz:Blk u2 b1 (aF.cells ⟨0,a,L.length,c⟩) TVw:=by rw [hu];exact hz13.puts
 have hne:∀ k,isB a k→k≠b1:=λk hk' e=>by
  subst e
  obtain ⟨o,ho⟩:=hk'
  rcases hown3.2 with ⟨h,_⟩ | ⟨g,cur,he,hg,_⟩
  ·rw [h] at ho;cases ho
  ·rw [he] at ho
   simp at ho
   exact absurd (hg.uniq (ho.1▸hz13)).2 (by decide)
 refine aF.mk_ex ⟨0,a,L.length,c⟩ ⟨aH hz rfl,rfl,_,⟨0,L⟩,rfl,Eu (Owns.keep hk hown3 hne) (by omega) (λk hk'=>by have:=hfr k hk';have:=hn1.size;omega),?_,⟨⟨by simp,by simp⟩,hbt,λe=>?_,?_⟩,hLn⟩
 ·exact (hn1.new (hn2.new hn3)).trans hk λk hlt e=>by omega
 ·have e:L=[]:=e
  rw [e] at hLn
  simp at hLn
  omega
 ·show L.length≤5
  omega
theorem yL {u:World} {b1 b2:Nat} {r:aF} {zs:List Value} (h1:Blk u b1 zs TVw) (hl:zs.length=2) (h2:Blk u b2 r.cells TVw) {K:aF→World→Prop} (hk:∀ w',Keep (λk=>k=b1) u w'→K r w') :
  aF.ex λr=>aE u ⟨b2,0,none⟩ 0 r.cells∧wrAt u ⟨b1,0,none⟩ 0 r.cells∧∀ w4,w4=puts u ⟨b1,0,none⟩ 0 r.cells→aF.ex λres=>aE w4 ⟨b1,0,none⟩ 0 res.cells∧w4=w4∧K res w4:=by
 refine aF.mk_ex r ⟨aH h2 rfl,fF h1 (by rw [hl];exact Nat.le_refl _) (aF.single _),λw4 hw=>?_⟩
 have hk4:Keep (λk=>k=b1) u w4:=by rw [hw];exact ej _ _ _ _ _
 have hz:Blk w4 b1 r.cells TVw:=by
  rw [hw]
  have:=h1.puts (o:=0) (i:=0) (vs:=r.cells)
  rw [Nat.add_zero,nU (by rw [hl];rfl)] at this
  exact this
 exact aF.mk_ex r ⟨aH hz rfl,rfl,hk w4 hk4⟩
theorem Ev {u:World} {b2 bm:Nat} {num:Int} {a:Option Addr} {n c:Nat} {L:List aB} (h2:Blk u b2 (aF.cells ⟨num,a,n,c⟩) TVw) (hown:Owns u TMb 3 a n c (gV L).flatten) (hn:n=L.length) (hfr:∀ k,isB a k→b2<k) {m:aB} (hm:Blk u bm m.cells TMb) (hb:n≤1000000)
  {K:Option Addr→Nat→Nat→aB→Nat→Option Addr→Nat→Nat→World→Prop}
  (hk:∀ x b3 ap cap w9,Blk w9 b2 (aF.cells ⟨num,ap,n+1,cap⟩) TVw→Owns w9 TMb 3 ap (n+1) cap (gV (L++[m])).flatten→Keep (λk=>k=b2∨isB a k) u w9→(∀ k,isB ap k→b2<k)→K a n c x b3 ap (n+1) cap w9) :
  ∃ (Mm:Option Addr) (Ml Mc:Nat),u.cell? ⟨b2,0+1,none⟩=some (.slice Mm Ml Mc)∧aB.ex λr=>aE u ⟨bm,0,none⟩ 0 r.cells∧∀ b3 w7,b3=u.heap.size→w7=u.alloc (.cells r.cells.toArray TMb)→∃ (ap:Option Addr) (al ac:Nat),∃ w8,(Builtin.append_ #[TSM,TSM] TSM #[(.slice Mm Ml Mc),(.slice (some ⟨b3,0,none⟩) 1 1)]).run prog w7=.ok (.slice ap al ac) w8∧
   (∃ x,w8.cell? ⟨b2,0+1,none⟩=some x)∧w8.frozen? ⟨b2,0+1,none⟩=false∧∀ w9,w9=w8.setCell ⟨b2,0+1,none⟩ (.slice ap al ac)→K Mm Ml Mc r b3 ap al ac w9:=by
 refine ⟨a,n,c,h2.cell (i:=1) rfl,aB.mk_ex m ⟨aH hm rfl,?_⟩⟩
 refine xM hown hn hb ?_
 intro b3 ap cap u3 hb3 ho3 hk3 hap
 have hu23:=hk3.blk h2 λe=>by have:=hfr b2 e;omega
 have hus:=h2.lt
 have hfr3:∀ k,isB ap k→b2<k:=λk hk=>by
  rcases hap k hk with h1 | h1
  ·exact hfr k h1
  ·omega
 refine qR (b:=b2) hu23 (o:=0+1) (by simp [aF.cells]) λu4 hu24 hk4=>?_
 refine hk m b3 ap cap u4 hu24 ?_ (((hk3.mono λ_ _ h=>.inr h).trans hk4 λ_ _ h=>.inl h)) hfr3
 exact Owns.keep hk4 ho3 λk hk e=>by have:=hfr3 k hk;omega
set_option maxHeartbeats 1000000 in
theorem vo (w:World) {number mask full n:Int} {a3:Option Addr} {n3 c3:Nat} {boots:List Int} (h1:I64 number) (h2:I64 mask) (h3:I64 full) (hr:Rd w a3 (is boots)) (hb:n3=boots.length) (hbs:boots.length≤1000) (hbi:∀ x ∈ boots,I64 x) (hn:1≤n) (hn5:n≤5) :
  Does 58 [.int .i64 number,.int .i64 mask,.int .i64 full,.slice a3 n3 c3,.int .i64 n] w λx w'=>∃ r v,x=aF.val r∧gO (Ao w.heap.size) w' r v∧New w w'∧DA v:=by
 refine does Tryz.func58 ?_
 rw [rR]
 rintro b1 w1 hb1 hw1
 obtain ⟨hz1,hn1⟩:=aR hb1 hw1
 have hz1:Blk w1 b1 (aF.cells ⟨0,none,0,0⟩) TVw:=hz1
 clear hw1
 refine aC (dK w1 number 16 h1 (by omega)) ?_
 rintro v w2 ⟨rfl,rfl⟩
 have hnum:=jT (x:=number) (n:=16) (by omega)
 generalize (if (16:Int)<1 then 0 else number % 16)=num at hnum
 refine ⟨_,rfl,?_⟩
 refine mr (vs:=aF.cells ⟨num,none,0,0⟩) rfl (aF.single _) λb2 w3 hb2 hz3 hn3=>?_
 have hz13:=New.blk hn3 hz1
 have hn03:=hn1.new hn3
 have hs1:=hn1.size
 have hs1':=hz1.lt
 refine aW mix (λm env u=>∃ (i:Nat) (any:Bool) (a:Option Addr) (nn c:Nat) (L:List aB) (jj:List Value),m=n.toNat - i∧i≤n.toNat∧env=bR mask full a3 n3 c3 n ⟨b1,0,none⟩ ⟨b2,0,none⟩ any i jj∧New w u∧Blk u b1 (aF.cells ⟨0,none,0,0⟩) TVw∧Blk u b2 (aF.cells ⟨num,a,nn,c⟩) TVw∧Owns u TMb 3 a nn c (gV L).flatten∧(∀ k,isB a k→b2<k)∧(∀ m ∈ L,1≤m.Boot)∧nn=L.length∧L.length≤i) n.toNat
  ⟨0,false,none,0,0,[],_,by omega,by omega,rfl,hn03,hz13,hz3,Owns.nil _ _ _,(λk hk=>by obtain ⟨o,ho⟩:=hk;cases ho),by simp,rfl,by simp⟩ ?_
 rintro m env u ⟨i,any,a,nn,c,L,jj,rfl,hi,rfl,hnu,hu1,hu2,hown,hfr,hbt,rfl,hLi⟩
 rw [mv]
 refine aD (λhq=>?_) (λhq=>?_)
 ·refine aC (dK u mask 32 h2 (by omega)) ?_
  rintro v u2 ⟨rfl,rfl⟩
  have hwi:IntKind.u64.wrap (i:Int)=i:=xJ (by omega) (by omega)
  refine ⟨_,rfl,by rw [hwi];omega,bB (λhe=>?_) (λhe=>?_)⟩
  ·rw [w64 (by omega) (by omega)]
   exact ⟨n.toNat - (i+1),by omega,i+1,any,a,L.length,c,L,_,rfl,by omega,rfl,hnu,hu1,hu2,hown,hfr,hbt,rfl,by omega⟩
  ·refine aC (dK u2 full 32 h3 (by omega)) ?_
   rintro v u3 ⟨rfl,rfl⟩
   refine ⟨_,rfl,by rw [hwi];omega,?_⟩
   generalize (band IntKind.i64 (bshr IntKind.i64 (if (32:Int)<1 then 0 else full % 32) (IntKind.u64.wrap (i:Int))) 1 == 1)=fl
   refine mr (vs:=aB.cells ⟨i,1,fl⟩) rfl (aB.single _) λbm u4 hbm hzm hn4=>?_
   have hu14:=New.blk hn4 hu1
   have hu24:=New.blk hn4 hu2
   have hown4:=Owns.new hn4 hown
   have hus:=hu2.lt
   have hus1:=hu1.lt
   have hnu4:=hnu.new hn4
   have next:∀ (any':Bool) (bt:Int) (u5:World) (jj':Option Addr→Nat→Nat→aB→Nat→Option Addr→Nat→Nat→List Value),1≤bt→Blk u5 bm (aB.cells ⟨i,bt,fl⟩) TMb→Keep (λk=>k=bm) u4 u5→
     ∃ (Mm:Option Addr) (Ml Mc:Nat),u5.cell? ⟨b2,0+1,none⟩=some (.slice Mm Ml Mc)∧aB.ex λr=>aE u5 ⟨bm,0,none⟩ 0 r.cells∧∀ b3 w7,b3=u5.heap.size→w7=u5.alloc (.cells r.cells.toArray TMb)→∃ (ap:Option Addr) (al ac:Nat),∃ w8,(Builtin.append_ #[TSM,TSM] TSM #[(.slice Mm Ml Mc),(.slice (some ⟨b3,0,none⟩) 1 1)]).run prog w7=.ok (.slice ap al ac) w8∧
      (∃ x,w8.cell? ⟨b2,0+1,none⟩=some x)∧w8.frozen? ⟨b2,0+1,none⟩=false∧∀ w9,w9=w8.setCell ⟨b2,0+1,none⟩ (.slice ap al ac)→∃ m',m'<n.toNat - i∧∃ (i':Nat) (any'':Bool) (a:Option Addr) (nn c:Nat) (L:List aB) (jj:List Value),m'=n.toNat - i'∧i'≤n.toNat∧bR mask full a3 n3 c3 n ⟨b1,0,none⟩ ⟨b2,0,none⟩ any' (IntKind.i64.wrap ((i:Int)+1)) (jj' Mm Ml Mc r b3 ap al ac)=bR mask full a3 n3 c3 n ⟨b1,0,none⟩ ⟨b2,0,none⟩ any'' i' jj∧New w w9∧Blk w9 b1 (aF.cells ⟨0,none,0,0⟩) TVw∧Blk w9 b2 (aF.cells ⟨num,a,nn,c⟩) TVw∧Owns w9 TMb 3 a nn c (gV L).flatten∧(∀ k,isB a k→b2<k)∧(∀ m ∈ L,1≤m.Boot)∧nn=L.length∧L.length≤i':=by
    intro any' bt u5 jj' hbt1 hzm5 hk5
    have hne:∀ k,k=bm→b2<k:=λk e=>by omega
    have hfr4:∀ k,isB a k→k≠bm:=λk hk e=>by
     have:=Owns.lt hown hk
     omega
    refine Ev (hk5.blk hu24 (by omega)) (Owns.keep hk5 hown4 hfr4) rfl hfr hzm5 (by omega) ?_
    intro x b3 ap cap w9 hz9 ho9 hk9 hf9
    rw [w64 (by omega) (by omega)]
    refine ⟨n.toNat - (i+1),by omega,i+1,any',ap,L.length+1,cap,L++[⟨i,bt,fl⟩],_,rfl,by omega,rfl,?_,?_,hz9,ho9,hf9,?_,by simp,by simp;omega⟩
    ·refine (hnu4.trans hk5 λk hlt e=>by omega).trans hk9 λk hlt e=>?_
     rcases e with e | e
     ·omega
     ·have:=hfr k e;omega
    ·refine hk9.blk (hk5.blk hu14 (by omega)) λe=>?_
     rcases e with e | e
     ·omega
     ·have:=hfr b1 e;omega
    ·intro m hm
     rcases List.mem_append.1 hm with h | h
     ·exact hbt m h
     ·simp at h;subst h;exact hbt1
   refine aD (λhlt=>?_) (λhlt=>?_)
   ·have hil:i<boots.length:=by omega
    have hg:boots[i]?=some boots[i]:=List.getElem?_eq_getElem hil
    rcases hr.new hnu4 with he | ⟨b,o,ha3,hcell⟩
    ·have:boots=[]:=by simpa [is] using he
     rw [this] at hil
     simp at hil
    ·subst ha3
     refine bI (by omega) (by omega) ⟨boots[i],?_,?_⟩
     ·have:=hcell i (.int .i64 boots[i]) (by simp [is,hg])
      simpa using this
     refine aC (dK u4 boots[i] 31 (hbi _ (List.getElem_mem hil)) (by omega)) ?_
     rintro v u5 ⟨rfl,rfl⟩
     have hp:=jT (x:=boots[i]) (n:=31) (by omega)
     generalize (if (31:Int)<1 then 0 else boots[i] % 31)=p at hp
     refine ⟨_,rfl,?_⟩
     refine qR (b:=bm) hzm (o:=1) (by simp [aB.cells]) λu6 hzm6 hk6=>?_
     rw [w64 (x:=p+1) (by omega) (by omega)] at hzm6
     refine lm (λha=>?_) (λha=>⟨_,hzm6.cell (i:=2) rfl,?_⟩)
     ·exact next true (p+1) u6 _ (by omega) hzm6 hk6
     ·exact next fl (p+1) u6 _ (by omega) hzm6 hk6
   ·refine lm (λha=>?_) (λha=>⟨_,hzm.cell (i:=2) rfl,?_⟩)
    ·exact next true 1 u4 _ (by omega) hzm (Keep.refl _ _)
    ·exact next fl 1 u4 _ (by omega) hzm (Keep.refl _ _)
 ·rw [oJ]
  have fin:∀ (r:aF) (L':List aB) (u' w':World),New w u'→r=⟨num,r.Members,L'.length,r.Members_c⟩→Owns u' TMb 3 r.Members L'.length r.Members_c (gV L').flatten→(∀ k,isB r.Members k→b2<k)→(∀ m ∈ L',1≤m.Boot)→L'≠[]→L'.length≤5→Keep (λk=>k=b1) u' w'→
    ∃ r' v,aF.val r=aF.val r'∧gO (Ao w.heap.size) w' r' v∧New w w'∧DA v:=by
   intro r L' u' w' hn' hr' ho' hf' hb' hne' h5' hk'
   have ho2:=Owns.keep hk' ho' λk hk e=>by have:=hf' k hk;omega
   exact ⟨_,⟨num,L'⟩,by rw [hr'],Eu (c:=r.Members_c) (a:=r.Members) ho2 (by omega) (λk hk=>by have:=hf' k hk;omega),hn'.trans hk' λk hlt e=>by omega,⟨hnum,hb',hne',h5'⟩⟩
  refine ⟨_,_,_,hu2.cell (i:=1) rfl,bB (λh0=>?_) (λh0=>?_)⟩
  ·rintro b4 w4 hb4 hw4
   obtain ⟨hz4,hn4⟩:=aR hb4 hw4
   have hz4:Blk w4 b4 (aB.cells ⟨0,1,false⟩) TMb:=hz4
   clear hw4
   have hus:=hu2.lt
   have hus1:=hu1.lt
   refine qR (b:=b2) (New.blk hn4 hu2) (o:=0+1) (by simp [aF.cells]) λu5 hu25 hk5=>?_
   have hu25:Blk u5 b2 (aF.cells ⟨num,some ⟨b4,0,none⟩,1,1⟩) TVw:=hu25
   have hz45:=hk5.blk hz4 (by omega)
   have hu15:=hk5.blk (New.blk hn4 hu1) (by omega)
   have hn5:New w u5:=(hnu.new hn4).trans hk5 λk hlt e=>by omega
   have hfr5:∀ k,isB (some ⟨b4,0,none⟩) k→b2<k:=λk hk=>by obtain ⟨o,ho⟩:=hk;simp at ho;omega
   refine nj (λha=>?_) (λha=>?_)
   ·refine ⟨some ⟨b4,0,none⟩,1,1,hu25.cell (i:=1) rfl,bI (by decide) (by decide) ?_⟩
    refine qR (b:=b4) hz45 (o:=0+Int.toNat 0 * 3+2) (by simp [aB.cells]) λu6 hz46 hk6=>?_
    have hz46:Blk u6 b4 (aB.cells ⟨0,1,true⟩) TMb:=hz46
    refine yL (hk6.blk hu15 (by omega)) rfl (hk6.blk hu25 (by omega)) λw' hk'=>?_
    exact fin ⟨num,some ⟨b4,0,none⟩,1,1⟩ [⟨0,1,true⟩] u6 w' (hn5.trans hk6 λk hlt e=>by omega) rfl ⟨rfl,.inr ⟨b4,_,rfl,hz46,Nat.le_refl _,by simp [maxLen],rfl,rfl⟩⟩ hfr5 (by simp) (by simp) (by simp) hk'
   ·refine yL hu15 rfl hu25 λw' hk'=>?_
    exact fin ⟨num,some ⟨b4,0,none⟩,1,1⟩ [⟨0,1,false⟩] u5 w' hn5 rfl ⟨rfl,.inr ⟨b4,_,rfl,hz45,Nat.le_refl _,by simp [maxLen],rfl,rfl⟩⟩ hfr5 (by simp) (by simp) (by simp) hk'
  ·have hne:L≠[]:=λe=>by subst e;simp at h0
   refine nj (λha=>?_) (λha=>?_)
   ·refine ⟨_,_,_,hu2.cell (i:=1) rfl,?_⟩
    rcases hown.2 with ⟨_,e,_⟩ | ⟨g,cur,rfl,hg,hnc,hcm,hcl,htk⟩
    ·exact absurd (List.eq_nil_of_length_eq_zero e) hne
    ·have hpos:0<L.length:=List.length_pos_iff.2 hne
     refine bI (by omega) (by omega) ?_
     have hlt:2<cur.length:=by omega
     have e2:0+Int.toNat 0 * 3+2=2:=rfl
     have hcell:u.cell? ⟨g,0+Int.toNat 0 * 3+2,none⟩=some cur[2]:=hg.cell (List.getElem?_eq_getElem hlt)
     refine ⟨⟨_,hcell⟩,hg.frozen,λu6 hu6=>?_⟩
     have hk6:Keep (λk=>k=g) u u6:=by rw [hu6];exact aZ _ _ _ _
     have ho6:=Owns.setCell hown (i:=2) (by omega) (.bool true)
     obtain ⟨m,L',rfl⟩:∃ m L',L=m::L':=by
      cases L with
      |nil=>exact absurd rfl hne
      |cons m L'=>exact ⟨m,L',rfl⟩
     have hset:(gV (m::L')).flatten.set 2 (.bool true)=(gV (⟨m.Node,m.Boot,true⟩::L')).flatten:=rfl
     rw [hset] at ho6
     have ho6:Owns u6 TMb 3 (some ⟨g,0,none⟩) (m::L').length c (gV (⟨m.Node,m.Boot,true⟩::L')).flatten:=by rw [hu6];exact ho6
     have hgb:b2<g:=hfr g ⟨0,rfl⟩
     refine yL (hk6.blk hu1 (by omega)) rfl (hk6.blk hu2 (by omega)) λw' hk'=>?_
     refine fin ⟨num,some ⟨g,0,none⟩,(m::L').length,c⟩ (⟨m.Node,m.Boot,true⟩::L') u6 w' (hnu.trans hk6 λk hlt e=>by omega) rfl ho6 hfr (λx hx=>?_) (by simp) (by simp at hLi ⊢;omega) hk'
     rcases List.mem_cons.1 hx with rfl | hx
     ·exact hbt m (by simp)
     ·exact hbt x (List.mem_cons_of_mem _ hx)
   ·refine yL hu1 rfl hu2 λw' hk'=>?_
    exact fin ⟨num,a,L.length,c⟩ L u w' hnu rfl hown hfr hbt hne (by omega) hk'
end Go.Proofs.YtafopfaomkklpaaGreat
namespace Go.Proofs.YtafopfaomkklpaaGreat
open Go.Eng
end Go.Proofs.YtafopfaomkklpaaGreat
