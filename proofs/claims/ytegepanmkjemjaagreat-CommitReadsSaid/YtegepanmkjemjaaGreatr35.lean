import Derived.Test.YtegepanmkjemjaaGreatProg
import Derived.Test.YtegepanmkjemjaaGreatr03
import Derived.Test.YtegepanmkjemjaaGreatr34
set_option linter.unusedVariables false
namespace Go.Proofs.YtegepanmkjemjaaGreat
open Go.Proofs.Tryz
open Go.Eng IntKind
variable (w:World) (R:Value→World→Prop)
def eO (s1 s2:Int) (s3:Bool) (s9:Option Addr) (a:Bool) (j:LV):LV:=jq j 0 1 (.int .i64 s1::.int .i64 s2::.bool s3::jq j 1 5 (.pointer s9::.bool a::jq j 6 146 []))
def dH (s1 s2:Int) (s3:Bool) (s9:Option Addr) (a:Bool) (j:LV):LV:=jq j 0 1 (.int .i64 s1::.int .i64 s2::.bool s3::jq j 1 5 (.pointer s9::jq j 6 21 (.bool a::jq j 27 125 [])))
def eP (s1 s2:Int) (s3:Bool) (s9:Option Addr) (j:LV):LV:=jq j 0 1 (.int .i64 s1::.int .i64 s2::.bool s3::jq j 1 5 (.pointer s9::jq j 6 147 []))
def cD (s2:Int) (s3:Bool) (s9:Option Addr) (a:Addr) (b:Option Addr) (c d:Nat) (f:Bool) (g:Option Addr) (h i:Nat) (k l:Int) (j:LV):LV:=jq j 0 2 (.int .i64 s2::.bool s3::jq j 2 5 (.pointer s9::jq j 7 1 (.pointer (some a)::.slice b c d::.bool f::jq j 8 28 (.slice g h i::.int .i64 k::.int .i64 l::jq j 36 112 []))))
def dI (s3:Bool) (s9:Option Addr) (a:Addr) (b:Option Addr) (c d:Nat) (f:Bool) (j:LV):LV:=jq j 0 3 (.bool s3::jq j 3 5 (.pointer s9::jq j 8 1 (.pointer (some a)::.slice b c d::.bool f::jq j 9 143 [])))
def eQ (s3:Bool) (s9:Option Addr) (a:Addr) (b:Bool) (c:Addr) (j:LV):LV:=jq j 0 3 (.bool s3::jq j 3 5 (.pointer s9::jq j 8 1 (.pointer (some a)::jq j 9 1 (.bool b::jq j 10 4 (.pointer (some c)::jq j 14 138 [])))))
def cE (s3:Bool) (s9:Option Addr) (a:Addr) (b:Bool) (c:Addr) (j:LV):LV:=jq j 0 3 (.bool s3::jq j 3 5 (.pointer s9::jq j 8 1 (.pointer (some a)::jq j 9 1 (.bool b::jq j 10 4 (.pointer (some c)::jq j 14 138 [])))))
def eR (s3:Bool) (s9:Option Addr) (a:Addr) (b:Bool) (c:Addr) (j:LV):LV:=jq j 0 3 (.bool s3::jq j 3 5 (.pointer s9::jq j 8 1 (.pointer (some a)::jq j 9 1 (.bool b::jq j 10 4 (.pointer (some c)::jq j 14 138 [])))))
def cF (s3:Bool) (s9:Option Addr) (a:Addr) (b:Bool) (c:Addr) (j:LV):LV:=jq j 0 3 (.bool s3::jq j 3 5 (.pointer s9::jq j 8 1 (.pointer (some a)::jq j 9 1 (.bool b::jq j 10 4 (.pointer (some c)::jq j 14 138 [])))))
def bO (s3 a:Bool) (b:Addr) (c:Bool) (j:LV):LV:=jq j 0 3 (.bool s3::jq j 3 9 (.bool a::jq j 12 4 (.pointer (some b)::jq j 16 108 (.bool c::jq j 124 29 []))))
def eF (s3 a:Bool) (b:Addr) (j:LV):LV:=jq j 0 3 (.bool s3::jq j 3 9 (.bool a::jq j 12 4 (.pointer (some b)::jq j 16 138 [])))
def bZ (a:Addr) (b:Bool) (j:LV):LV:=jq j 0 18 (.pointer (some a)::jq j 18 113 (.bool b::jq j 131 24 []))
def eG (a:Addr) (j:LV):LV:=jq j 0 18 (.pointer (some a)::jq j 18 138 [])
def bP (s2:Int) (s3:Bool) (s9:Option Addr) (a:Addr) (b:Option Addr) (c d:Nat) (f:Bool) (g:Int) (h:Option Addr) (i k:Nat) (l m:Int) (n:Option Addr) (o p:Nat) (q r:Int) (j:LV):LV:=jq j 0 2 (.int .i64 s2::.bool s3::jq j 2 5 (.pointer s9::jq j 7 1 (.pointer (some a)::.slice b c d::.bool f::jq j 8 1 (.int .i64 g::jq j 9 26 (.slice h i k::.int .i64 l::.int .i64 m::jq j 35 9 (.slice n o p::.int .i64 q::.int .i64 r::jq j 44 100 []))))))
def eH (s2:Int) (s3:Bool) (s9:Option Addr) (a:Addr) (b:Option Addr) (c d:Nat) (f:Bool) (g:Option Addr) (h i:Nat) (k l:Int) (j:LV):LV:=jq j 0 2 (.int .i64 s2::.bool s3::jq j 2 5 (.pointer s9::jq j 7 1 (.pointer (some a)::.slice b c d::.bool f::jq j 8 28 (.slice g h i::.int .i64 k::.int .i64 l::jq j 36 112 []))))
theorem ka (p0 p1 p2:Int) (p3:Bool):fnW prog f6 [.int .i64 p0,.int .i64 p1,.int .i64 p2,.bool p3] R w=(Calls prog 11 #[.int .i64 p0,.int .i64 3] w λe w1=>∃ a,e=.returned (.int .i64 a)∧Calls prog 12 #[.int .i64 (i64.wrap (a+1)),.int .i64 2] w1 λe w2=>∃ b c,e=.returned (.tuple #[.pointer b,.bool c])∧W prog (sub (aE f6) [1,1]) (eO p1 p2 p3 b c (ji p0::uq 4 (jb false::uq 8 (.tuple #[.pointer b,.bool c]::ji p0::ji a::ji (i64.wrap (a+1))::.tuple #[.pointer b,.bool c]::.pointer b::jb c::uq 131 [])))) (retQ prog f6 R) w2):=by kernel_rfl
theorem gx (env:LV) (w:World) (Q:Exit→LV→World→Prop):W prog (sub (aE f6) [1,1]) env Q w=W prog (sub (aE f6) [1,1,0]) env (seqQ (λenv w=>W prog (sub (aE f6) [1,1,1]) env Q w) Q) w:=by
 rw [show sub (aE f6) [1,1]=.seq (sub (aE f6) [1,1,0]) (sub (aE f6) [1,1,1]) by kernel_rfl]
 generalize sub (aE f6) [1,1,0]=a
 generalize sub (aE f6) [1,1,1]=b
 kernel_rfl
theorem fT (env:LV) (w:World) (Q:Exit→LV→World→Prop):W prog (sub (aE f6) [1,1,0]) env Q w=W prog (sub (aE f6) [1,1,0,0]) env (seqQ (λenv w=>W prog (sub (aE f6) [1,1,0,1]) env Q w) Q) w:=by
 rw [show sub (aE f6) [1,1,0]=.seq (sub (aE f6) [1,1,0,0]) (sub (aE f6) [1,1,0,1]) by kernel_rfl]
 generalize sub (aE f6) [1,1,0,0]=a
 generalize sub (aE f6) [1,1,0,1]=b
 kernel_rfl
theorem ir (s1 s2:Int) (s3:Bool) (s9:Option Addr) (a:Bool) (j:LV) (QX:Exit→LV→World→Prop):W prog (sub (aE f6) [1,1,0,0]) (eO s1 s2 s3 s9 a j) (Qr prog f6 R QX) w=((bif (!a) then (QX .normal (dH s1 s2 s3 s9 true (jq j 0 6 (jb a::jq j 6 15 (jb a::jb (!a)::jb true::uq 2 (jq j 27 125 []))))) w) else (Calls prog 13 #[] w λe w1=>∃ b,e=.returned (.bool b)∧QX .normal (dH s1 s2 s3 s9 (!b) (jq j 0 6 (jb a::jq j 6 15 (jb a::jb (!a)::jb false::jb b::jb (!b)::jq j 27 125 [])))) w1))):=by kernel_rfl
theorem it (s1 s2:Int) (s3:Bool) (s9:Option Addr) (a:Bool) (j:LV) (QX:Exit→LV→World→Prop):W prog (sub (aE f6) [1,1,0,1]) (dH s1 s2 s3 s9 a j) (Qr prog f6 R QX) w=((bif a then (R (.bool false) w) else (QX .normal (eP s1 s2 s3 s9 (jq j 0 27 (jb a::jq j 27 125 []))) w))):=by kernel_rfl
theorem iu (s1 s2:Int) (s3:Bool) (s9:Option Addr) (j:LV) (QX:Exit→LV→World→Prop):W prog (sub (aE f6) [1,1,1]) (eP s1 s2 s3 s9 j) (Qr prog f6 R QX) w=(Calls prog 22 #[.int .i64 s2] w λe w1=>∃ a b c,e=.returned (.slice a b c)∧Calls prog 21 #[.pointer s9,.int .i64 0,.int .i64 1,.slice a b c] w1 λe w2=>aB.ex λi=>∃ d,e=.returned (.tuple #[i.val,.bool d])∧∀ b1 w3,b1=w2.heap.size→w3=w2.alloc (.cells #[.int .i64 0,.int .i64 0,.int .i64 0,.int .i64 0,.int .i64 0,.int .i64 0,.int .i64 0,.int .u64 0,.int .i64 0,.int .i64 0,.int .i64 0,.int .i64 0,.slice none 0 0,.slice none 0 0,.slice none 0 0,.slice none 0 0,.bool false,.bool false,.int .i64 0,.int .i64 0,.slice none 0 0,.int .i64 0,.slice none 0 0,.int .u64 0,.int .i64 0] 49)→wrAt w3 ⟨b1,0,none⟩ 0 i.cells∧∀ w4,w4=puts w3 ⟨b1,0,none⟩ 0 i.cells→(bif (!d) then (R (.bool false) w4) else (Calls prog 22 #[.int .i64 s1] w4 λe w5=>∃ f g h,e=.returned (.slice f g h)∧cA prog (.loop (sub (aE f6) [1,1,1,1,1,1,1,0,1,0,0])) (cD s2 s3 s9 ⟨b1,0,none⟩ none 0 0 false f g h (g:Nat) 0 (jg j 0::ji s1::jq j 1 5 (jb d::jq j 10 18 (.tuple #[i.val,.bool d]::.pointer s9::ji s2::js a b c::.tuple #[i.val,.bool d]::i.val::jb d::jb d::jb (!d)::ji s1::jq j 41 112 [])))) (aI 0 (seqQ (λenv w=>W prog (sub (aE f6) [1,1,1,1,1,1,1,1]) env (Qr prog f6 R QX) w) (Qr prog f6 R QX))) w5))):=by kernel_rfl
theorem gy (s2:Int) (s3:Bool) (s9:Option Addr) (a:Addr) (b:Option Addr) (c d:Nat) (f:Bool) (g:Option Addr) (h i:Nat) (k l:Int) (j:LV) (QX:Exit→LV→World→Prop):W prog (sub (aE f6) [1,1,1,1,1,1,1,0,1,0,0]) (cD s2 s3 s9 a b c d f g h i k l j) (Qr prog f6 R QX) w=((bif (decide ((l:Int)<k)) then (idxS g h l 1 λad=>∃ x,w.cell? ad=some (.int .i64 x)∧∀ b1 w1,b1=w.heap.size→w1=w.alloc (.cells #[.int .i64 x,.int .u64 256] 71)→∃ ap m n,∃ w2,(Builtin.append_ #[31,31] 31 #[.slice b c d,.slice (some ⟨b1,0,none⟩) 1 1]).run prog w1=.ok (.slice ap m n) w2∧Calls prog 22 #[.int .i64 s2] w2 λe w3=>∃ o p q,e=.returned (.slice o p q)∧cA prog (.loop (sub (aE f6) [1,1,1,1,1,1,1,0,1,0,0,1,1,0,0,1,1,1,0,0])) (bP s2 s3 s9 a ap m n f x g h i k l o p q (p:Nat) 0 (jq j 0 9 (jq j 10 26 (jb (decide ((l:Int)<k))::jp ad::ji x::js b c d::ji x::.agg #[.int .i64 x,.int .u64 256]::js (some ⟨b1,0,none⟩) 1 1::js ap m n::ji s2::jq j 48 100 [])))) (aI 2 (aI 1 (seqQ (λenv w=>W prog (sub (aE f6) [1,1,1,1,1,1,1,0,1,0,0,1,1,1]) env (Qr prog f6 R QX) w) (Qr prog f6 R QX)))) w3) else (QX (.exit 0) (dI s3 s9 a b c d f (jg j 0::jg j 1::ji s2::jq j 2 34 (js g h i::ji k::ji l::jb (decide ((l:Int)<k))::jq j 37 111 []))) w))):=by kernel_rfl
theorem iw (s3:Bool) (s9:Option Addr) (a:Addr) (b:Option Addr) (c d:Nat) (f:Bool) (j:LV) (QX:Exit→LV→World→Prop):W prog (sub (aE f6) [1,1,1,1,1,1,1,1]) (dI s3 s9 a b c d f j) (Qr prog f6 R QX) w=(∀ w1,w1=w.drew→∃ Sx:World→Prop,Sx w1∧nilP s9 λh=>∃ g,(∀ u,Sx u→u.cell? ⟨h.block,h.off+1,none⟩=some (.int .i64 g))∧nilP s9 λi=>aN.ex λk=>(∀ u,Sx u→aD u ⟨i.block,i.off+2,none⟩ 0 k.cells)∧∀ b1 w2,b1=w1.heap.size→w2=w1.alloc (.cells #[.int .i64 0,.int .i64 0,.int .i64 0,.int .i64 0,.int .i64 0,.int .i64 0,.int .i64 0,.int .u64 0,.int .i64 0,.int .i64 0,.int .i64 0,.int .i64 0,.slice none 0 0,.slice none 0 0,.slice none 0 0,.slice none 0 0,.bool false,.bool false,.int .i64 0,.int .i64 0,.slice none 0 0,.int .i64 0,.slice none 0 0,.int .u64 0,.int .i64 0] 49)→Sx w2∧wrAt w2 ⟨b1,0,none⟩ 0 [.int .i64 3,.int .i64 1,.int .i64 0,.int .i64 0,.int .i64 0,.int .i64 0,.int .i64 0,.int .u64 0,.int .i64 1,.int .i64 1,.int .i64 g,.int .i64 k.Number,.slice k.Members k.Members_l k.Members_c,.slice b c d,.slice none 0 0,.slice none 0 0,.bool false,.bool false,.int .i64 0,.int .i64 0,.slice none 0 0,.int .i64 0,.slice none 0 0,.int .u64 0,.int .i64 0]∧∀ w3,w3=puts w2 ⟨b1,0,none⟩ 0 [.int .i64 3,.int .i64 1,.int .i64 0,.int .i64 0,.int .i64 0,.int .i64 0,.int .i64 0,.int .u64 0,.int .i64 1,.int .i64 1,.int .i64 g,.int .i64 k.Number,.slice k.Members k.Members_l k.Members_c,.slice b c d,.slice none 0 0,.slice none 0 0,.bool false,.bool false,.int .i64 0,.int .i64 0,.slice none 0 0,.int .i64 0,.slice none 0 0,.int .u64 0,.int .i64 0]→W prog (sub (aE f6) [1,1,1,1,1,1,1,1,1]) (eQ s3 s9 a f ⟨b1,0,none⟩ (jq j 0 9 (js b c d::jq j 9 4 (jq j 14 49 (.pointer s9::jp h::jf h 1::ji g::.pointer s9::jp i::jf i 2::k.val::js b c d::.agg #[.int .i64 1,.int .i64 1,.int .i64 g,.int .i64 k.Number,.slice k.Members k.Members_l k.Members_c,.slice b c d,.slice none 0 0]::.agg #[.int .i64 3,.int .i64 1,.int .i64 0,.int .i64 0,.int .i64 0,.int .i64 0,.int .i64 0,.int .u64 0,.int .i64 1,.int .i64 1,.int .i64 g,.int .i64 k.Number,.slice k.Members k.Members_l k.Members_c,.slice b c d,.slice none 0 0,.slice none 0 0,.bool false,.bool false,.int .i64 0,.int .i64 0,.slice none 0 0,.int .i64 0,.slice none 0 0,.int .u64 0,.int .i64 0]::jq j 74 78 []))))) (Qr prog f6 R QX) w3):=by kernel_rfl
theorem gz (env:LV) (w:World) (Q:Exit→LV→World→Prop):W prog (sub (aE f6) [1,1,1,1,1,1,1,1,1]) env Q w=W prog (sub (aE f6) [1,1,1,1,1,1,1,1,1,0]) env (seqQ (λenv w=>W prog (sub (aE f6) [1,1,1,1,1,1,1,1,1,1]) env Q w) Q) w:=by
 rw [show sub (aE f6) [1,1,1,1,1,1,1,1,1]=.seq (sub (aE f6) [1,1,1,1,1,1,1,1,1,0]) (sub (aE f6) [1,1,1,1,1,1,1,1,1,1]) by kernel_rfl]
 generalize sub (aE f6) [1,1,1,1,1,1,1,1,1,0]=a
 generalize sub (aE f6) [1,1,1,1,1,1,1,1,1,1]=b
 kernel_rfl
theorem ix (s3:Bool) (s9:Option Addr) (a:Addr) (b:Bool) (c:Addr) (j:LV) (QX:Exit→LV→World→Prop):W prog (sub (aE f6) [1,1,1,1,1,1,1,1,1,0]) (eQ s3 s9 a b c j) (Qr prog f6 R QX) w=((bif s3 then (∀ w1,w1=w.drew→∃ Sx:World→Prop,Sx w1∧nilP s9 λd=>∃ f,(∀ u,Sx u→u.cell? d=some (.pointer f))∧aB.ex λr=>(∀ u,Sx u→aD u c 0 r.cells)∧Calls prog 15 #[.pointer f,r.val] w1 λe w2=>aB.ex λg=>e=.returned g.val∧wrAt w2 c 0 g.cells∧∀ w3,w3=puts w2 c 0 g.cells→QX .normal (cE s3 s9 a b c (jq j 0 74 (jb s3::.pointer s9::jp d::jp d::.pointer f::r.val::g.val::jq j 81 71 []))) w3) else (QX .normal (cE s3 s9 a b c (jq j 0 74 (jb s3::jq j 75 77 []))) w))):=by kernel_rfl
theorem iy (s3:Bool) (s9:Option Addr) (a:Addr) (b:Bool) (c:Addr) (j:LV) (QX:Exit→LV→World→Prop):W prog (sub (aE f6) [1,1,1,1,1,1,1,1,1,1]) (cE s3 s9 a b c j) (Qr prog f6 R QX) w=(∀ w1,w1=w.drew→∃ Sx:World→Prop,Sx w1∧nilP s9 λd=>∃ f,(∀ u,Sx u→u.cell? d=some (.pointer f))∧aB.ex λr=>(∀ u,Sx u→aD u a 0 r.cells)∧Calls prog 15 #[.pointer f,r.val] w1 λe w2=>aB.ex λg=>e=.returned g.val∧wrAt w2 a 0 g.cells∧∀ w3,w3=puts w2 a 0 g.cells→W prog (sub (aE f6) [1,1,1,1,1,1,1,1,1,1,1]) (eR s3 s9 a b c (jq j 0 81 (.pointer s9::jp d::jp d::.pointer f::r.val::g.val::jq j 87 65 []))) (Qr prog f6 R QX) w3):=by kernel_rfl
theorem gA (env:LV) (w:World) (Q:Exit→LV→World→Prop):W prog (sub (aE f6) [1,1,1,1,1,1,1,1,1,1,1]) env Q w=W prog (sub (aE f6) [1,1,1,1,1,1,1,1,1,1,1,0]) env (seqQ (λenv w=>W prog (sub (aE f6) [1,1,1,1,1,1,1,1,1,1,1,1]) env Q w) Q) w:=by
 rw [show sub (aE f6) [1,1,1,1,1,1,1,1,1,1,1]=.seq (sub (aE f6) [1,1,1,1,1,1,1,1,1,1,1,0]) (sub (aE f6) [1,1,1,1,1,1,1,1,1,1,1,1]) by kernel_rfl]
 generalize sub (aE f6) [1,1,1,1,1,1,1,1,1,1,1,0]=a
 generalize sub (aE f6) [1,1,1,1,1,1,1,1,1,1,1,1]=b
 kernel_rfl
theorem iz (s3:Bool) (s9:Option Addr) (a:Addr) (b:Bool) (c:Addr) (j:LV) (QX:Exit→LV→World→Prop):W prog (sub (aE f6) [1,1,1,1,1,1,1,1,1,1,1,0]) (eR s3 s9 a b c j) (Qr prog f6 R QX) w=((bif (!s3) then (∀ w1,w1=w.drew→∃ Sx:World→Prop,Sx w1∧nilP s9 λd=>∃ f,(∀ u,Sx u→u.cell? d=some (.pointer f))∧aB.ex λr=>(∀ u,Sx u→aD u c 0 r.cells)∧Calls prog 15 #[.pointer f,r.val] w1 λe w2=>aB.ex λg=>e=.returned g.val∧wrAt w2 c 0 g.cells∧∀ w3,w3=puts w2 c 0 g.cells→QX .normal (cF s3 s9 a b c (jq j 0 87 (jb s3::jb (!s3)::.pointer s9::jp d::jp d::.pointer f::r.val::g.val::jq j 95 57 []))) w3) else (QX .normal (cF s3 s9 a b c (jq j 0 87 (jb s3::jb (!s3)::jq j 89 63 []))) w))):=by kernel_rfl
theorem gB (env:LV) (w:World) (Q:Exit→LV→World→Prop):W prog (sub (aE f6) [1,1,1,1,1,1,1,1,1,1,1,1]) env Q w=W prog (sub (aE f6) [1,1,1,1,1,1,1,1,1,1,1,1,0]) env (seqQ (λenv w=>W prog (sub (aE f6) [1,1,1,1,1,1,1,1,1,1,1,1,1]) env Q w) Q) w:=by
 rw [show sub (aE f6) [1,1,1,1,1,1,1,1,1,1,1,1]=.seq (sub (aE f6) [1,1,1,1,1,1,1,1,1,1,1,1,0]) (sub (aE f6) [1,1,1,1,1,1,1,1,1,1,1,1,1]) by kernel_rfl]
 generalize sub (aE f6) [1,1,1,1,1,1,1,1,1,1,1,1,0]=a
 generalize sub (aE f6) [1,1,1,1,1,1,1,1,1,1,1,1,1]=b
 kernel_rfl
theorem fU (env:LV) (w:World) (Q:Exit→LV→World→Prop):W prog (sub (aE f6) [1,1,1,1,1,1,1,1,1,1,1,1,0]) env Q w=W prog (sub (aE f6) [1,1,1,1,1,1,1,1,1,1,1,1,0,0]) env (seqQ (λenv w=>W prog (sub (aE f6) [1,1,1,1,1,1,1,1,1,1,1,1,0,1]) env Q w) Q) w:=by
 rw [show sub (aE f6) [1,1,1,1,1,1,1,1,1,1,1,1,0]=.seq (sub (aE f6) [1,1,1,1,1,1,1,1,1,1,1,1,0,0]) (sub (aE f6) [1,1,1,1,1,1,1,1,1,1,1,1,0,1]) by kernel_rfl]
 generalize sub (aE f6) [1,1,1,1,1,1,1,1,1,1,1,1,0,0]=a
 generalize sub (aE f6) [1,1,1,1,1,1,1,1,1,1,1,1,0,1]=b
 kernel_rfl
set_option maxHeartbeats 4000000 in
theorem iA (s3:Bool) (s9:Option Addr) (a:Addr) (b:Bool) (c:Addr) (j:LV) (QX:Exit→LV→World→Prop):W prog (sub (aE f6) [1,1,1,1,1,1,1,1,1,1,1,1,0,0]) (cF s3 s9 a b c j) (Qr prog f6 R QX) w=(∀ w1,w1=w.drew→∃ Sx:World→Prop,Sx w1∧∃ d,(∀ u,Sx u→u.cell? ⟨a.block,a.off+18,none⟩=some (.int .i64 d))∧(bif ((d:Int) != 0) then (QX .normal (bO s3 b c true (jq j 0 8 (.pointer s9::jg j 8::jp a::jq j 9 86 (jf a 18::ji d::jb ((d:Int) != 0)::jb true::uq 15 (jb true::jb true::uq 6 (jq j 123 29 [])))))) w1) else (nilP s9 λn=>∃ (f:Option Addr),(∀ u,Sx u→u.cell? n=some (.pointer f))∧nilP s9 λo=>∃ g h i,(∀ u,Sx u→u.cell? ⟨o.block,o.off+2+1,none⟩=some (.slice g h i))∧nilP s9 λp=>∃ k,(∀ u,Sx u→u.cell? ⟨p.block,p.off+1,none⟩=some (.int .i64 k))∧Calls prog 17 #[.pointer f,.slice g h i,.int .i64 k] w1 λe w2=>∃ (l:Bool),e=.returned (.bool l)∧Sx w2∧(bif (!l) then (QX .normal (bO s3 b c true (jq j 0 8 (.pointer s9::jg j 8::jp a::jq j 9 86 (jf a 18::ji d::jb ((d:Int) != 0)::jb false::.pointer s9::jp n::jp n::.pointer f::.pointer s9::jp o::jf o 2::jp ⟨o.block,o.off+2+1,none⟩::js g h i::.pointer s9::jp p::jf p 1::ji k::jb l::jb (!l)::jb (!l)::jb true::uq 6 (jq j 123 29 []))))) w2) else (nilP s9 λq=>∃ (f1:Option Addr),(∀ u,Sx u→u.cell? q=some (.pointer f1))∧Calls prog 16 #[.pointer f1,.int .i64 1] w2 λe w3=>∃ (m:Int),e=.returned (.int .i64 m)∧Sx w3∧QX .normal (bO s3 b c ((m:Int) != 1) (jq j 0 8 (.pointer s9::jg j 8::jp a::jq j 9 86 (jf a 18::ji d::jb ((d:Int) != 0)::jb false::.pointer s9::jp n::jp n::.pointer f::.pointer s9::jp o::jf o 2::jp ⟨o.block,o.off+2+1,none⟩::js g h i::.pointer s9::jp p::jf p 1::ji k::jb l::jb (!l)::jb (!l)::jb false::.pointer s9::jp q::jp q::.pointer f1::ji m::jb ((m:Int) != 1)::jq j 123 29 [])))) w3))))):=by kernel_rfl
theorem iB (s3 a:Bool) (b:Addr) (c:Bool) (j:LV) (QX:Exit→LV→World→Prop):W prog (sub (aE f6) [1,1,1,1,1,1,1,1,1,1,1,1,0,1]) (bO s3 a b c j) (Qr prog f6 R QX) w=((bif c then (R (.bool false) w) else (QX .normal (eF s3 a b (jq j 0 124 (jb c::jq j 124 29 []))) w))):=by kernel_rfl
theorem fV (env:LV) (w:World) (Q:Exit→LV→World→Prop):W prog (sub (aE f6) [1,1,1,1,1,1,1,1,1,1,1,1,1]) env Q w=W prog (sub (aE f6) [1,1,1,1,1,1,1,1,1,1,1,1,1,0]) env (seqQ (λenv w=>W prog (sub (aE f6) [1,1,1,1,1,1,1,1,1,1,1,1,1,1]) env Q w) Q) w:=by
 rw [show sub (aE f6) [1,1,1,1,1,1,1,1,1,1,1,1,1]=.seq (sub (aE f6) [1,1,1,1,1,1,1,1,1,1,1,1,1,0]) (sub (aE f6) [1,1,1,1,1,1,1,1,1,1,1,1,1,1]) by kernel_rfl]
 generalize sub (aE f6) [1,1,1,1,1,1,1,1,1,1,1,1,1,0]=a
 generalize sub (aE f6) [1,1,1,1,1,1,1,1,1,1,1,1,1,1]=b
 kernel_rfl
theorem fQ (env:LV) (w:World) (Q:Exit→LV→World→Prop):W prog (sub (aE f6) [1,1,1,1,1,1,1,1,1,1,1,1,1,0]) env Q w=W prog (sub (aE f6) [1,1,1,1,1,1,1,1,1,1,1,1,1,0,0]) env (seqQ (λenv w=>W prog (sub (aE f6) [1,1,1,1,1,1,1,1,1,1,1,1,1,0,1]) env Q w) Q) w:=by
 rw [show sub (aE f6) [1,1,1,1,1,1,1,1,1,1,1,1,1,0]=.seq (sub (aE f6) [1,1,1,1,1,1,1,1,1,1,1,1,1,0,0]) (sub (aE f6) [1,1,1,1,1,1,1,1,1,1,1,1,1,0,1]) by kernel_rfl]
 generalize sub (aE f6) [1,1,1,1,1,1,1,1,1,1,1,1,1,0,0]=a
 generalize sub (aE f6) [1,1,1,1,1,1,1,1,1,1,1,1,1,0,1]=b
 kernel_rfl
theorem gZ (s3 a:Bool) (b:Addr) (j:LV) (QX:Exit→LV→World→Prop):W prog (sub (aE f6) [1,1,1,1,1,1,1,1,1,1,1,1,1,0,0]) (eF s3 a b j) (Qr prog f6 R QX) w=((bif s3 then (QX .normal (bZ b true (jg j 0::jg j 1::jg j 2::jb s3::jq j 3 9 (jb a::jq j 12 113 (jb s3::jb true::uq 2 (jq j 130 24 []))))) w) else (QX .normal (bZ b (!a) (jg j 0::jg j 1::jg j 2::jb s3::jq j 3 9 (jb a::jq j 12 113 (jb s3::jb false::jb a::jb (!a)::jq j 130 24 [])))) w))):=by kernel_rfl
theorem g8 (a:Addr) (b:Bool) (j:LV) (QX:Exit→LV→World→Prop):W prog (sub (aE f6) [1,1,1,1,1,1,1,1,1,1,1,1,1,0,1]) (bZ a b j) (Qr prog f6 R QX) w=((bif b then (∃ c,w.cell? ⟨a.block,a.off+16,none⟩=some (.bool c)∧(bif c then (∃ d,w.cell? ⟨a.block,a.off+18,none⟩=some (.int .i64 d)∧(bif ((d:Int) == 0) then (∃ f,w.cell? ⟨a.block,a.off+24,none⟩=some (.int .i64 f)∧R (.bool ((f:Int) == 3)) w) else (R (.bool false) w))) else (R (.bool false) w))) else (QX .normal (eG a (jq j 0 131 (jb b::jq j 131 24 []))) w))):=by kernel_rfl
theorem g9 (a:Addr) (j:LV) (QX:Exit→LV→World→Prop):W prog (sub (aE f6) [1,1,1,1,1,1,1,1,1,1,1,1,1,1]) (eG a j) (Qr prog f6 R QX) w=(∃ b,w.cell? ⟨a.block,a.off+16,none⟩=some (.bool b)∧(bif b then (∃ c,w.cell? ⟨a.block,a.off+18,none⟩=some (.int .i64 c)∧(bif ((c:Int) == 7) then (∃ d,w.cell? ⟨a.block,a.off+24,none⟩=some (.int .i64 d)∧R (.bool ((d:Int) == 1)) w) else (R (.bool false) w))) else (R (.bool false) w))):=by kernel_rfl
set_option maxHeartbeats 4000000 in
theorem gC (s2:Int) (s3:Bool) (s9:Option Addr) (a:Addr) (b:Option Addr) (c d:Nat) (f:Bool) (g:Int) (h:Option Addr) (i k:Nat) (l m:Int) (n:Option Addr) (o p:Nat) (q r:Int) (j:LV) (QX:Exit→LV→World→Prop):W prog (sub (aE f6) [1,1,1,1,1,1,1,0,1,0,0,1,1,0,0,1,1,1,0,0]) (bP s2 s3 s9 a b c d f g h i k l m n o p q r j) (Qr prog f6 R QX) w=((bif (decide ((r:Int)<q)) then (idxS n o r 1 λad=>∃ x,w.cell? ad=some (.int .i64 x)∧(bif f then (QX .normal (bP s2 s3 s9 a b c d true g h i k l m n o p q (i64.wrap (r+1)) (jq j 0 10 (ji x::jq j 11 33 (jb (decide ((r:Int)<q))::jp ad::ji x::jb f::jb true::uq 3 (jb true::ji (i64.wrap (r+1))::jq j 54 90 []))))) w) else (QX .normal (bP s2 s3 s9 a b c d ((g:Int) == x) g h i k l m n o p q (i64.wrap (r+1)) (jq j 0 10 (ji x::jq j 11 33 (jb (decide ((r:Int)<q))::jp ad::ji x::jb f::jb false::ji g::ji x::jb ((g:Int) == x)::jb ((g:Int) == x)::ji (i64.wrap (r+1))::jq j 54 90 [])))) w))) else (QX (.exit 2) (eH s2 s3 s9 a b c d f h i k l m (jq j 0 9 (ji g::jq j 9 35 (js n o p::ji q::ji r::jb (decide ((r:Int)<q))::jq j 45 99 [])))) w))):=by kernel_rfl
theorem hH (s2:Int) (s3:Bool) (s9:Option Addr) (a:Addr) (b:Option Addr) (c d:Nat) (f:Bool) (g:Option Addr) (h i:Nat) (k l:Int) (j:LV) (QX:Exit→LV→World→Prop):W prog (sub (aE f6) [1,1,1,1,1,1,1,0,1,0,0,1,1,1]) (eH s2 s3 s9 a b c d f g h i k l j) (Qr prog f6 R QX) w=(QX .normal (cD s2 s3 s9 a b c d f g h i k (i64.wrap (l+1)) (jq j 0 58 (ji (i64.wrap (l+1))::jq j 59 89 []))) w):=by kernel_rfl
end Go.Proofs.YtegepanmkjemjaaGreat
namespace Go.Proofs.YtegepanmkjemjaaGreat
open Go.Proofs.Tryz
open Go.Eng C12
attribute [local irreducible] drive alone
theorem nilS {ad:Addr} {K:Addr→Prop} (h:K ad):nilP (some ad) K:=h
theorem BO {u:World} {a:Option Addr} {n cap:Nat} {L:List aU} (ho:Owns u 71 2 a n cap (mE L).flatten) {x:aU} (hb1:n≤1000000) {K:Nat→Option Addr→Nat→Nat→World→Prop}
  (hk:∀ b ap cap' w3,b=u.heap.size→Owns w3 71 2 ap (n+1) cap' (mE (L++[x])).flatten→Keep (isB a) u w3→(∀ k,isB ap k→isB a k∨u.heap.size≤k)→K b ap (n+1) cap' w3) :
  ∀ b1 w2,b1=u.heap.size→w2=u.alloc (.cells x.cells.toArray 71)→∃ (ap:Option Addr) (ap_len ap_cap:Nat),∃ w3,(Builtin.append_ #[31,31] 31 #[(.slice a n cap),(.slice (some ⟨b1,0,none⟩) 1 1)]).run prog w2=.ok (.slice ap ap_len ap_cap) w3∧K b1 ap ap_len ap_cap w3:=by
 obtain ⟨inf,hi,hz,hsz,hby⟩:=iK (T:=71) (z:=.agg #[.int .i64 0,.int .u64 0]) (n:=2) (m:=16) (by kernel_rfl)
 rw [←hsz] at ho
 refine push_k (vs:=x.cells) Tryz.underlying31 hi hz (by rw [hsz];rfl) (by omega) ho (by rw [hsz];rfl) (aU.single x) (by omega) (by omega) ?_
 intro b ap cap' w3 h1 h2
 have e:(mE L).flatten++x.cells=(mE (L++[x])).flatten:=by simp [mE]
 rw [hsz,e] at h2
 exact hk b ap cap' w3 h1 h2
structure RdS (w w2:World) (A:Nat→Prop) (χ:Nat→Tag) (n fb p:Nat) (rv:aN) (b1 b2:Nat) (z:World) (F:Fab) (ra rb:TR) (ta tb:Tk conv):Prop where
 ex:∃ B ξ X,TW A χ w2 fb (λk=>k=b1∨k=b2) z B ξ X∧X.pure=F∧eE (λk=>B k∨k=b1∨k=b2) z ra ta∧eE (λk=>B k∨k=b1∨k=b2) z rb tb∧ViewAt (λk=>B k∨k=b1∨k=b2) z rv (wP n)∧¬ (B p∨p=b1∨p=b2)
 fine:Fine F
 box:Blk z p (fofC fb 100 rv) TFo
 ba:Blk z b1 ra.cells 49
 bb:Blk z b2 rb.cells 49
 ne:b1≠b2
theorem RdS.swap {w w2:World} {A:Nat→Prop} {χ:Nat→Tag} {n fb p:Nat} {rv:aN} {b1 b2:Nat} {z:World} {F:Fab} {ra rb:TR} {ta tb:Tk conv} (h:RdS w w2 A χ n fb p rv b1 b2 z F ra rb ta tb):RdS w w2 A χ n fb p rv b2 b1 z F rb ra tb ta:=by
 obtain ⟨B,ξ,X,h1,h2,h3,h4,h5,h6⟩:=h.ex
 have hm:∀ k,k<z.heap.size→B k∨k=b2∨k=b1→B k∨k=b1∨k=b2:=λk _ h=>h.imp id Or.symm
 exact ⟨⟨B,ξ,X,h1.less λk hk=>hk.symm,h2,h4.keep (Keep.refl _ _) hm,h3.keep (Keep.refl _ _) hm,C12.ViewAt.keep h5 (Keep.refl _ _) hm,λe=>h6 (e.imp id Or.symm)⟩,h.fine,h.box,h.bb,h.ba,h.ne.symm⟩
theorem RdS.next {w w2:World} {A:Nat→Prop} {χ:Nat→Tag} {n fb p:Nat} {rv:aN} {b1 b2:Nat} {z z':World} {F:Fab} {ra rb:TR} {ta tb:Tk conv} (h:RdS w w2 A χ n fb p rv b1 b2 z F ra rb ta tb) (hn:New z z'):RdS w w2 A χ n fb p rv b1 b2 z' F ra rb ta tb:=by
 obtain ⟨B,ξ,X,h1,h2,h3,h4,h5,h6⟩:=h.ex
 have hm:∀ k,k<z.heap.size→B k∨k=b1∨k=b2→B k∨k=b1∨k=b2:=λk _ h=>h
 exact ⟨⟨B,ξ,X,h1.new hn,h2,h3.keep (Keep.of_new hn) hm,h4.keep (Keep.of_new hn) hm,h5.new hn,h6⟩,h.fine,New.blk hn h.box,New.blk hn h.ba,New.blk hn h.bb,h.ne⟩
theorem RdS.run {w w2:World} {A:Nat→Prop} {χ:Nat→Tag} {n fb p:Nat} {rv:aN} {b1 b2:Nat} {z:World} {F:Fab} {ra rb:TR} {ta tb:Tk conv} (h:RdS w w2 A χ n fb p rv b1 b2 z F ra rb ta tb) (hsh:sE ta) {e:Fab×Tk conv} (hd:alone F ta=(e.1,[e.2])) (hfe:Fine e.1) :
  Does 15 [ptr fb,ra.val] z λv u=>∃ r',v=r'.val∧∀ K:World→Prop,(∀ u',RdS w w2 A χ n fb p rv b1 b2 u' e.1 r' rb e.2 tb→K u')→wrAt u ⟨b1,0,none⟩ 0 r'.cells∧∀ u',u'=puts u ⟨b1,0,none⟩ 0 r'.cells→K u':=by
 obtain ⟨B,ξ,X,hT,hX,hta,htb,hv,hp⟩:=h.ex
 have hcall:=yD hT.fab (by rw [hX];exact h.fine) hta hsh
 rw [hX,hd] at hcall
 refine aF hcall ?_
 rintro v u hpost
 obtain ⟨B',ξ',X',h3,hX3,hK3,hk3,hM3,hL3⟩:=hT.op hpost
 obtain ⟨t',r',ht',rfl,htx⟩:=hK3
 have ht':t'=e.2:=by simpa using ht'.symm
 subst ht'
 refine ⟨_,rfl,r',rfl,λK hK=>?_⟩
 have hba:Blk u b1 ra.cells 49:=(hL3 b1 (.inl rfl)).trans h.ba
 have hbb:Blk u b2 rb.cells 49:=(hL3 b2 (.inr rfl)).trans h.bb
 refine fJ (vs:=r'.cells) hba rfl (aB.single _) λu' hz hk=>hK u' ?_
 have hkl:Keep (λk=>B' k∨k=b1∨k=b2) u u':=hk.mono λk _ e=>.inr (.inl e)
 have hid:∀ k,k<u.heap.size→B' k∨k=b1∨k=b2→B' k∨k=b1∨k=b2:=λk _ h=>h
 have hpl:=h.box.lt
 refine ⟨⟨B',ξ',X',h3.local hk λk e=>.inl e,hX3,htx.keep hkl hid,(htb.keep hk3 hM3).keep hkl hid,C12.ViewAt.keep (C12.ViewAt.keep hv hk3 hM3) hkl hid,λe=>hp (hM3 p hpl e)⟩,hfe,?_,hz,hk.blk hbb h.ne.symm,h.ne⟩
 exact hk.blk (hk3.blk h.box hp) λe=>hp (.inr (.inl e))
set_option maxRecDepth 20000 in
set_option maxHeartbeats 4000000 in
theorem yK {w w2:World} {A:Nat→Prop} {χ:Nat→Tag} {n r wr fb p:Nat} {X0:FabX} {rv:aN} (hm:Made w w2 n 100 fb p A χ X0 rv) (hrvl:rv.Members_l=n) (hn3:1≤n∧n≤3) (hr14:r<14) (hw14:wr<14) (hrun:vj) {seen:Bool}
  {z:World} (hz:New w2 z) {b1:Nat} {wa:Option Addr} {wc:Nat} (hb1:Blk z b1 (qh 0 1 100 rv none 0 0 wa (aT wr).length wc).cells 49) (hb1lo:w2.heap.size≤b1) (how:Owns z TPg 9 wa (aT wr).length wc (kk (sN n wr)).flatten) (hwa:∀ k,isB wa k→w2.heap.size≤k∧k≠b1) (hWu:∀ q ∈ sN n wr,PgU q)
  {rr:Option Addr} {rl rc:Nat} (hrr:Owns z 71 2 rr rl rc (mE (rC r)).flatten) (hrl:rl=(rC r).length) (hrb:∀ k,isB rr k→w2.heap.size≤k∧k≠b1) {m:Bool} (hmm:m=rZ r wr) {Q:Exit→List Value→World→Prop} (hQ:∀ env z,Q .ret env z=retQ prog f6 (λv z=>v=.bool true∧New w z) .ret env z) (jj:List Value) :
  Go.Eng.W prog (sub (aE f6) [1,1,1,1,1,1,1,1]) (dI seen (some ⟨p,0,none⟩) ⟨b1,0,none⟩ rr rl rc m jj) Q z:=by
 refine pf (P:=prog) (fn:=f6) (R:=(λv z=>v=.bool true∧New w z)) hQ ?_
 rw [iw]
 rintro w1 hw1
 have hn1:New z w1:=by rw [hw1];exact aS _
 clear hw1
 refine ⟨λy=>New w1 y,Keep.refl _ _,100,λu hu=>(New.blk ((hz.new hn1).new hu) hm.box).cell (i:=1) rfl,nilS (aN.mk_ex rv ⟨λu hu=>aJ (New.blk ((hz.new hn1).new hu) hm.box) (o:=2) rfl,?_⟩)⟩
 rintro b2 u2 hb2 hu2
 obtain ⟨hzb,hn2⟩:=aM hb2 hu2
 clear hu2
 refine ⟨hn2,?_⟩
 refine fJ (vs:=(qh 1 1 100 rv rr rl rc none 0 0).cells) hzb rfl (aB.single _) λu3 hz3 hk3=>?_
 have hs1:=hn1.size
 have hsz:=hz.size
 have hl1:=hb1.lt
 have hn3':New z u3:=(hn1.new hn2).trans hk3 λk hlt e=>by omega
 have hnA:=hz.new hn3'
 have hlt2:=hz3.lt
 have hT:TW A χ w2 fb (λk=>k=b1∨k=b2) u3 A χ X0:=TW.start hm.fab hnA λk hk=>by
  rcases hk with rfl | rfl
  ·have:=hn3'.size;omega
  ·omega
 have hvA:ViewAt (λk=>A k∨k=b1∨k=b2) u3 rv (wP n):=by
  refine ViewAt.new (hm.view.mono λj hj h=>?_) hnA
  rcases h with h | h | h
  ·exact h
  ·omega
  ·omega
 have hoff:∀ {a:Option Addr} {xs:List Value},Rd z a xs→(∀ k,isB a k→w2.heap.size≤k∧k≠b1)→(∀ k,isB a k→k<z.heap.size)→xs=[]∨Off (λk=>A k∨k=b1∨k=b2) a:=λhr h1 h2=>pK hr λk hk h=>by
  obtain ⟨h3,h4⟩:=h1 k hk
  have h5:=h2 k hk
  rcases h with h | h | h
  ·have:=hm.fab.low k h;omega
  ·exact h4 h
  ·omega
 obtain ⟨hl1',hl3'⟩:=mO wr hw14
 obtain ⟨hlr,hlr3⟩:=mO r hr14
 have hta:eE (λk=>A k∨k=b1∨k=b2) u3 (qh 0 1 100 rv none 0 0 wa (aT wr).length wc) (rD n wr):=
  q5 hvA (.inl rfl) rfl (by simp) (.inl rfl) ((how.new hn3').rd) (by rw [uh]) (by rw [uh];omega) (hoff how.rd hwa λk hk=>how.lt hk) hWu
 have htb:eE (λk=>A k∨k=b1∨k=b2) u3 (qh 1 1 100 rv rr rl rc none 0 0) (q7 n r):=
  q5 hvA ((hrr.new hn3').rd) hrl (by simp [rC];omega) (hoff hrr.rd hrb λk hk=>hrr.lt hk) (.inl rfl) rfl (by simp) (.inl rfl) (λp hp=>by cases hp)
 have hf0:Fine (Fab.fresh n 6 100):=Fine.fresh (by omega) (by omega) (by omega)
 have hpl:=hm.box.lt
 have hS:RdS w w2 A χ n fb p rv b1 b2 u3 (Fab.fresh n 6 100) (qh 0 1 100 rv none 0 0 wa (aT wr).length wc) (qh 1 1 100 rv rr rl rc none 0 0) (rD n wr) (q7 n r):=
  ⟨⟨A,χ,X0,hT,hm.pure,hta,htb,hvA,λe=>e.elim hm.out λe=>e.elim (λe=>by omega) λe=>by omega⟩,hf0,New.blk hnA hm.box,New.blk hn3' hb1,hz3,by omega⟩
 clear hta htb hT hvA hz3 hzb hoff
 obtain ⟨⟨s1,s2,hs1',hsf1,hs2',hsf2,hsov,hsc,hsf,hsa,hst,hse⟩,⟨q1,q2,hq1,hqf1,hq2,hqf2,hqa,hqov,hqc,hqf,hqt,hqe⟩⟩:=hrun n r wr hn3 hr14 hw14
 have hend:∀ (jj:List Value) (u:World) (F:Fab) (ra rb:TR) (ta tb:Tk conv) (Q2:Exit→List Value→World→Prop),(∀ env z,Q2 .ret env z=retQ prog f6 (λv z=>v=.bool true∧New w z) .ret env z)→RdS w w2 A χ n fb p rv b1 b2 u F ra rb ta tb→(outM ta).1=0→F.trips 1=1→EqF F n 100 (vi wr)→
   tb.over=true→(outM tb).1=mP (!seen && m)→(outM tb).2=mQ (!seen && m)→Go.Eng.W prog (sub (aE f6) [1,1,1,1,1,1,1,1,1,1,1,1]) (cF seen (some ⟨p,0,none⟩) ⟨b1,0,none⟩ m ⟨b2,0,none⟩ jj) (Qr prog f6 (λv z=>v=.bool true∧New w z) Q2) u:=by
  intro jj u F ra rb ta tb Q2 hQ2 hS hca htr heq hov hcb hfb
  obtain ⟨B,ξ,X,hT,hX,hta,htb,hv,hp⟩:=hS.ex
  have hnew:New w u:=hT.mine hm.fab hm.new hm.own
  have hra:ra.Code=0:=hta.out.1.trans hca
  have hrb:rb.Code=mP (!seen && m):=htb.out.1.trans hcb
  have hrf:rb.Fate=mQ (!seen && m):=htb.out.2.trans hfb
  have hbb:=hS.bb
  have hba:=hS.ba
  have hbox:=hS.box
  have hfin:∀ (jj:List Value) (u':World) (Q3:Exit→List Value→World→Prop),(∀ env z,Q3 .ret env z=retQ prog f6 (λv z=>v=.bool true∧New w z) .ret env z)→New u u'→Go.Eng.W prog (sub (aE f6) [1,1,1,1,1,1,1,1,1,1,1,1,0,1]) (bO seen m ⟨b2,0,none⟩ false jj) (seqQ (λenv z=>Go.Eng.W prog (sub (aE f6) [1,1,1,1,1,1,1,1,1,1,1,1,1]) env Q3 z) Q3) u':=by
   intro jj u' Q3 hQ3 hu'
   refine pf (P:=prog) (fn:=f6) (R:=(λv z=>v=.bool true∧New w z)) (λ_ _=>hQ3 _ _) ?_
   rw [iB]
   refine dE rfl (je ?_)
   rw [fV,fQ]
   refine pf (P:=prog) (fn:=f6) (R:=(λv z=>v=.bool true∧New w z)) (λ_ _=>hQ3 _ _) ?_
   rw [gZ]
   have hbb':=New.blk hu' hbb
   have hok:∀ (jj:List Value) (s:Bool),(s=true→(!seen && m)=false)→(s=false→(!seen && m)=true)→Go.Eng.W prog (sub (aE f6) [1,1,1,1,1,1,1,1,1,1,1,1,1,0,1]) (bZ ⟨b2,0,none⟩ s jj) (seqQ (λenv z=>Go.Eng.W prog (sub (aE f6) [1,1,1,1,1,1,1,1,1,1,1,1,1,1]) env Q3 z) Q3) u':=by
    intro jj s hs1 hs2
    refine pf (P:=prog) (fn:=f6) (R:=(λv z=>v=.bool true∧New w z)) (λ_ _=>hQ3 _ _) ?_
    rw [g8]
    cases s
    ·refine dE rfl (je ?_)
     refine pf (P:=prog) (fn:=f6) (R:=(λv z=>v=.bool true∧New w z)) hQ3 ?_
     rw [g9]
     rw [hs2 rfl] at hrb hrf
     refine ⟨_,hbb'.cell (i:=16) rfl,fY (by rw [htb.over,hov]) ⟨_,hbb'.cell (i:=18) rfl,fY (by rw [hrb];rfl) ⟨_,hbb'.cell (i:=24) rfl,?_,hnew.new hu'⟩⟩⟩
     rw [hrf]
     rfl
    ·rw [hs1 rfl] at hrb hrf
     refine fY rfl ⟨_,hbb'.cell (i:=16) rfl,fY (by rw [htb.over,hov]) ⟨_,hbb'.cell (i:=18) rfl,fY (by rw [hrb];rfl) ⟨_,hbb'.cell (i:=24) rfl,?_,hnew.new hu'⟩⟩⟩
     rw [hrf]
     rfl
   cases seen
   ·refine dE rfl (je (hok _ _ ?_ ?_))
    ·intro e;simpa using e
    ·intro e;simpa using e
   ·exact fY rfl (je (hok _ _ (λ_=>rfl) λe=>by cases e))
  rw [gB,fU]
  refine pf (P:=prog) (fn:=f6) (R:=(λv z=>v=.bool true∧New w z)) (λ_ _=>by first | rfl | exact hQ2 _ _) ?_
  rw [iA]
  rintro w1 hw1
  have hn1:New u w1:=by rw [hw1];exact aS _
  clear hw1
  refine ⟨λy=>New w1 y,Keep.refl _ _,_,λv hv=>(New.blk (hn1.new hv) hba).cell (i:=18) rfl,dE (by rw [hra];rfl) ?_⟩
  refine ⟨some ⟨fb,0,none⟩,λv hv=>(New.blk (hn1.new hv) hbox).cell (i:=0) rfl,rv.Members,rv.Members_l,rv.Members_c,λv hv=>(New.blk (hn1.new hv) hbox).cell (i:=3) rfl,100,λv hv=>(New.blk (hn1.new hv) hbox).cell (i:=1) rfl,?_⟩
  have hEq:=BG (hT.fab.new hn1) (EqX.of (n:=n) (lines:=100) (by rw [hX];exact hS.fine) (by rw [hX];exact heq) (by omega) (by omega)) (hv.rd.new hn1) (mc:=rv.Members_c) (by omega)
  rw [hrvl]
  refine aF hEq ?_
  rintro v u2 ⟨rfl,hn6⟩
  refine ⟨_,rfl,hn6,dE rfl ?_⟩
  refine ⟨some ⟨fb,0,none⟩,λv hv=>(New.blk (hn1.new hv) hbox).cell (i:=0) rfl,?_⟩
  refine aF (xM (hT.fab.new (hn1.new hn6)) 1) ?_
  rintro v u3 ⟨rfl,rfl⟩
  rw [hX,htr]
  exact ⟨_,rfl,hn6,je (hfin _ _ _ (λ_ _=>rfl) (hn1.new hn6))⟩
 have hrest:∀ (jj:List Value) (u:World) (F:Fab) (rb:TR) (tb:Tk conv) (Q2:Exit→List Value→World→Prop),(∀ env z,Q2 .ret env z=retQ prog f6 (λv z=>v=.bool true∧New w z) .ret env z)→RdS w w2 A χ n fb p rv b1 b2 u F (qh 0 1 100 rv none 0 0 wa (aT wr).length wc) rb (rD n wr) tb→
   (seen=true→F=s1.1∧tb=s1.2)→(seen=false→F=Fab.fresh n 6 100∧tb=q7 n r)→Go.Eng.W prog (sub (aE f6) [1,1,1,1,1,1,1,1,1,1]) (cE seen (some ⟨p,0,none⟩) ⟨b1,0,none⟩ m ⟨b2,0,none⟩ jj) (Qr prog f6 (λv z=>v=.bool true∧New w z) Q2) u:=by
  intro jj u F rb tb Q2 hQ2 hS hyes hno
  rw [iy]
  rintro w1 hw1
  have hn1:New u w1:=by rw [hw1];exact aS _
  clear hw1
  refine ⟨λy=>New w1 y,Keep.refl _ _,some ⟨fb,0,none⟩,λv hv=>(New.blk (hn1.new hv) hS.box).cell (i:=0) rfl,aB.mk_ex (qh 0 1 100 rv none 0 0 wa (aT wr).length wc) ⟨λv hv=>aJ (New.blk (hn1.new hv) hS.ba) rfl,?_⟩⟩
  obtain ⟨e,hd,hfe,he⟩:∃ e:Fab×Tk conv,alone F (rD n wr)=(e.1,[e.2])∧Fine e.1∧e=(if seen then s2 else q1):=by
   cases seen
   ·obtain ⟨rfl,_⟩:=hno rfl
    exact ⟨q1,hq1,hqf1,rfl⟩
   ·obtain ⟨rfl,_⟩:=hyes rfl
    exact ⟨s2,hs2',hsf2,rfl⟩
  refine aF ((hS.next hn1).run (lB _ _ _ _ _ _) hd hfe) ?_
  rintro v u2 ⟨r',rfl,hput⟩
  refine aB.mk_ex r' ⟨rfl,hput _ λu3 hS3=>?_⟩
  rw [gA]
  refine pf (P:=prog) (fn:=f6) (R:=(λv z=>v=.bool true∧New w z)) (λ_ _=>by first | rfl | exact hQ2 _ _) ?_
  rw [iz]
  cases seen
  ·refine fY rfl ?_
   obtain ⟨rfl,rfl⟩:=hno rfl
   have he:e=q1:=he
   subst he
   rintro w4 hw4
   have hn4:New u3 w4:=by rw [hw4];exact aS _
   clear hw4
   refine ⟨λy=>New w4 y,Keep.refl _ _,some ⟨fb,0,none⟩,λv hv=>(New.blk (hn4.new hv) hS3.box).cell (i:=0) rfl,aB.mk_ex rb ⟨λv hv=>aJ (New.blk (hn4.new hv) hS3.bb) rfl,?_⟩⟩
   refine aF (((hS3.next hn4).swap).run (lB _ _ _ _ _ _) hq2 hqf2) ?_
   rintro v u5 ⟨r2,rfl,hput2⟩
   refine aB.mk_ex r2 ⟨rfl,hput2 _ λu6 hS6=>je ?_⟩
   refine hend _ _ _ _ _ _ _ _ (λ_ _=>by first | rfl | exact hQ2 _ _) hS6.swap hqa hqt hqe hqov ?_ ?_
   ·rw [hqc,hmm];rfl
   ·rw [hqf,hmm];rfl
  ·obtain ⟨rfl,rfl⟩:=hyes rfl
   have he:e=s2:=he
   subst he
   exact dE rfl (je (hend _ _ _ _ _ _ _ _ (λ_ _=>by first | rfl | exact hQ2 _ _) hS3 hsa hst hse hsov hsc hsf))
 rw [gz]
 refine pf (P:=prog) (fn:=f6) (R:=(λv z=>v=.bool true∧New w z)) (λ_ _=>by first | rfl | exact hQ _ _) ?_
 rw [ix]
 cases seen
 ·exact dE rfl (je (hrest _ _ _ _ _ _ (λ_ _=>by first | rfl | exact hQ _ _) hS (λe=>by cases e) λ_=>⟨rfl,rfl⟩))
 ·refine fY rfl ?_
  rintro w4 hw4
  have hn4:New u3 w4:=by rw [hw4];exact aS _
  clear hw4
  refine ⟨λy=>New w4 y,Keep.refl _ _,some ⟨fb,0,none⟩,λv hv=>(New.blk (hn4.new hv) hS.box).cell (i:=0) rfl,aB.mk_ex (qh 1 1 100 rv rr rl rc none 0 0) ⟨λv hv=>aJ (New.blk (hn4.new hv) hS.bb) rfl,?_⟩⟩
  refine aF (((hS.next hn4).swap).run (lB _ _ _ _ _ _) hs1' hsf1) ?_
  rintro v u5 ⟨r2,rfl,hput2⟩
  refine aB.mk_ex r2 ⟨rfl,hput2 _ λu6 hS6=>je ?_⟩
  exact hrest _ _ _ _ _ _ (λ_ _=>by first | rfl | exact hQ _ _) hS6.swap (λ_=>⟨rfl,rfl⟩) λe=>by cases e
end Go.Proofs.YtegepanmkjemjaaGreat
