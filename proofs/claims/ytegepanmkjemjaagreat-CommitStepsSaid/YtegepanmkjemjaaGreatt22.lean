import Derived.Test.YtegepanmkjemjaaGreatProg
import Derived.Test.YtegepanmkjemjaaGreatt03
import Derived.Test.YtegepanmkjemjaaGreatt21
set_option linter.unusedVariables false
namespace Go.Proofs.YtegepanmkjemjaaGreat
open Go.Proofs.Tryz
open Go.Eng IntKind
variable (w:World) (R:Value→World→Prop)
theorem qH (p0 p1:Int):fnW prog f12 [(.int .i64 p0),(.int .i64 p1)] R w=(Calls prog 32 #[(.int .i64 p1)] w λe w1=>∃ a,e=.returned (.int .i64 a)∧Calls prog 31 #[(.int .i64 p0),(.int .i64 6),(.int .i64 a)] w1 λe w2=>∃ b c,e=.returned (.tuple #[(.pointer b),(.bool c)])∧Calls prog 32 #[(.int .i64 p1)] w2 λe w3=>∃ d,e=.returned (.int .i64 d)∧Calls prog 33 #[(.int .i64 p0)] w3 λe w4=>aQ.ex λf=>e=.returned f.val∧∀ b1 w5,b1=w4.heap.size→w5=w4.alloc (.cells #[(.pointer b),(.int .i64 d),(.int .i64 f.Number),(.slice f.Members f.Members_l f.Members_c)] 40)→R (.tuple #[(.pointer (some ⟨b1,0,none⟩)),(.bool c)]) w5):=by kernel_rfl
theorem qI  : fnW prog f13 [] R w=(Calls prog 31 #[.int .i64 1,.int .i64 1,.int .i64 98] w λe w1=>∃ (a:Option Addr) (b:Bool),e=.returned (.tuple #[.pointer a,.bool b])∧(bif (!b) then (R (.bool false) w1) else (Calls prog 33 #[.int .i64 1] w1 λe w2=>aQ.ex λm=>e=.returned m.val∧∀ b1 w3,b1=w2.heap.size→w3=w2.alloc (.cells #[.int .i64 96,.int .u64 256,.int .u64 7,.int .u64 0,.int .u64 0,.int .u64 0,.int .u64 0,.int .u64 0,.int .u64 0] 55)→Calls prog 15 #[.pointer a,.agg #[.int .i64 3,.int .i64 0,.int .i64 0,.int .i64 0,.int .i64 0,.int .i64 0,.int .i64 0,.int .u64 0,.int .i64 0,.int .i64 1,.int .i64 98,.int .i64 m.Number,.slice m.Members m.Members_l m.Members_c,.slice none 0 0,.slice (some ⟨b1,0,none⟩) 1 1,.slice none 0 0,.bool false,.bool false,.int .i64 0,.int .i64 0,.slice none 0 0,.int .i64 0,.slice none 0 0,.int .u64 0,.int .i64 0]] w3 λe w4=>aC.ex λn=>e=.returned n.val∧∀ b2 w5,b2=w4.heap.size→w5=w4.alloc (.cells #[.int .i64 0,.int .i64 0,.int .i64 0,.int .i64 0,.int .i64 0,.int .i64 0,.int .i64 0,.int .u64 0,.int .i64 0,.int .i64 0,.int .i64 0,.int .i64 0,.slice none 0 0,.slice none 0 0,.slice none 0 0,.slice none 0 0,.bool false,.bool false,.int .i64 0,.int .i64 0,.slice none 0 0,.int .i64 0,.slice none 0 0,.int .u64 0,.int .i64 0] 49)→wrAt w5 ⟨b2,0,none⟩ 0 n.cells∧∀ w6,w6=puts w5 ⟨b2,0,none⟩ 0 n.cells→Calls prog 18 #[.pointer a,.int .i64 0,.int .i64 96] w6 λe w7=>aD.ex λo=>∃ (c:Bool),e=.returned (.tuple #[o.val,.bool c])∧∀ b3 w8,b3=w7.heap.size→w8=w7.alloc (.cells #[.int .i64 0,.int .u64 0,.int .u64 0,.int .u64 0,.int .u64 0,.int .u64 0,.int .u64 0,.int .u64 0,.int .u64 0] 55)→wrAt w8 ⟨b3,0,none⟩ 0 o.cells∧∀ w9,w9=puts w8 ⟨b3,0,none⟩ 0 o.cells→∃ d,w9.cell? ⟨b2,16,none⟩=some (.bool d)∧(bif d then (∃ f,w9.cell? ⟨b2,17,none⟩=some (.bool f)∧(bif (!f) then (∃ g,w9.cell? ⟨b2,18,none⟩=some (.int .i64 g)∧(bif ((g:Int) == 0) then (∃ h,w9.cell? ⟨b2,24,none⟩=some (.int .i64 h)∧(bif ((h:Int) == 3) then ((bif c then (∃ i,w9.cell? ⟨b3,1,none⟩=some (.int .u64 i)∧(bif ((i:Int) == 512) then (idxA ⟨b3,2,none⟩ 7 0 1 λad=>∃ x,w9.cell? ad=some (.int .u64 x)∧(bif ((x:Int) == 7) then (Calls prog 16 #[.pointer a,.int .i64 0] w9 λe p=>∃ (k:Int),e=.returned (.int .i64 k)∧(bif ((k:Int) == 4) then (Calls prog 34 #[.pointer a,.int .i64 0] p λe q=>∃ (l:Int),e=.returned (.int .i64 l)∧R (.bool ((l:Int) == 5)) q) else (R (.bool false) p))) else (R (.bool false) w9))) else (R (.bool false) w9))) else (R (.bool false) w9))) else (R (.bool false) w9))) else (R (.bool false) w9))) else (R (.bool false) w9))) else (R (.bool false) w9))))):=by kernel_rfl
def cU (s0:Addr) (s1:Int) (s3:Option Addr) (a b:Nat) (s8 c:Addr) (d:Int) (j:LV):LV:=.pointer (some s0)::.int .i64 s1::jq j 0 1 (.slice s3 a b::jq j 1 4 (.pointer (some s8)::jq j 5 1 (.pointer (some c)::.int .i64 d::jq j 6 58 [])))
def io (s1:Int) (a b:Addr) (j:LV):LV:=jq j 0 1 (.int .i64 s1::jq j 1 6 (.pointer (some a)::jq j 7 1 (.pointer (some b)::jq j 8 59 [])))
theorem oM (p0:Nat) (p1 p2:Int) (p3:Option Addr) (a b:Nat):fnW prog f21 [.pointer (some ⟨p0,0,none⟩),.int .i64 p1,.int .i64 p2,.slice p3 a b] R w=(∀ b1 w1,b1=w.heap.size→w1=w.alloc (.cells #[.int .i64 0,.int .i64 0,.int .i64 0,.int .i64 0,.int .i64 0,.int .i64 0,.int .i64 0,.int .u64 0,.int .i64 0,.int .i64 0,.int .i64 0,.int .i64 0,.slice none 0 0,.slice none 0 0,.slice none 0 0,.slice none 0 0,.bool false,.bool false,.int .i64 0,.int .i64 0,.slice none 0 0,.int .i64 0,.slice none 0 0,.int .u64 0,.int .i64 0] 49)→∀ w2,w2=w1.drew→∃ Sx:World→Prop,Sx w2∧∃ c,(∀ u,Sx u→u.cell? ⟨p0,1,none⟩=some (.int .i64 c))∧aQ.ex λd=>(∀ u,Sx u→aF u ⟨p0,2,none⟩ 0 d.cells)∧∀ b2 w3,b2=w2.heap.size→w3=w2.alloc (.cells #[.int .i64 0,.int .i64 0,.int .i64 0,.int .i64 0,.slice none 0 0,.slice none 0 0,.slice none 0 0] 34)→Sx w3∧wrAt w3 ⟨b2,0,none⟩ 0 [.int .i64 p1,.int .i64 p2,.int .i64 c,.int .i64 d.Number,.slice d.Members d.Members_l d.Members_c,.slice none 0 0,.slice none 0 0]∧∀ w4,w4=puts w3 ⟨b2,0,none⟩ 0 [.int .i64 p1,.int .i64 p2,.int .i64 c,.int .i64 d.Number,.slice d.Members d.Members_l d.Members_c,.slice none 0 0,.slice none 0 0]→bX prog (.loop (sub (aB f21) [1,1,0,1,0,0])) (cU ⟨p0,0,none⟩ p1 p3 a b ⟨b1,0,none⟩ ⟨b2,0,none⟩ 0 (ji p2::uq 4 (jb false::uq 2 (ji p1::ji p2::jp ⟨p0,0,none⟩::jp ⟨p0,0,none⟩::jp ⟨p0,1,none⟩::ji c::jp ⟨p0,0,none⟩::jp ⟨p0,0,none⟩::jp ⟨p0,2,none⟩::d.val::.agg #[.int .i64 p1,.int .i64 p2,.int .i64 c,.int .i64 d.Number,.slice d.Members d.Members_l d.Members_c,.slice none 0 0,.slice none 0 0]::uq 45 [])))) (aJ 0 (nx f21 [1,1,1] R)) w4):=by kernel_rfl
set_option maxHeartbeats 4000000 in
theorem jT (s0:Addr) (s1:Int) (s3:Option Addr) (a b:Nat) (s8 c:Addr) (d:Int) (j:LV) (N1:LV→World→Prop):W prog (sub (aB f21) [1,1,0,1,0,0]) (cU s0 s1 s3 a b s8 c d j) (seqQ N1 (aJ 0 (nx f21 [1,1,1] R))) w=((bif (decide ((d:Int)<(a:Nat))) then (∀ w1,w1=w.drew→∃ Sx:World→Prop,Sx w1∧∃ (f:Option Addr),(∀ u,Sx u→u.cell? s0=some (.pointer f))∧idxS s3 a d 1 λad=>∃ x,(∀ u,Sx u→u.cell? ad=some (.int .i64 x))∧(Calls prog 18 #[.pointer f,.int .i64 0,.int .i64 x] w1 λe w2=>aD.ex λaa=>∃ (g:Bool),e=.returned (.tuple #[aa.val,.bool g])∧Sx w2∧∀ b1 w3,b1=w2.heap.size→w3=w2.alloc (.cells #[.int .i64 0,.int .u64 0,.int .u64 0,.int .u64 0,.int .u64 0,.int .u64 0,.int .u64 0,.int .u64 0,.int .u64 0] 55)→Sx w3∧wrAt w3 ⟨b1,0,none⟩ 0 aa.cells∧∀ w4,w4=puts w3 ⟨b1,0,none⟩ 0 aa.cells→(bif (!g) then (wrAt w4 s8 0 [.int .i64 0,.int .i64 0,.int .i64 0,.int .i64 0,.int .i64 0,.int .i64 0,.int .i64 0,.int .u64 0,.int .i64 0,.int .i64 0,.int .i64 0,.int .i64 0,.slice none 0 0,.slice none 0 0,.slice none 0 0,.slice none 0 0,.bool false,.bool false,.int .i64 0,.int .i64 0,.slice none 0 0,.int .i64 0,.slice none 0 0,.int .u64 0,.int .i64 0]∧∀ w5,w5=puts w4 s8 0 [.int .i64 0,.int .i64 0,.int .i64 0,.int .i64 0,.int .i64 0,.int .i64 0,.int .i64 0,.int .u64 0,.int .i64 0,.int .i64 0,.int .i64 0,.int .i64 0,.slice none 0 0,.slice none 0 0,.slice none 0 0,.slice none 0 0,.bool false,.bool false,.int .i64 0,.int .i64 0,.slice none 0 0,.int .i64 0,.slice none 0 0,.int .u64 0,.int .i64 0]→aC.ex λab=>aF w5 s8 0 ab.cells∧w5=w5∧R (.tuple #[ab.val,.bool false]) w5) else (∃ h,w4.cell? ⟨b1,1,none⟩=some (.int .u64 h)∧(∃ u,w4.cell? ⟨b1,1,none⟩=some u)∧w4.frozen? ⟨b1,1,none⟩=false∧∀ w6,w6=w4.setCell ⟨b1,1,none⟩ (.int .u64 (Bx .u64 h 255))→idxA ⟨b1,2,none⟩ 7 0 1 λac=>∃ x1,w6.cell? ac=some (.int .u64 x1)∧idxA ⟨b1,2,none⟩ 7 0 1 λae=>(∃ u,w6.cell? ae=some u)∧w6.frozen? ae=false∧∀ w7,w7=w6.setCell ae (.int .u64 (u64.wrap (x1+1)))→idxA ⟨b1,2,none⟩ 7 1 1 λaf=>(∃ u,w7.cell? af=some u)∧w7.frozen? af=false∧∀ w8,w8=w7.setCell af (.int .u64 (u64.wrap (i64.wrap (s1+1))))→∃ i k l,w8.cell? ⟨c.block,c.off+6,none⟩=some (.slice i k l)∧aD.ex λr=>aF w8 ⟨b1,0,none⟩ 0 r.cells∧∀ b2 w9,b2=w8.heap.size→w9=w8.alloc (.cells r.cells.toArray 55)→∃ (ap:Option Addr) (m n:Nat),∃ ag,(Builtin.append_ #[32,32] 32 #[.slice i k l,.slice (some ⟨b2,0,none⟩) 1 1]).run prog w9=.ok (.slice ap m n) ag∧(∃ u,ag.cell? ⟨c.block,c.off+6,none⟩=some u)∧ag.frozen? ⟨c.block,c.off+6,none⟩=false∧∀ ah,ah=ag.setCell ⟨c.block,c.off+6,none⟩ (.slice ap m n)→N1 (cU s0 s1 s3 a b s8 c (i64.wrap (d+1)) (jq j 0 6 (jp ⟨b1,0,none⟩::jb g::jq j 8 11 [ji d,js s3 a b,jn a,jb (decide ((d:Int)<(a:Nat))),ji d,ji (i64.wrap (d+1)),.tuple #[aa.val,.bool g],jp s0,jp s0,jp s0,.pointer f,js s3 a b,ji d,jp ad,ji x,.tuple #[aa.val,.bool g],aa.val,jb g,jb g,jb (!g),jg j 39,jp ⟨b1,1,none⟩,ju h,ju (Bx .u64 h 255),jp ⟨b1,1,none⟩,jp ⟨b1,2,none⟩,jp ac,ju x1,ju (u64.wrap (x1+1)),jp ⟨b1,2,none⟩,jp ae,ji s1,ji (i64.wrap (s1+1)),ju (u64.wrap (i64.wrap (s1+1))),jp ⟨b1,2,none⟩,jp af,jf c 6,js i k l,r.val,js (some ⟨b2,0,none⟩) 1 1,js ap m n,jf c 6,jg j 61,jg j 62,jg j 63]))) ah)))∧(∀ b3 ai,b3=w1.heap.size→ai=w1.alloc (.cells #[.int .i64 0,.int .u64 0,.int .u64 0,.int .u64 0,.int .u64 0,.int .u64 0,.int .u64 0,.int .u64 0,.int .u64 0] 55)→Sx ai∧Calls prog 18 #[.pointer f,.int .i64 0,.int .i64 x] ai λe aj=>aD.ex λak=>∃ (o:Bool),e=.returned (.tuple #[ak.val,.bool o])∧wrAt aj ⟨b3,0,none⟩ 0 ak.cells∧∀ al,al=puts aj ⟨b3,0,none⟩ 0 ak.cells→(bif (!o) then (wrAt al s8 0 [.int .i64 0,.int .i64 0,.int .i64 0,.int .i64 0,.int .i64 0,.int .i64 0,.int .i64 0,.int .u64 0,.int .i64 0,.int .i64 0,.int .i64 0,.int .i64 0,.slice none 0 0,.slice none 0 0,.slice none 0 0,.slice none 0 0,.bool false,.bool false,.int .i64 0,.int .i64 0,.slice none 0 0,.int .i64 0,.slice none 0 0,.int .u64 0,.int .i64 0]∧∀ am,am=puts al s8 0 [.int .i64 0,.int .i64 0,.int .i64 0,.int .i64 0,.int .i64 0,.int .i64 0,.int .i64 0,.int .u64 0,.int .i64 0,.int .i64 0,.int .i64 0,.int .i64 0,.slice none 0 0,.slice none 0 0,.slice none 0 0,.slice none 0 0,.bool false,.bool false,.int .i64 0,.int .i64 0,.slice none 0 0,.int .i64 0,.slice none 0 0,.int .u64 0,.int .i64 0]→aC.ex λan=>aF am s8 0 an.cells∧am=am∧R (.tuple #[an.val,.bool false]) am) else (∃ p,al.cell? ⟨b3,1,none⟩=some (.int .u64 p)∧(∃ u,al.cell? ⟨b3,1,none⟩=some u)∧al.frozen? ⟨b3,1,none⟩=false∧∀ ao,ao=al.setCell ⟨b3,1,none⟩ (.int .u64 (Bx .u64 p 255))→idxA ⟨b3,2,none⟩ 7 0 1 λaq=>∃ x2,ao.cell? aq=some (.int .u64 x2)∧idxA ⟨b3,2,none⟩ 7 0 1 λar=>(∃ u,ao.cell? ar=some u)∧ao.frozen? ar=false∧∀ au,au=ao.setCell ar (.int .u64 (u64.wrap (x2+1)))→idxA ⟨b3,2,none⟩ 7 1 1 λav=>(∃ u,au.cell? av=some u)∧au.frozen? av=false∧∀ aw,aw=au.setCell av (.int .u64 (u64.wrap (i64.wrap (s1+1))))→∃ q s t,aw.cell? ⟨c.block,c.off+6,none⟩=some (.slice q s t)∧aD.ex λr1=>aF aw ⟨b3,0,none⟩ 0 r1.cells∧∀ b4 ax,b4=aw.heap.size→ax=aw.alloc (.cells r1.cells.toArray 55)→∃ (v:Option Addr) (y z:Nat),∃ ay,(Builtin.append_ #[32,32] 32 #[.slice q s t,.slice (some ⟨b4,0,none⟩) 1 1]).run prog ax=.ok (.slice v y z) ay∧(∃ u,ay.cell? ⟨c.block,c.off+6,none⟩=some u)∧ay.frozen? ⟨c.block,c.off+6,none⟩=false∧∀ az,az=ay.setCell ⟨c.block,c.off+6,none⟩ (.slice v y z)→N1 (cU s0 s1 s3 a b s8 c (i64.wrap (d+1)) (jq j 0 6 (jp ⟨b3,0,none⟩::jb o::jq j 8 11 [ji d,js s3 a b,jn a,jb (decide ((d:Int)<(a:Nat))),ji d,ji (i64.wrap (d+1)),.tuple #[ak.val,.bool o],jp s0,jp s0,jp s0,.pointer f,js s3 a b,ji d,jp ad,ji x,.tuple #[ak.val,.bool o],ak.val,jb o,jb o,jb (!o),jg j 39,jp ⟨b3,1,none⟩,ju p,ju (Bx .u64 p 255),jp ⟨b3,1,none⟩,jp ⟨b3,2,none⟩,jp aq,ju x2,ju (u64.wrap (x2+1)),jp ⟨b3,2,none⟩,jp ar,ji s1,ji (i64.wrap (s1+1)),ju (u64.wrap (i64.wrap (s1+1))),jp ⟨b3,2,none⟩,jp av,jf c 6,js q s t,r1.val,js (some ⟨b4,0,none⟩) 1 1,js v y z,jf c 6,jg j 61,jg j 62,jg j 63]))) az)))) else (W prog (sub (aB f21) [1,1,1]) (io s1 s8 c (jp s0::jg j 0::js s3 a b::jq j 1 5 (ji d::jq j 6 13 (ji d::js s3 a b::jn a::jb (decide ((d:Int)<(a:Nat)))::jq j 23 41 [])))) (retQ prog f21 R) w))):=by kernel_rfl
theorem lw (s1:Int) (a b:Addr) (j:LV):W prog (sub (aB f21) [1,1,1]) (io s1 a b j) (retQ prog f21 R) w=(aM.ex λr=>aF w b 0 r.cells∧wrAt w a 0 [.int .i64 3,.int .i64 s1,.int .i64 0,.int .i64 0,.int .i64 0,.int .i64 0,.int .i64 0,.int .u64 0,.int .i64 r.Client,.int .i64 r.Seq,.int .i64 r.Lines,.int .i64 r.View.Number,.slice r.View.Members r.View.Members_l r.View.Members_c,.slice r.Reads r.Reads_l r.Reads_c,.slice r.Writes r.Writes_l r.Writes_c,.slice none 0 0,.bool false,.bool false,.int .i64 0,.int .i64 0,.slice none 0 0,.int .i64 0,.slice none 0 0,.int .u64 0,.int .i64 0]∧∀ w1,w1=puts w a 0 [.int .i64 3,.int .i64 s1,.int .i64 0,.int .i64 0,.int .i64 0,.int .i64 0,.int .i64 0,.int .u64 0,.int .i64 r.Client,.int .i64 r.Seq,.int .i64 r.Lines,.int .i64 r.View.Number,.slice r.View.Members r.View.Members_l r.View.Members_c,.slice r.Reads r.Reads_l r.Reads_c,.slice r.Writes r.Writes_l r.Writes_c,.slice none 0 0,.bool false,.bool false,.int .i64 0,.int .i64 0,.slice none 0 0,.int .i64 0,.slice none 0 0,.int .u64 0,.int .i64 0]→aC.ex λc=>aF w1 a 0 c.cells∧w1=w1∧R (.tuple #[c.val,.bool true]) w1):=by kernel_rfl
def dG (s0:Int) (s3:Option Addr) (a b:Nat) (s4:Int) (j:LV):LV:=.int .i64 s0::jq j 0 2 (.slice s3 a b::.int .i64 s4::jq j 2 18 [])
def iV (s3:Option Addr) (a b:Nat) (j:LV):LV:=jq j 0 3 (.slice s3 a b::jq j 3 19 [])
theorem p7 (p0:Int):fnW prog f22 [.int .i64 p0] R w=(bX prog (.loop (sub (aB f22) [1,1,0,1,0,0])) (dG p0 none 0 0 0 (undef::jz::uq 18 [])) (aJ 0 (nx f22 [1,1,1] R)) w):=by kernel_rfl
theorem kW (s0:Int) (s3:Option Addr) (a b:Nat) (s4:Int) (j:LV) (N1:LV→World→Prop):W prog (sub (aB f22) [1,1,0,1,0,0]) (dG s0 s3 a b s4 j) (seqQ N1 (aJ 0 (nx f22 [1,1,1] R))) w=((bif (decide ((s4:Int)<4)) then (Calls prog 11 #[.int .i64 s0,.int .i64 14] w λe w1=>∃ (c:Int),e=.returned (.int .i64 c)∧0≤(u64.wrap s4)∧(bif (((band .i64 (bshr .i64 (i64.wrap (c+1)) (u64.wrap s4)) 1):Int) == 1) then (∀ b1 w2,b1=w1.heap.size→w2=w1.alloc (.cells #[.int .i64 (i64.wrap (96+s4))] 3)→∃ (ap:Option Addr) (d f:Nat),∃ w3,(Builtin.append_ #[22,22] 22 #[.slice s3 a b,.slice (some ⟨b1,0,none⟩) 1 1]).run prog w2=.ok (.slice ap d f) w3∧N1 (dG s0 ap d f (i64.wrap (s4+1)) [jg j 0,jg j 1,ji s4,jb (decide ((s4:Int)<4)),ji s4,ji (i64.wrap (s4+1)),ji s0,ji c,ji (i64.wrap (c+1)),ji s4,ju (u64.wrap s4),ji (bshr .i64 (i64.wrap (c+1)) (u64.wrap s4)),ji (band .i64 (bshr .i64 (i64.wrap (c+1)) (u64.wrap s4)) 1),jb (((band .i64 (bshr .i64 (i64.wrap (c+1)) (u64.wrap s4)) 1):Int) == 1),js s3 a b,ji s4,ji (i64.wrap (96+s4)),js (some ⟨b1,0,none⟩) 1 1,js ap d f,jg j 19]) w3) else (N1 (dG s0 s3 a b (i64.wrap (s4+1)) (jg j 0::jg j 1::ji s4::jb (decide ((s4:Int)<4))::ji s4::ji (i64.wrap (s4+1))::ji s0::ji c::ji (i64.wrap (c+1))::ji s4::ju (u64.wrap s4)::ji (bshr .i64 (i64.wrap (c+1)) (u64.wrap s4))::ji (band .i64 (bshr .i64 (i64.wrap (c+1)) (u64.wrap s4)) 1)::jb (((band .i64 (bshr .i64 (i64.wrap (c+1)) (u64.wrap s4)) 1):Int) == 1)::jq j 14 6 [])) w1))) else (W prog (sub (aB f22) [1,1,1]) (iV s3 a b (ji s0::jg j 0::jg j 1::ji s4::ji s4::jb (decide ((s4:Int)<4))::jq j 4 16 [])) (retQ prog f22 R) w))):=by kernel_rfl
theorem mH (s3:Option Addr) (a b:Nat) (j:LV):W prog (sub (aB f22) [1,1,1]) (iV s3 a b j) (retQ prog f22 R) w=(R (.slice s3 a b) w):=by kernel_rfl
theorem oN (p0:Nat) (p1:Int):fnW prog f34 [.pointer (some ⟨p0,0,none⟩),.int .i64 p1] R w=(Calls prog 38 #[.pointer (some ⟨p0,0,none⟩),.int .i64 p1] w λe w1=>∃ a,e=.returned (.pointer a)∧(bif (!(Option.isNone a)) then (nilP a λc=>∃ b,w1.cell? ⟨c.block,c.off+6,none⟩=some (.int .i64 b)∧R (.int .i64 b) w1) else (R (.int .i64 0) w1))):=by kernel_rfl
theorem qJ (p0:Int):fnW prog f42 [.int .i64 p0] R w=((bif (decide ((p0:Int)≥0)) then (R (.bool (decide ((p0:Int)<6))) w) else (R (.bool false) w))):=by kernel_rfl
end Go.Proofs.YtegepanmkjemjaaGreat
namespace Go.Proofs.YtegepanmkjemjaaGreat
open Go.Eng
end Go.Proofs.YtegepanmkjemjaaGreat
namespace Go.Proofs.YtegepanmkjemjaaGreat
open Go.Eng
def Aa (l:List bD):List (List Value):=l.map bD.cells
def noS:bD:=⟨0,0⟩
def ascS (R:List bD) (i:Nat):Bool:=decide (i=0) || decide ((R.getD (i - 1) noS).Line<(R.getD i noS).Line)
def has (W:List aD) (line:Int):Bool:=W.any λp=>decide (p.Line=line)
def tT (R:List bD) (W:List aD) (i:Nat):Bool:=(ascS R i && unl (R.getD i noS).Head) && !has W (R.getD i noS).Line
structure CJob where
 client:Int
 seq:Int
 lines:Int
 v:Vw
 reads:List bD
 writes:List aD
def CJob.valid (j:CJob):Int:=
 if j.client<0∨6≤j.client then 1 else if j.v.valid 5≠0 then j.v.valid 5 else if j.lines<98∨256<j.lines then 18
 else if 0<j.writes.length∧mi j.seq j.writes j.lines≠0 then mi j.seq j.writes j.lines else if 24<j.reads.length then 18
 else if j.reads.all (λs=>iU s.Line j.lines)=false then 2 else if (List.range j.reads.length).all (tT j.reads j.writes)=false then 1 else 0
structure tU (w:World) (r:aM) (j:CJob):Prop where
 client:r.Client=j.client
 seq:r.Seq=j.seq
 lines:r.Lines=j.lines
 view:∃ M,gU M w r.View j.v
 rd:Rd w r.Reads (Aa j.reads).flatten
 len:r.Reads_l=j.reads.length
 few:j.reads.length≤1000000
 pg:vm w r.Writes r.Writes_l j.writes
theorem tU.new {w w':World} {r:aM} {j:CJob} (h:tU w r j) (hn:New w w'):tU w' r j:=⟨h.client,h.seq,h.lines,h.view.imp λ_ h=>h.new hn,h.rd.new hn,h.len,h.few,h.pg.new hn⟩
theorem Ab (w:World) (r:aM):Does 143 [r.val] w λx w'=>x=aT.val ⟨r.Seq,r.Writes,r.Writes_l,r.Writes_c⟩∧New w w':=by
 refine does Tryz.func143 ?_
 rw [qE]
 rintro b1 w1 hb1 hw1
 obtain ⟨hz1,hn1⟩:=aO hb1 hw1
 have hz1:Blk w1 b1 r.cells 34:=hz1
 clear hw1
 rintro b2 w2 hb2 hw2
 obtain ⟨hz2,hn2⟩:=aO hb2 hw2
 have hz2:Blk w2 b2 (aT.cells ⟨0,none,0,0⟩) 252:=hz2
 clear hw2
 have hz12:=New.blk hn2 hz1
 have hs:=hn1.size
 refine ⟨_,hz12.cell (i:=1) rfl,_,_,_,hz12.cell (i:=6) rfl,?_⟩
 refine g8 (vs:=aT.cells ⟨r.Seq,r.Writes,r.Writes_l,r.Writes_c⟩) hz2 rfl (aT.single _) λw3 hz3 hk3=>?_
 refine aT.mk_ex ⟨r.Seq,r.Writes,r.Writes_l,r.Writes_c⟩ ⟨aK hz3 rfl,rfl,rfl,?_⟩
 exact (hn1.new hn2).trans hk3 λk hlt e=>by omega
theorem yk {w:World} {r:aM} {W:List aD} (h:vm w r.Writes r.Writes_l W) (line:Int):Does 146 [r.val,.int .i64 line] w λx w'=>x=.bool (has W line)∧New w w':=by
 refine does Tryz.func146 ?_
 rw [qF]
 rintro b1 w1 hb1 hw1
 obtain ⟨hz1,hn1⟩:=aO hb1 hw1
 have hz1:Blk w1 b1 r.cells 34:=hz1
 clear hw1
 have hlen:=h.len
 have hfew:=h.few
 refine ⟨_,_,_,hz1.cell (i:=6) rfl,?_⟩
 refine aR mix (λm env u=>∃ (i:Nat) (jj:List Value),m=W.length - i∧i≤W.length∧env=eL line r.Writes r.Writes_l r.Writes_c r.Writes_l i jj∧New w u∧has (W.take i) line=false) W.length
  ⟨0,_,by omega,by omega,rfl,hn1,rfl⟩ ?_
 rintro m env u ⟨i,jj,rfl,hi,rfl,hnu,hno⟩
 rw [lv]
 refine aI (λhq=>?_) (λhq=>?_)
 ·have hlt:i<W.length:=by omega
  have hg:W[i]?=some W[i]:=List.getElem?_eq_getElem hlt
  refine gJ (cells:=aD.cells) aD.len (by omega) (h.rd.new hnu) hg rfl hlen λb o hc _=>aD.mk_ex W[i] ⟨hc,?_⟩
  refine ii (vs:=W[i].cells) rfl (aD.single _) λb3 u2 hb3 hz3 hn3=>?_
  refine ⟨_,hz3.cell (i:=0) rfl,bG (λhe=>⟨?_,hnu.new hn3⟩) (λhe=>?_)⟩
  ·have:has W line=true:=List.any_eq_true.2 ⟨W[i],List.getElem_mem hlt,by simpa using he⟩
   rw [this]
  ·rw [w64 (by omega) (by omega)]
   refine ⟨W.length - (i+1),by omega,i+1,_,rfl,by omega,rfl,hnu.new hn3,?_⟩
   unfold has
   rw [List.take_add_one,hg,List.any_append]
   have:=hno
   unfold has at this
   rw [this]
   simpa using he
 ·rw [m9]
  have ht:W.take i=W:=List.take_of_length_le (by omega)
  rw [ht] at hno
  exact ⟨by rw [hno],hnu⟩
end Go.Proofs.YtegepanmkjemjaaGreat
namespace Go.Proofs.YtegepanmkjemjaaGreat
open Go.Proofs.Tryz
open Go.Eng
def CJob.tail (j:CJob):Int:=if j.reads.all (λs=>iU s.Line j.lines)=false then 2 else if (List.range j.reads.length).all (tT j.reads j.writes)=false then 1 else 0
theorem nZ {R:List bD} {W:List aD} {i:Nat} (h:ascS R i=false∨unl (R.getD i noS).Head=false∨has W (R.getD i noS).Line=true):tT R W i=false:=by
 unfold tT
 rcases h with h | h | h
 ·rw [h];rfl
 ·rw [h,Bool.and_false];rfl
 ·rw [h];simp
set_option maxHeartbeats 1000000 in
theorem E3 {w u:World} {r:aM} {j:CJob} {b1:Nat} (h:tU w r j) (hz:Blk u b1 r.cells 34) (hn:New w u) (jj:List Value) {R:Value→World→Prop} (hR:∀ w',New w w'→R (.int .i64 j.tail) w') :
  bX prog (.loop (sub (aB f106) [1,1,1,1,1,1,0,1,0,0])) (eF ⟨b1,0,none⟩ r.Reads r.Reads_l r.Reads_c r.Reads_l 0 jj) (aJ 0 (seqQ (λenv w=>W prog (sub (aB f106) [1,1,1,1,1,1,1]) env (retQ prog f106 R) w) (retQ prog f106 R))) u:=by
 have hlen:=h.len
 have hfew:=h.few
 have hli:=h.lines
 unfold CJob.tail at hR
 refine aR mix (λm env z=>∃ (i:Nat) (jj:List Value),m=j.reads.length - i∧i≤j.reads.length∧env=eF ⟨b1,0,none⟩ r.Reads r.Reads_l r.Reads_c r.Reads_l i jj∧New u z∧(j.reads.take i).all (λs=>iU s.Line j.lines)=true) j.reads.length
  ⟨0,_,by omega,by omega,rfl,Keep.refl _ _,rfl⟩ ?_
 rintro m env z ⟨i,jj,rfl,hi,rfl,hnz,hok⟩
 have hn0z:=hn.new hnz
 rw [oI]
 refine aI (λhq=>?_) (λhq=>?_)
 ·have hlt:i<j.reads.length:=by omega
  have hg:j.reads[i]?=some j.reads[i]:=List.getElem?_eq_getElem hlt
  refine gJ (cells:=bD.cells) bD.len (by omega) (h.rd.new hn0z) hg rfl hlen λb o hc _=>bD.mk_ex j.reads[i] ⟨hc,?_⟩
  refine ii (vs:=j.reads[i].cells) rfl (bD.single _) λb3 u2 hb3 hz3 hn3=>?_
  refine ⟨_,hz3.cell (i:=0) rfl,_,(New.blk (hnz.new hn3) hz).cell (i:=2) rfl,?_⟩
  refine aG (D1 _ _ _) ?_
  rintro x w3 ⟨rfl,rfl⟩
  refine ⟨_,rfl,dV (λhf=>?_) (λht=>?_)⟩
  ·rw [if_pos (by
    rw [List.all_eq_false]
    exact ⟨_,List.getElem_mem hlt,by rw [←hli,hf];simp⟩)] at hR
   exact hR _ (hn0z.new hn3)
  ·rw [w64 (by omega) (by omega)]
   refine ⟨j.reads.length - (i+1),by omega,i+1,_,rfl,by omega,rfl,hnz.new hn3,?_⟩
   rw [List.take_add_one,hg,List.all_append,hok]
   simp [←hli,ht]
 have ht:j.reads.take i=j.reads:=List.take_of_length_le (by omega)
 rw [ht] at hok
 rw [if_neg (by rw [hok];simp)] at hR
 rw [qA]
 clear hok hi hq ht
 have hzz:=New.blk hnz hz
 refine ⟨_,_,_,hzz.cell (i:=5) rfl,?_⟩
 refine aR mix (λm env x=>∃ (i:Nat) (jj:List Value),m=j.reads.length - i∧i≤j.reads.length∧env=fW ⟨b1,0,none⟩ r.Reads r.Reads_l r.Reads_c r.Reads_l i jj∧New z x∧∀ k,k<i→tT j.reads j.writes k=true) j.reads.length
  ⟨0,_,by omega,by omega,rfl,Keep.refl _ _,λk hk=>by omega⟩ ?_
 rintro m env x ⟨i,jj,rfl,hi,rfl,hnx,hok⟩
 have hn0x:=hn0z.new hnx
 rw [oJ]
 refine aI (λhq=>?_) (λhq=>?_)
 ·have hlt:i<j.reads.length:=by omega
  have hg:j.reads[i]?=some j.reads[i]:=List.getElem?_eq_getElem hlt
  have hgd:=pY (d:=noS) hg
  have bad:tT j.reads j.writes i=false→∀ w',New w w'→R (.int .i64 1) w':=λe w' hw=>by
   rw [if_pos (mX hlt e)] at hR
   exact hR w' hw
  refine gJ (cells:=bD.cells) bD.len (by omega) (h.rd.new hn0x) hg rfl hlen λb o hc _=>bD.mk_ex j.reads[i] ⟨hc,?_⟩
  refine ii (vs:=j.reads[i].cells) rfl (bD.single _) λb3 u2 hb3 hz3 hn3=>?_
  rintro u3 hu3
  have hn4:New u2 u3:=by rw [hu3];exact aW _
  clear hu3
  have hn34:=hn3.new hn4
  have hz4:=New.blk hn4 hz3
  have hzx:=New.blk (hnx.new hn34) hzz
  have hn04:=hn0x.new hn34
  refine ⟨λy=>New u3 y,Keep.refl _ _,aI (λh0=>⟨_,λy hy=>(New.blk hy hz4).cell (i:=0) rfl,_,_,_,λy hy=>(New.blk hy hzx).cell (i:=5) rfl,?_⟩) (λh0=>⟨_,λy hy=>(New.blk hy hz4).cell (i:=1) rfl,?_⟩)⟩
  ·have hg1:j.reads[i - 1]?=some j.reads[i - 1]:=List.getElem?_eq_getElem (by omega)
   have hgd1:=pY (d:=noS) hg1
   refine iI (cells:=bD.cells) bD.len (by omega) (h.rd.new hn04) hg1 (by rw [w64 (by omega) (by omega)];omega) hlen λb' o' hc'=>⟨_,λy hy=>hc' y hy 0 _ rfl,aI (λhp6=>?_) (λhp6=>⟨_,λy hy=>(New.blk hy hz4).cell (i:=1) rfl,?_⟩)⟩
   ·exact bad (nZ (.inl (by unfold ascS;rw [hgd,hgd1];simp;omega))) _ hn04
   have ha:ascS j.reads i=true:=by unfold ascS;rw [hgd,hgd1];simp;omega
   refine aG (D2 u3 j.reads[i].Head) ?_
   rintro v u4 ⟨rfl,rfl⟩
   refine ⟨_,rfl,Keep.refl _ _,dV (λhf=>?_) (λhtt=>aM.mk_ex r ⟨λy hy=>aK (New.blk hy hzx) rfl,_,λy hy=>(New.blk hy hz4).cell (i:=0) rfl,?_⟩)⟩
   ·exact bad (nZ (.inr (.inl (by rw [hgd];exact hf)))) _ hn04
   refine aG (yk (h.pg.new hn04) j.reads[i].Line) ?_
   rintro v u5 ⟨rfl,hn5⟩
   refine ⟨_,rfl,hn5,jP (λhw=>?_) (λhw=>?_)⟩
   ·exact bad (nZ (.inr (.inr (by rw [hgd];exact hw)))) _ (hn04.new hn5)
   ·rw [w64 (by omega) (by omega)]
    refine ⟨j.reads.length - (i+1),by omega,i+1,_,rfl,by omega,rfl,(hnx.new hn34).new hn5,λk hk=>?_⟩
    rcases Nat.lt_succ_iff_lt_or_eq.1 hk with hk | rfl
    ·exact hok k hk
    ·unfold tT;rw [hgd,ha,htt,hw];rfl
  ·have ha:ascS j.reads i=true:=by unfold ascS;simp;omega
   refine aG (D2 u3 j.reads[i].Head) ?_
   rintro v u4 ⟨rfl,rfl⟩
   refine ⟨_,rfl,Keep.refl _ _,dV (λhf=>?_) (λhtt=>aM.mk_ex r ⟨λy hy=>aK (New.blk hy hzx) rfl,_,λy hy=>(New.blk hy hz4).cell (i:=0) rfl,?_⟩)⟩
   ·exact bad (nZ (.inr (.inl (by rw [hgd];exact hf)))) _ hn04
   refine aG (yk (h.pg.new hn04) j.reads[i].Line) ?_
   rintro v u5 ⟨rfl,hn5⟩
   refine ⟨_,rfl,hn5,jP (λhw=>?_) (λhw=>?_)⟩
   ·exact bad (nZ (.inr (.inr (by rw [hgd];exact hw)))) _ (hn04.new hn5)
   ·rw [w64 (by omega) (by omega)]
    refine ⟨j.reads.length - (i+1),by omega,i+1,_,rfl,by omega,rfl,(hnx.new hn34).new hn5,λk hk=>?_⟩
    rcases Nat.lt_succ_iff_lt_or_eq.1 hk with hk | rfl
    ·exact hok k hk
    ·unfold tT;rw [hgd,ha,htt,hw];rfl
 ·rw [qB]
  rw [if_neg (by
   rw [Bool.not_eq_false,List.all_eq_true]
   intro k hk
   exact hok k (by have:=List.mem_range.1 hk;omega))] at hR
  exact hR _ hn0x
set_option maxHeartbeats 1000000 in
theorem D7 {w:World} {r:aM} {j:CJob} (h:tU w r j):Does 106 [r.val] w λx w'=>x=.int .i64 j.valid∧New w w':=by
 refine does Tryz.func106 ?_
 rw [vk]
 rintro b1 w1 hb1 hw1
 obtain ⟨hz,hn⟩:=aO hb1 hw1
 have hz:Blk w1 b1 r.cells 34:=hz
 clear hw1
 have hlen:=h.len
 have hfew:=h.few
 have hcl:=h.client
 have hsq:=h.seq
 have hli:=h.lines
 have hpl:=h.pg.len
 obtain ⟨MM,hview⟩:=h.view
 unfold CJob.valid
 refine ⟨_,hz.cell (i:=0) rfl,aI (λhp=>?_) (λhp=>⟨_,hz.cell (i:=0) rfl,aI (λhp1=>?_) (λhp1=>?_)⟩)⟩
 ·rw [if_pos (by omega)];exact ⟨rfl,hn⟩
 ·rw [if_pos (by omega)];exact ⟨rfl,hn⟩
 rw [if_neg (by omega)]
 refine aQ.mk_ex r.View ⟨aK hz rfl,?_⟩
 refine aG (DY (hview.new hn) 5) ?_
 rintro x w2 ⟨rfl,hn2⟩
 have hz2:=New.blk hn2 hz
 have hn12:=hn.new hn2
 refine ⟨_,rfl,bY (λhv=>?_) (λhv=>?_)⟩
 ·rw [if_pos hv];exact ⟨rfl,hn12⟩
 rw [if_neg (by omega)]
 refine ⟨_,hz2.cell (i:=2) rfl,aI (λhp2=>?_) (λhp2=>⟨_,hz2.cell (i:=2) rfl,aI (λhp3=>?_) (λhp3=>⟨_,_,_,hz2.cell (i:=6) rfl,aI (λhp4=>?_) (λhp4=>⟨_,_,_,hz2.cell (i:=5) rfl,aI (λhp5=>?_) (λhp5=>⟨_,_,_,hz2.cell (i:=5) rfl,?_⟩)⟩)⟩)⟩)⟩
 ·rw [if_pos (by omega)];exact ⟨rfl,hn12⟩
 ·rw [if_pos (by omega)];exact ⟨rfl,hn12⟩
 ·rw [if_neg (by omega)]
  rintro w3 hw3
  have hn3:New w2 w3:=by rw [hw3];exact aW _
  clear hw3
  have hz3:=New.blk hn3 hz2
  refine ⟨λy=>New w3 y,Keep.refl _ _,aM.mk_ex r ⟨λy hy=>aK (New.blk hy hz3) rfl,_,λy hy=>(New.blk hy hz3).cell (i:=2) rfl,?_⟩⟩
  refine aG (Ab w3 r) ?_
  rintro x w4 ⟨rfl,hn4⟩
  refine aT.mk_ex ⟨r.Seq,r.Writes,r.Writes_l,r.Writes_c⟩ ⟨rfl,hn4,?_⟩
  refine aG (xh (r:=⟨r.Seq,r.Writes,r.Writes_l,r.Writes_c⟩) (h.pg.new (hn12.new (hn3.new hn4))) r.Lines) ?_
  rintro x u ⟨rfl,hn5⟩
  have hnu:=hn12.new (hn3.new (hn4.new hn5))
  have hzu:=New.blk (hn4.new hn5) hz3
  rw [←hsq,←hli]
  refine ⟨_,rfl,hn4.new hn5,bY (λhr=>?_) (λhr=>⟨_,_,_,hzu.cell (i:=5) rfl,aI (λhp5=>?_) (λhp5=>⟨_,_,_,hzu.cell (i:=5) rfl,?_⟩)⟩)⟩
  ·rw [if_pos ⟨by omega,hr⟩]
   exact ⟨rfl,hnu⟩
  ·rw [if_neg (λe=>e.2 hr),if_pos (by omega)]
   exact ⟨rfl,hnu⟩
  ·rw [if_neg (λe=>e.2 hr),if_neg (by omega),hli]
   exact E3 h hzu hnu _ λw' hw=>⟨rfl,hw⟩
 ·rw [if_neg (by omega),if_neg (by omega),if_pos (by omega)];exact ⟨rfl,hn12⟩
 ·rw [if_neg (by omega),if_neg (by omega),if_neg (by omega)]
  exact E3 h hz2 hn12 _ λw' hw=>⟨rfl,hw⟩
end Go.Proofs.YtegepanmkjemjaaGreat
namespace Go.Proofs.YtegepanmkjemjaaGreat
open Go.Proofs.Tryz
open Go.Eng IntKind
variable (w:World) (R:Value→World→Prop)
def iw (s3:Option Addr) (a b:Nat) (c:Option Addr) (d f:Nat) (g h:Int) (j:LV):LV:=[jg j 0,jg j 1,jg j 2,(.slice s3 a b),jg j 3,jg j 4,jg j 5,jg j 6,jg j 7,jg j 8,jg j 9,jg j 10,jg j 11,jg j 12,jg j 13,jg j 14,jg j 15,jg j 16,(.slice c d f),(.int .i64 g),(.int .i64 h),jg j 17,jg j 18,jg j 19,jg j 20,jg j 21,jg j 22,jg j 23,jg j 24,jg j 25,jg j 26,jg j 27,jg j 28,jg j 29,jg j 30,jg j 31,jg j 32,jg j 33,jg j 34,jg j 35,jg j 36,jg j 37]
def oY (s3:Option Addr) (a b:Nat) (j:LV):LV:=jq j 0 3 (.slice s3 a b::jq j 3 38 [])
theorem q7 (p0:aT):fnW prog f181 [p0.val] R w=(∀ b1 w1,b1=w.heap.size→w1=w.alloc (.cells p0.cells.toArray 252)→aT.ex λr=>aF w1 ⟨b1,0,none⟩ 0 r.cells∧Calls prog 142 #[r.val,.int .i64 256] w1 λe w2=>∃ a,e=.returned (.int .i64 a)∧(bif ((a:Int) != 0) then (R (.slice none 0 0) w2) else (∃ b,w2.cell? ⟨b1,0,none⟩=some (.int .i64 b)∧∃ c d f,w2.cell? ⟨b1,1,none⟩=some (.slice c d f)∧∀ b2 w3,b2=w2.heap.size→w3=w2.alloc (.cells #[.int .u64 (u64.wrap b),.int .u64 (u64.wrap (d:Nat))] 43)→∃ g h i,w3.cell? ⟨b1,1,none⟩=some (.slice g h i)∧bX prog (.loop (sub (aB f181) [1,1,1,0,1,0,0])) (iw (some ⟨b2,0,none⟩) 2 2 g h i (h:Nat) 0 (p0.val::jp ⟨b1,0,none⟩::jz::uq 2 (r.val::ji a::jb ((a:Int) != 0)::jp ⟨b1,0,none⟩::ji b::ju (u64.wrap b)::jp ⟨b1,1,none⟩::js c d f::jn d::ju (u64.wrap (d:Nat))::js (some ⟨b2,0,none⟩) 2 2::jp ⟨b1,1,none⟩::uq 21 []))) (aJ 0 (nx f181 [1,1,1,1] R)) w3))):=by kernel_rfl
theorem pk (s3:Option Addr) (a b:Nat) (c:Option Addr) (d f:Nat) (g h:Int) (j:LV) (N1:LV→World→Prop):W prog (sub (aB f181) [1,1,1,0,1,0,0]) (iw s3 a b c d f g h j) (seqQ N1 (aJ 0 (nx f181 [1,1,1,1] R))) w=((bif (decide ((h:Int)<g)) then (idxS c d h 9 λad=>aD.ex λr=>aF w ad 0 r.cells∧∀ b1 w1,b1=w.heap.size→w1=w.alloc (.cells #[.int .i64 0,.int .u64 0,.int .u64 0,.int .u64 0,.int .u64 0,.int .u64 0,.int .u64 0,.int .u64 0,.int .u64 0] 55)→wrAt w1 ⟨b1,0,none⟩ 0 r.cells∧∀ w2,w2=puts w1 ⟨b1,0,none⟩ 0 r.cells→∃ i,w2.cell? ⟨b1,0,none⟩=some (.int .i64 i)∧∃ k,w2.cell? ⟨b1,1,none⟩=some (.int .u64 k)∧∀ b2 w3,b2=w2.heap.size→w3=w2.alloc (.cells #[.int .u64 (u64.wrap i),.int .u64 k] 43)→∃ ap l m,∃ w4,(Builtin.append_ #[104,104] 104 #[.slice s3 a b,.slice (some ⟨b2,0,none⟩) 2 2]).run prog w3=.ok (.slice ap l m) w4∧∃ n o p,∃ w5,(Builtin.append_ #[104,104] 104 #[.slice ap l m,.slice (some ⟨b1,2,none⟩) 7 7]).run prog w4=.ok (.slice n o p) w5∧N1 (iw n o p c d f g (i64.wrap (h+1)) (jq j 0 4 (jp ⟨b1,0,none⟩::jq j 5 12 (jb (decide ((h:Int)<g))::jp ad::r.val::js s3 a b::jp ⟨b1,0,none⟩::ji i::ju (u64.wrap i)::jp ⟨b1,1,none⟩::ju k::js (some ⟨b2,0,none⟩) 2 2::js ap l m::js ap l m::jp ⟨b1,2,none⟩::js (some ⟨b1,2,none⟩) 7 7::js n o p::ji (i64.wrap (h+1))::jq j 33 5 [])))) w5) else (W prog (sub (aB f181) [1,1,1,1]) (oY s3 a b (jq j 0 17 (js c d f::ji g::ji h::jb (decide ((h:Int)<g))::jq j 18 20 []))) (retQ prog f181 R) w))):=by kernel_rfl
theorem rz (s3:Option Addr) (a b:Nat) (j:LV):W prog (sub (aB f181) [1,1,1,1]) (oY s3 a b j) (retQ prog f181 R) w=(Calls prog 200 #[.slice s3 a b] w λe w1=>∃ c,e=.returned (.int .u64 c)∧∀ b1 w2,b1=w1.heap.size→w2=w1.alloc (.cells #[.int .u64 c] 43)→∃ ap d f,∃ w3,(Builtin.append_ #[104,104] 104 #[.slice s3 a b,.slice (some ⟨b1,0,none⟩) 1 1]).run prog w2=.ok (.slice ap d f) w3∧R (.slice ap d f) w3):=by kernel_rfl
theorem uh (p0:aD) (p1:Int):fnW prog f182 [p0.val,.int .i64 p1] R w=(∀ b1 w1,b1=w.heap.size→w1=w.alloc (.cells p0.cells.toArray 55)→∃ a,w1.cell? ⟨b1,1,none⟩=some (.int .u64 a)∧Calls prog 201 #[.int .u64 a,.int .i64 p1] w1 λe w2=>∃ b c,e=.returned (.tuple #[.int .u64 b,.int .i64 c])∧R (.tuple #[.int .u64 b,.int .i64 c]) w2):=by kernel_rfl
theorem tG (p0:aD):fnW prog f205 [p0.val] R w=(∀ b1 w1,b1=w.heap.size→w1=w.alloc (.cells p0.cells.toArray 55)→∃ a,w1.cell? ⟨b1,1,none⟩=some (.int .u64 a)∧Calls prog 177 #[.int .u64 a] w1 λe w2=>∃ b c,e=.returned (.tuple #[.int .u64 b,.int .i64 c])∧(bif ((c:Int) != 0) then (R (.tuple #[.slice none 0 0,.int .i64 c]) w2) else (∀ b2 w3,b2=w2.heap.size→w3=w2.alloc (.cells #[.int .u64 b] 43)→∃ ap d f,∃ w4,(Builtin.append_ #[104,104] 104 #[.slice (some ⟨b2,0,none⟩) 1 1,.slice (some ⟨b1,2,none⟩) 7 7]).run prog w3=.ok (.slice ap d f) w4∧R (.tuple #[.slice ap d f,.int .i64 0]) w4))):=by kernel_rfl
end Go.Proofs.YtegepanmkjemjaaGreat
