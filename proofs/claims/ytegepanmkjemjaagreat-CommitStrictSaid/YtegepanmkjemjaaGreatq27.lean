import Derived.Test.YtegepanmkjemjaaGreatq19
import Derived.Test.YtegepanmkjemjaaGreatq26
import Derived.Test.YtegepanmkjemjaaGreatProg
import Derived.Test.YtegepanmkjemjaaGreatq03
set_option linter.unusedVariables false
namespace Go.Proofs.YtegepanmkjemjaaGreat
open Go.Eng
theorem zE (w:World) {l:Int} (h1:96≤l) (h2:l<256):Does 41 [.int .i64 l] w λv w'=>v=.int .i64 (l * 8)∧w'=w:=by
 refine does Tryz.func41 ?_
 rw [m6]
 refine dE (by simp;omega) (dE (by simp;omega) ⟨?_,rfl⟩)
 rw [w64 (by omega) (by omega)]
def aP.page (n:aP) (l:Nat):aG:=⟨l,n.get (l * 8),n.get (l * 8+1),n.get (l * 8+2),n.get (l * 8+3),n.get (l * 8+4),n.get (l * 8+5),n.get (l * 8+6),n.get (l * 8+7)⟩
theorem zF {n:aP} {at_ c q:Nat} (hq:q<c) (hl:at_+c≤n.words.length):(n.read at_ c)[q]?=some (n.get (at_+q)):=by
 unfold aP.read
 have hs:n.words[at_+q]?=some (n.get (at_+q)):=aP.get_some (by omega)
 rw [Int.toNat_natCast,Int.toNat_natCast,List.getElem?_take_of_lt hq,List.getElem?_drop,hs]
theorem zG {n:aP} {l i:Nat} (hi:i<7):((n.page l).cells.take (2+i)++List.replicate (7 - i) (Value.int .u64 0)).set (2+i) (Value.int .u64 (n.get (l * 8+(1+i))))=(n.page l).cells.take (2+(i+1))++List.replicate (7 - (i+1)) (Value.int .u64 0):=by
 have h:i=0∨i=1∨i=2∨i=3∨i=4∨i=5∨i=6:=by omega
 rcases h with rfl | rfl | rfl | rfl | rfl | rfl | rfl<;>rfl
set_option maxRecDepth 20000 in
set_option maxHeartbeats 2000000 in
theorem tH {A:Nat→Prop} {χ:Nat→Tag} {w:World} {fb:Nat} {X:FabX} (h:aW A χ w fb X) {i:Nat} {x:iX} (hx:X.nodes[i]?=some x) {l:Nat} (hl:96≤l∧l<256) (hw:l * 8+8≤x.n.words.length) (hd:x.n.down=false) :
  Does 18 [ptr fb,.int .i64 i,.int .i64 l] w λv w'=>v=.tuple #[(x.n.page l).val,.bool true]∧New w w':=by
 refine does Tryz.func18 ?_
 rw [ptr,pC]
 rintro b1 w1 hb1 hw1
 obtain ⟨hz1,hn1⟩:=aM hb1 hw1
 have hz1:Blk w1 b1 (aG.cells ⟨0,0,0,0,0,0,0,0,0⟩) TPg:=hz1
 clear hw1
 have h1:=h.new hn1
 refine aE (ms h1 hx) ?_
 rintro v u1 ⟨rfl,rfl⟩
 refine ⟨_,rfl,dE rfl ?_⟩
 refine aE (zE _ (l:=(l:Int)) (by omega) (by omega)) ?_
 rintro v u2 ⟨rfl,rfl⟩
 refine ⟨_,rfl,?_⟩
 have hchk:x.n.chk ((l:Int) * 8) 8=0:=by
  unfold aP.chk
  rw [if_neg (by omega),if_neg (by simp [hd])]
 refine aE (vp (h1.node i x hx).node ((l:Int) * 8) 8) ?_
 rintro v u3 (⟨hc,_⟩ | ⟨_,a,cap,rfl,hn3,ho,ha⟩)
 ·exact absurd hchk hc
 have hg:∀ q,q<8→(x.n.read ((l:Int) * 8) 8)[q]?=some (x.n.get (l * 8+q)):=λq hq=>by
  have:=zF (n:=x.n) (at_:=l * 8) (c:=8) hq (by omega)
  simpa using this
 have hlen:(x.n.read ((l:Int) * 8) 8).length=8:=aP.read_len hchk
 have hrd:=ho.rd
 obtain ⟨ba,oa,rfl⟩:∃ b o,a=⟨b,o,none⟩:=by
  rcases hrd with hr | ⟨b,o,he,_⟩
  ·have:=congrArg List.length hr
   simp [us,hlen] at this
  ·simp at he
   exact ⟨b,o,he⟩
 have hrc:∀ z,New u3 z→∀ q,q<8→z.cell? ⟨ba,oa+q,none⟩=some (.int .u64 (x.n.get (l * 8+q))):=λz hz q hq=>by
  rcases hrd.new hz with hr | ⟨b,o,he,hcell⟩
  ·have:=congrArg List.length hr
   simp [us,hlen] at this
  ·simp at he
   obtain ⟨rfl,rfl⟩:=he
   exact hcell q _ (by simp [us,hg q hq])
 have hs1:=hn1.size
 have hs3:=hn3.size
 have hl1:=hz1.lt
 refine ⟨_,_,_,_,rfl,dE rfl (dE rfl ?_)⟩
 refine aZ (by omega) (by decide) ⟨_,by simpa using hrc u3 (Keep.refl _ _) 0 (by omega),?_⟩
 refine gF (vs:=aG.cells ⟨l,x.n.get (l * 8),0,0,0,0,0,0,0⟩) rfl (aG.single _) λb2 u4 hb2 hz2 hn4=>?_
 refine aQ mix (λq env z=>∃ (i:Nat) (jj:List Value),q=7 - i∧i≤7∧env=eH ⟨b1,0,none⟩ (some ⟨ba,oa,none⟩) 8 cap ⟨b2,0,none⟩ i jj∧New u3 z∧Blk z b2 ((x.n.page l).cells.take (2+i)++List.replicate (7 - i) (.int .u64 0)) TPg) 7
  ⟨0,_,rfl,by omega,rfl,hn4,hz2⟩ ?_
 rintro q env z ⟨i,jj,rfl,hi,rfl,hnz,hbz⟩
 rw [ky]
 refine aH (λhlt=>?_) (λhge=>?_)
 ·have hlt':i<7:=by omega
  rw [w64 (x:=1+(i:Int)) (by omega) (by omega)]
  refine aZ (by omega) (by omega) ⟨x.n.get (l * 8+(1+i)),?_,?_⟩
  ·have:=hrc z hnz (1+i) (by omega)
   simpa [show (1+(i:Int)).toNat=1+i by omega] using this
  refine jK (by omega) (by omega) ?_
  have e:0+2+(i:Int).toNat * 1=2+i:=by omega
  rw [e]
  refine lY hbz (by rw [List.length_append,List.length_take,List.length_replicate,aG.len];omega) λz2 hbz2 hk2=>?_
  rw [w64 (x:=(i:Int)+1) (by omega) (by omega)]
  rw [zG hlt'] at hbz2
  exact ⟨7 - (i+1),by omega,i+1,_,rfl,by omega,rfl,hnz.trans hk2 λk hk e=>by have e2:k=b2:=e;omega,hbz2⟩
 ·have hi7:i=7:=by omega
  subst hi7
  rw [lP]
  have hbz:Blk z b2 (x.n.page l).cells TPg:=hbz
  have hz1z:Blk z b1 (aG.cells ⟨0,0,0,0,0,0,0,0,0⟩) TPg:=New.blk (hn3.new hnz) hz1
  refine aG.mk_ex (x.n.page l) ⟨aJ hbz rfl,?_⟩
  refine fN hz1z rfl (aG.single _) λz2 hb12 hk2=>?_
  refine aG.mk_ex (x.n.page l) ⟨aJ hb12 rfl,rfl,rfl,?_⟩
  exact ((hn1.new hn3).new hnz).trans hk2 λk hk e=>by omega
end Go.Proofs.YtegepanmkjemjaaGreat
namespace Go.Proofs.YtegepanmkjemjaaGreat
open Go.Proofs.Tryz
open Go.Eng IntKind
variable (w:World) (R:Value→World→Prop)
theorem m7 (p0 p1:Int):fnW prog f12 [(.int .i64 p0),(.int .i64 p1)] R w=(Calls prog 32 #[(.int .i64 p1)] w λe w1=>∃ a,e=.returned (.int .i64 a)∧Calls prog 31 #[(.int .i64 p0),(.int .i64 6),(.int .i64 a)] w1 λe w2=>∃ b c,e=.returned (.tuple #[(.pointer b),(.bool c)])∧Calls prog 32 #[(.int .i64 p1)] w2 λe w3=>∃ d,e=.returned (.int .i64 d)∧Calls prog 33 #[(.int .i64 p0)] w3 λe w4=>aN.ex λf=>e=.returned f.val∧∀ b1 w5,b1=w4.heap.size→w5=w4.alloc (.cells #[(.pointer b),(.int .i64 d),(.int .i64 f.Number),(.slice f.Members f.Members_l f.Members_c)] 40)→R (.tuple #[(.pointer (some ⟨b1,0,none⟩)),(.bool c)]) w5):=by kernel_rfl
theorem m8  : fnW prog f13 [] R w=(Calls prog 31 #[.int .i64 1,.int .i64 1,.int .i64 98] w λe w1=>∃ (a:Option Addr) (b:Bool),e=.returned (.tuple #[.pointer a,.bool b])∧(bif (!b) then (R (.bool false) w1) else (Calls prog 33 #[.int .i64 1] w1 λe w2=>aN.ex λm=>e=.returned m.val∧∀ b1 w3,b1=w2.heap.size→w3=w2.alloc (.cells #[.int .i64 96,.int .u64 256,.int .u64 7,.int .u64 0,.int .u64 0,.int .u64 0,.int .u64 0,.int .u64 0,.int .u64 0] 55)→Calls prog 15 #[.pointer a,.agg #[.int .i64 3,.int .i64 0,.int .i64 0,.int .i64 0,.int .i64 0,.int .i64 0,.int .i64 0,.int .u64 0,.int .i64 0,.int .i64 1,.int .i64 98,.int .i64 m.Number,.slice m.Members m.Members_l m.Members_c,.slice none 0 0,.slice (some ⟨b1,0,none⟩) 1 1,.slice none 0 0,.bool false,.bool false,.int .i64 0,.int .i64 0,.slice none 0 0,.int .i64 0,.slice none 0 0,.int .u64 0,.int .i64 0]] w3 λe w4=>aB.ex λn=>e=.returned n.val∧∀ b2 w5,b2=w4.heap.size→w5=w4.alloc (.cells #[.int .i64 0,.int .i64 0,.int .i64 0,.int .i64 0,.int .i64 0,.int .i64 0,.int .i64 0,.int .u64 0,.int .i64 0,.int .i64 0,.int .i64 0,.int .i64 0,.slice none 0 0,.slice none 0 0,.slice none 0 0,.slice none 0 0,.bool false,.bool false,.int .i64 0,.int .i64 0,.slice none 0 0,.int .i64 0,.slice none 0 0,.int .u64 0,.int .i64 0] 49)→wrAt w5 ⟨b2,0,none⟩ 0 n.cells∧∀ w6,w6=puts w5 ⟨b2,0,none⟩ 0 n.cells→Calls prog 18 #[.pointer a,.int .i64 0,.int .i64 96] w6 λe w7=>aG.ex λo=>∃ (c:Bool),e=.returned (.tuple #[o.val,.bool c])∧∀ b3 w8,b3=w7.heap.size→w8=w7.alloc (.cells #[.int .i64 0,.int .u64 0,.int .u64 0,.int .u64 0,.int .u64 0,.int .u64 0,.int .u64 0,.int .u64 0,.int .u64 0] 55)→wrAt w8 ⟨b3,0,none⟩ 0 o.cells∧∀ w9,w9=puts w8 ⟨b3,0,none⟩ 0 o.cells→∃ d,w9.cell? ⟨b2,16,none⟩=some (.bool d)∧(bif d then (∃ f,w9.cell? ⟨b2,17,none⟩=some (.bool f)∧(bif (!f) then (∃ g,w9.cell? ⟨b2,18,none⟩=some (.int .i64 g)∧(bif ((g:Int) == 0) then (∃ h,w9.cell? ⟨b2,24,none⟩=some (.int .i64 h)∧(bif ((h:Int) == 3) then ((bif c then (∃ i,w9.cell? ⟨b3,1,none⟩=some (.int .u64 i)∧(bif ((i:Int) == 512) then (idxA ⟨b3,2,none⟩ 7 0 1 λad=>∃ x,w9.cell? ad=some (.int .u64 x)∧(bif ((x:Int) == 7) then (Calls prog 16 #[.pointer a,.int .i64 0] w9 λe p=>∃ (k:Int),e=.returned (.int .i64 k)∧(bif ((k:Int) == 4) then (Calls prog 34 #[.pointer a,.int .i64 0] p λe q=>∃ (l:Int),e=.returned (.int .i64 l)∧R (.bool ((l:Int) == 5)) q) else (R (.bool false) p))) else (R (.bool false) w9))) else (R (.bool false) w9))) else (R (.bool false) w9))) else (R (.bool false) w9))) else (R (.bool false) w9))) else (R (.bool false) w9))) else (R (.bool false) w9))))):=by kernel_rfl
def bZ (s0:Addr) (s1:Int) (s3:Option Addr) (a b:Nat) (s8 c:Addr) (d:Int) (j:LV):LV:=.pointer (some s0)::.int .i64 s1::jq j 0 1 (.slice s3 a b::jq j 1 4 (.pointer (some s8)::jq j 5 1 (.pointer (some c)::.int .i64 d::jq j 6 58 [])))
def fQ (s1:Int) (a b:Addr) (j:LV):LV:=jq j 0 1 (.int .i64 s1::jq j 1 6 (.pointer (some a)::jq j 7 1 (.pointer (some b)::jq j 8 59 [])))
theorem lx (p0:Nat) (p1 p2:Int) (p3:Option Addr) (a b:Nat):fnW prog f21 [.pointer (some ⟨p0,0,none⟩),.int .i64 p1,.int .i64 p2,.slice p3 a b] R w=(∀ b1 w1,b1=w.heap.size→w1=w.alloc (.cells #[.int .i64 0,.int .i64 0,.int .i64 0,.int .i64 0,.int .i64 0,.int .i64 0,.int .i64 0,.int .u64 0,.int .i64 0,.int .i64 0,.int .i64 0,.int .i64 0,.slice none 0 0,.slice none 0 0,.slice none 0 0,.slice none 0 0,.bool false,.bool false,.int .i64 0,.int .i64 0,.slice none 0 0,.int .i64 0,.slice none 0 0,.int .u64 0,.int .i64 0] 49)→∀ w2,w2=w1.drew→∃ Sx:World→Prop,Sx w2∧∃ c,(∀ u,Sx u→u.cell? ⟨p0,1,none⟩=some (.int .i64 c))∧aN.ex λd=>(∀ u,Sx u→aD u ⟨p0,2,none⟩ 0 d.cells)∧∀ b2 w3,b2=w2.heap.size→w3=w2.alloc (.cells #[.int .i64 0,.int .i64 0,.int .i64 0,.int .i64 0,.slice none 0 0,.slice none 0 0,.slice none 0 0] 34)→Sx w3∧wrAt w3 ⟨b2,0,none⟩ 0 [.int .i64 p1,.int .i64 p2,.int .i64 c,.int .i64 d.Number,.slice d.Members d.Members_l d.Members_c,.slice none 0 0,.slice none 0 0]∧∀ w4,w4=puts w3 ⟨b2,0,none⟩ 0 [.int .i64 p1,.int .i64 p2,.int .i64 c,.int .i64 d.Number,.slice d.Members d.Members_l d.Members_c,.slice none 0 0,.slice none 0 0]→cA prog (.loop (sub (aF f21) [1,1,0,1,0,0])) (bZ ⟨p0,0,none⟩ p1 p3 a b ⟨b1,0,none⟩ ⟨b2,0,none⟩ 0 (ji p2::uq 4 (jb false::uq 2 (ji p1::ji p2::jp ⟨p0,0,none⟩::jp ⟨p0,0,none⟩::jp ⟨p0,1,none⟩::ji c::jp ⟨p0,0,none⟩::jp ⟨p0,0,none⟩::jp ⟨p0,2,none⟩::d.val::.agg #[.int .i64 p1,.int .i64 p2,.int .i64 c,.int .i64 d.Number,.slice d.Members d.Members_l d.Members_c,.slice none 0 0,.slice none 0 0]::uq 45 [])))) (aI 0 (nx f21 [1,1,1] R)) w4):=by kernel_rfl
set_option maxHeartbeats 4000000 in
theorem iy (s0:Addr) (s1:Int) (s3:Option Addr) (a b:Nat) (s8 c:Addr) (d:Int) (j:LV) (N1:LV→World→Prop):W prog (sub (aF f21) [1,1,0,1,0,0]) (bZ s0 s1 s3 a b s8 c d j) (seqQ N1 (aI 0 (nx f21 [1,1,1] R))) w=((bif (decide ((d:Int)<(a:Nat))) then (∀ w1,w1=w.drew→∃ Sx:World→Prop,Sx w1∧∃ (f:Option Addr),(∀ u,Sx u→u.cell? s0=some (.pointer f))∧idxS s3 a d 1 λad=>∃ x,(∀ u,Sx u→u.cell? ad=some (.int .i64 x))∧(Calls prog 18 #[.pointer f,.int .i64 0,.int .i64 x] w1 λe w2=>aG.ex λaa=>∃ (g:Bool),e=.returned (.tuple #[aa.val,.bool g])∧Sx w2∧∀ b1 w3,b1=w2.heap.size→w3=w2.alloc (.cells #[.int .i64 0,.int .u64 0,.int .u64 0,.int .u64 0,.int .u64 0,.int .u64 0,.int .u64 0,.int .u64 0,.int .u64 0] 55)→Sx w3∧wrAt w3 ⟨b1,0,none⟩ 0 aa.cells∧∀ w4,w4=puts w3 ⟨b1,0,none⟩ 0 aa.cells→(bif (!g) then (wrAt w4 s8 0 [.int .i64 0,.int .i64 0,.int .i64 0,.int .i64 0,.int .i64 0,.int .i64 0,.int .i64 0,.int .u64 0,.int .i64 0,.int .i64 0,.int .i64 0,.int .i64 0,.slice none 0 0,.slice none 0 0,.slice none 0 0,.slice none 0 0,.bool false,.bool false,.int .i64 0,.int .i64 0,.slice none 0 0,.int .i64 0,.slice none 0 0,.int .u64 0,.int .i64 0]∧∀ w5,w5=puts w4 s8 0 [.int .i64 0,.int .i64 0,.int .i64 0,.int .i64 0,.int .i64 0,.int .i64 0,.int .i64 0,.int .u64 0,.int .i64 0,.int .i64 0,.int .i64 0,.int .i64 0,.slice none 0 0,.slice none 0 0,.slice none 0 0,.slice none 0 0,.bool false,.bool false,.int .i64 0,.int .i64 0,.slice none 0 0,.int .i64 0,.slice none 0 0,.int .u64 0,.int .i64 0]→aB.ex λab=>aD w5 s8 0 ab.cells∧w5=w5∧R (.tuple #[ab.val,.bool false]) w5) else (∃ h,w4.cell? ⟨b1,1,none⟩=some (.int .u64 h)∧(∃ u,w4.cell? ⟨b1,1,none⟩=some u)∧w4.frozen? ⟨b1,1,none⟩=false∧∀ w6,w6=w4.setCell ⟨b1,1,none⟩ (.int .u64 (wZ .u64 h 255))→idxA ⟨b1,2,none⟩ 7 0 1 λac=>∃ x1,w6.cell? ac=some (.int .u64 x1)∧idxA ⟨b1,2,none⟩ 7 0 1 λae=>(∃ u,w6.cell? ae=some u)∧w6.frozen? ae=false∧∀ w7,w7=w6.setCell ae (.int .u64 (u64.wrap (x1+1)))→idxA ⟨b1,2,none⟩ 7 1 1 λaf=>(∃ u,w7.cell? af=some u)∧w7.frozen? af=false∧∀ w8,w8=w7.setCell af (.int .u64 (u64.wrap (i64.wrap (s1+1))))→∃ i k l,w8.cell? ⟨c.block,c.off+6,none⟩=some (.slice i k l)∧aG.ex λr=>aD w8 ⟨b1,0,none⟩ 0 r.cells∧∀ b2 w9,b2=w8.heap.size→w9=w8.alloc (.cells r.cells.toArray 55)→∃ (ap:Option Addr) (m n:Nat),∃ ag,(Builtin.append_ #[32,32] 32 #[.slice i k l,.slice (some ⟨b2,0,none⟩) 1 1]).run prog w9=.ok (.slice ap m n) ag∧(∃ u,ag.cell? ⟨c.block,c.off+6,none⟩=some u)∧ag.frozen? ⟨c.block,c.off+6,none⟩=false∧∀ ah,ah=ag.setCell ⟨c.block,c.off+6,none⟩ (.slice ap m n)→N1 (bZ s0 s1 s3 a b s8 c (i64.wrap (d+1)) (jq j 0 6 (jp ⟨b1,0,none⟩::jb g::jq j 8 11 [ji d,js s3 a b,jn a,jb (decide ((d:Int)<(a:Nat))),ji d,ji (i64.wrap (d+1)),.tuple #[aa.val,.bool g],jp s0,jp s0,jp s0,.pointer f,js s3 a b,ji d,jp ad,ji x,.tuple #[aa.val,.bool g],aa.val,jb g,jb g,jb (!g),jg j 39,jp ⟨b1,1,none⟩,ju h,ju (wZ .u64 h 255),jp ⟨b1,1,none⟩,jp ⟨b1,2,none⟩,jp ac,ju x1,ju (u64.wrap (x1+1)),jp ⟨b1,2,none⟩,jp ae,ji s1,ji (i64.wrap (s1+1)),ju (u64.wrap (i64.wrap (s1+1))),jp ⟨b1,2,none⟩,jp af,jf c 6,js i k l,r.val,js (some ⟨b2,0,none⟩) 1 1,js ap m n,jf c 6,jg j 61,jg j 62,jg j 63]))) ah)))∧(∀ b3 ai,b3=w1.heap.size→ai=w1.alloc (.cells #[.int .i64 0,.int .u64 0,.int .u64 0,.int .u64 0,.int .u64 0,.int .u64 0,.int .u64 0,.int .u64 0,.int .u64 0] 55)→Sx ai∧Calls prog 18 #[.pointer f,.int .i64 0,.int .i64 x] ai λe aj=>aG.ex λak=>∃ (o:Bool),e=.returned (.tuple #[ak.val,.bool o])∧wrAt aj ⟨b3,0,none⟩ 0 ak.cells∧∀ al,al=puts aj ⟨b3,0,none⟩ 0 ak.cells→(bif (!o) then (wrAt al s8 0 [.int .i64 0,.int .i64 0,.int .i64 0,.int .i64 0,.int .i64 0,.int .i64 0,.int .i64 0,.int .u64 0,.int .i64 0,.int .i64 0,.int .i64 0,.int .i64 0,.slice none 0 0,.slice none 0 0,.slice none 0 0,.slice none 0 0,.bool false,.bool false,.int .i64 0,.int .i64 0,.slice none 0 0,.int .i64 0,.slice none 0 0,.int .u64 0,.int .i64 0]∧∀ am,am=puts al s8 0 [.int .i64 0,.int .i64 0,.int .i64 0,.int .i64 0,.int .i64 0,.int .i64 0,.int .i64 0,.int .u64 0,.int .i64 0,.int .i64 0,.int .i64 0,.int .i64 0,.slice none 0 0,.slice none 0 0,.slice none 0 0,.slice none 0 0,.bool false,.bool false,.int .i64 0,.int .i64 0,.slice none 0 0,.int .i64 0,.slice none 0 0,.int .u64 0,.int .i64 0]→aB.ex λan=>aD am s8 0 an.cells∧am=am∧R (.tuple #[an.val,.bool false]) am) else (∃ p,al.cell? ⟨b3,1,none⟩=some (.int .u64 p)∧(∃ u,al.cell? ⟨b3,1,none⟩=some u)∧al.frozen? ⟨b3,1,none⟩=false∧∀ ao,ao=al.setCell ⟨b3,1,none⟩ (.int .u64 (wZ .u64 p 255))→idxA ⟨b3,2,none⟩ 7 0 1 λaq=>∃ x2,ao.cell? aq=some (.int .u64 x2)∧idxA ⟨b3,2,none⟩ 7 0 1 λar=>(∃ u,ao.cell? ar=some u)∧ao.frozen? ar=false∧∀ au,au=ao.setCell ar (.int .u64 (u64.wrap (x2+1)))→idxA ⟨b3,2,none⟩ 7 1 1 λav=>(∃ u,au.cell? av=some u)∧au.frozen? av=false∧∀ aw,aw=au.setCell av (.int .u64 (u64.wrap (i64.wrap (s1+1))))→∃ q s t,aw.cell? ⟨c.block,c.off+6,none⟩=some (.slice q s t)∧aG.ex λr1=>aD aw ⟨b3,0,none⟩ 0 r1.cells∧∀ b4 ax,b4=aw.heap.size→ax=aw.alloc (.cells r1.cells.toArray 55)→∃ (v:Option Addr) (y z:Nat),∃ ay,(Builtin.append_ #[32,32] 32 #[.slice q s t,.slice (some ⟨b4,0,none⟩) 1 1]).run prog ax=.ok (.slice v y z) ay∧(∃ u,ay.cell? ⟨c.block,c.off+6,none⟩=some u)∧ay.frozen? ⟨c.block,c.off+6,none⟩=false∧∀ az,az=ay.setCell ⟨c.block,c.off+6,none⟩ (.slice v y z)→N1 (bZ s0 s1 s3 a b s8 c (i64.wrap (d+1)) (jq j 0 6 (jp ⟨b3,0,none⟩::jb o::jq j 8 11 [ji d,js s3 a b,jn a,jb (decide ((d:Int)<(a:Nat))),ji d,ji (i64.wrap (d+1)),.tuple #[ak.val,.bool o],jp s0,jp s0,jp s0,.pointer f,js s3 a b,ji d,jp ad,ji x,.tuple #[ak.val,.bool o],ak.val,jb o,jb o,jb (!o),jg j 39,jp ⟨b3,1,none⟩,ju p,ju (wZ .u64 p 255),jp ⟨b3,1,none⟩,jp ⟨b3,2,none⟩,jp aq,ju x2,ju (u64.wrap (x2+1)),jp ⟨b3,2,none⟩,jp ar,ji s1,ji (i64.wrap (s1+1)),ju (u64.wrap (i64.wrap (s1+1))),jp ⟨b3,2,none⟩,jp av,jf c 6,js q s t,r1.val,js (some ⟨b4,0,none⟩) 1 1,js v y z,jf c 6,jg j 61,jg j 62,jg j 63]))) az)))) else (W prog (sub (aF f21) [1,1,1]) (fQ s1 s8 c (jp s0::jg j 0::js s3 a b::jq j 1 5 (ji d::jq j 6 13 (ji d::js s3 a b::jn a::jb (decide ((d:Int)<(a:Nat)))::jq j 23 41 [])))) (retQ prog f21 R) w))):=by kernel_rfl
theorem jx (s1:Int) (a b:Addr) (j:LV):W prog (sub (aF f21) [1,1,1]) (fQ s1 a b j) (retQ prog f21 R) w=(aL.ex λr=>aD w b 0 r.cells∧wrAt w a 0 [.int .i64 3,.int .i64 s1,.int .i64 0,.int .i64 0,.int .i64 0,.int .i64 0,.int .i64 0,.int .u64 0,.int .i64 r.Client,.int .i64 r.Seq,.int .i64 r.Lines,.int .i64 r.View.Number,.slice r.View.Members r.View.Members_l r.View.Members_c,.slice r.Reads r.Reads_l r.Reads_c,.slice r.Writes r.Writes_l r.Writes_c,.slice none 0 0,.bool false,.bool false,.int .i64 0,.int .i64 0,.slice none 0 0,.int .i64 0,.slice none 0 0,.int .u64 0,.int .i64 0]∧∀ w1,w1=puts w a 0 [.int .i64 3,.int .i64 s1,.int .i64 0,.int .i64 0,.int .i64 0,.int .i64 0,.int .i64 0,.int .u64 0,.int .i64 r.Client,.int .i64 r.Seq,.int .i64 r.Lines,.int .i64 r.View.Number,.slice r.View.Members r.View.Members_l r.View.Members_c,.slice r.Reads r.Reads_l r.Reads_c,.slice r.Writes r.Writes_l r.Writes_c,.slice none 0 0,.bool false,.bool false,.int .i64 0,.int .i64 0,.slice none 0 0,.int .i64 0,.slice none 0 0,.int .u64 0,.int .i64 0]→aB.ex λc=>aD w1 a 0 c.cells∧w1=w1∧R (.tuple #[c.val,.bool true]) w1):=by kernel_rfl
def cK (s0:Int) (s3:Option Addr) (a b:Nat) (s4:Int) (j:LV):LV:=.int .i64 s0::jq j 0 2 (.slice s3 a b::.int .i64 s4::jq j 2 18 [])
def gO (s3:Option Addr) (a b:Nat) (j:LV):LV:=jq j 0 3 (.slice s3 a b::jq j 3 19 [])
theorem mF (p0:Int):fnW prog f22 [.int .i64 p0] R w=(cA prog (.loop (sub (aF f22) [1,1,0,1,0,0])) (cK p0 none 0 0 0 (undef::jz::uq 18 [])) (aI 0 (nx f22 [1,1,1] R)) w):=by kernel_rfl
theorem ja (s0:Int) (s3:Option Addr) (a b:Nat) (s4:Int) (j:LV) (N1:LV→World→Prop):W prog (sub (aF f22) [1,1,0,1,0,0]) (cK s0 s3 a b s4 j) (seqQ N1 (aI 0 (nx f22 [1,1,1] R))) w=((bif (decide ((s4:Int)<4)) then (Calls prog 11 #[.int .i64 s0,.int .i64 14] w λe w1=>∃ (c:Int),e=.returned (.int .i64 c)∧0≤(u64.wrap s4)∧(bif (((band .i64 (bshr .i64 (i64.wrap (c+1)) (u64.wrap s4)) 1):Int) == 1) then (∀ b1 w2,b1=w1.heap.size→w2=w1.alloc (.cells #[.int .i64 (i64.wrap (96+s4))] 3)→∃ (ap:Option Addr) (d f:Nat),∃ w3,(Builtin.append_ #[22,22] 22 #[.slice s3 a b,.slice (some ⟨b1,0,none⟩) 1 1]).run prog w2=.ok (.slice ap d f) w3∧N1 (cK s0 ap d f (i64.wrap (s4+1)) [jg j 0,jg j 1,ji s4,jb (decide ((s4:Int)<4)),ji s4,ji (i64.wrap (s4+1)),ji s0,ji c,ji (i64.wrap (c+1)),ji s4,ju (u64.wrap s4),ji (bshr .i64 (i64.wrap (c+1)) (u64.wrap s4)),ji (band .i64 (bshr .i64 (i64.wrap (c+1)) (u64.wrap s4)) 1),jb (((band .i64 (bshr .i64 (i64.wrap (c+1)) (u64.wrap s4)) 1):Int) == 1),js s3 a b,ji s4,ji (i64.wrap (96+s4)),js (some ⟨b1,0,none⟩) 1 1,js ap d f,jg j 19]) w3) else (N1 (cK s0 s3 a b (i64.wrap (s4+1)) (jg j 0::jg j 1::ji s4::jb (decide ((s4:Int)<4))::ji s4::ji (i64.wrap (s4+1))::ji s0::ji c::ji (i64.wrap (c+1))::ji s4::ju (u64.wrap s4)::ji (bshr .i64 (i64.wrap (c+1)) (u64.wrap s4))::ji (band .i64 (bshr .i64 (i64.wrap (c+1)) (u64.wrap s4)) 1)::jb (((band .i64 (bshr .i64 (i64.wrap (c+1)) (u64.wrap s4)) 1):Int) == 1)::jq j 14 6 [])) w1))) else (W prog (sub (aF f22) [1,1,1]) (gO s3 a b (ji s0::jg j 0::jg j 1::ji s4::ji s4::jb (decide ((s4:Int)<4))::jq j 4 16 [])) (retQ prog f22 R) w))):=by kernel_rfl
theorem ka (s3:Option Addr) (a b:Nat) (j:LV):W prog (sub (aF f22) [1,1,1]) (gO s3 a b j) (retQ prog f22 R) w=(R (.slice s3 a b) w):=by kernel_rfl
theorem ly (p0:Nat) (p1:Int):fnW prog f34 [.pointer (some ⟨p0,0,none⟩),.int .i64 p1] R w=(Calls prog 38 #[.pointer (some ⟨p0,0,none⟩),.int .i64 p1] w λe w1=>∃ a,e=.returned (.pointer a)∧(bif (!(Option.isNone a)) then (nilP a λc=>∃ b,w1.cell? ⟨c.block,c.off+6,none⟩=some (.int .i64 b)∧R (.int .i64 b) w1) else (R (.int .i64 0) w1))):=by kernel_rfl
theorem m9 (p0:Int):fnW prog f42 [.int .i64 p0] R w=((bif (decide ((p0:Int)≥0)) then (R (.bool (decide ((p0:Int)<6))) w) else (R (.bool false) w))):=by kernel_rfl
end Go.Proofs.YtegepanmkjemjaaGreat
namespace Go.Proofs.YtegepanmkjemjaaGreat
open Go.Eng
end Go.Proofs.YtegepanmkjemjaaGreat
namespace Go.Proofs.YtegepanmkjemjaaGreat
open Go.Eng
def vB (l:List aY):List (List Value):=l.map aY.cells
def noS:aY:=⟨0,0⟩
def ascS (R:List aY) (i:Nat):Bool:=decide (i=0) || decide ((R.getD (i - 1) noS).Line<(R.getD i noS).Line)
def has (W:List aG) (line:Int):Bool:=W.any λp=>decide (p.Line=line)
def pS (R:List aY) (W:List aG) (i:Nat):Bool:=(ascS R i && unl (R.getD i noS).Head) && !has W (R.getD i noS).Line
structure CJob where
 client:Int
 seq:Int
 lines:Int
 v:Vw
 reads:List aY
 writes:List aG
def CJob.valid (j:CJob):Int:=
 if j.client<0∨6≤j.client then 1 else if j.v.valid 5≠0 then j.v.valid 5 else if j.lines<98∨256<j.lines then 18
 else if 0<j.writes.length∧jW j.seq j.writes j.lines≠0 then jW j.seq j.writes j.lines else if 24<j.reads.length then 18
 else if j.reads.all (λs=>jV s.Line j.lines)=false then 2 else if (List.range j.reads.length).all (pS j.reads j.writes)=false then 1 else 0
structure pT (w:World) (r:aL) (j:CJob):Prop where
 client:r.Client=j.client
 seq:r.Seq=j.seq
 lines:r.Lines=j.lines
 view:∃ M,ViewAt M w r.View j.v
 rd:Rd w r.Reads (vB j.reads).flatten
 len:r.Reads_l=j.reads.length
 few:j.reads.length≤1000000
 pg:qW w r.Writes r.Writes_l j.writes
theorem pT.new {w w':World} {r:aL} {j:CJob} (h:pT w r j) (hn:New w w'):pT w' r j:=⟨h.client,h.seq,h.lines,h.view.imp λ_ h=>h.new hn,h.rd.new hn,h.len,h.few,h.pg.new hn⟩
theorem vC (w:World) (r:aL):Does 143 [r.val] w λx w'=>x=aR.val ⟨r.Seq,r.Writes,r.Writes_l,r.Writes_c⟩∧New w w':=by
 refine does Tryz.func143 ?_
 rw [m4]
 rintro b1 w1 hb1 hw1
 obtain ⟨hz1,hn1⟩:=aM hb1 hw1
 have hz1:Blk w1 b1 r.cells 34:=hz1
 clear hw1
 rintro b2 w2 hb2 hw2
 obtain ⟨hz2,hn2⟩:=aM hb2 hw2
 have hz2:Blk w2 b2 (aR.cells ⟨0,none,0,0⟩) 252:=hz2
 clear hw2
 have hz12:=New.blk hn2 hz1
 have hs:=hn1.size
 refine ⟨_,hz12.cell (i:=1) rfl,_,_,_,hz12.cell (i:=6) rfl,?_⟩
 refine fN (vs:=aR.cells ⟨r.Seq,r.Writes,r.Writes_l,r.Writes_c⟩) hz2 rfl (aR.single _) λw3 hz3 hk3=>?_
 refine aR.mk_ex ⟨r.Seq,r.Writes,r.Writes_l,r.Writes_c⟩ ⟨aJ hz3 rfl,rfl,rfl,?_⟩
 exact (hn1.new hn2).trans hk3 λk hlt e=>by omega
theorem tI {w:World} {r:aL} {W:List aG} (h:qW w r.Writes r.Writes_l W) (line:Int):Does 146 [r.val,.int .i64 line] w λx w'=>x=.bool (has W line)∧New w w':=by
 refine does Tryz.func146 ?_
 rw [m5]
 rintro b1 w1 hb1 hw1
 obtain ⟨hz1,hn1⟩:=aM hb1 hw1
 have hz1:Blk w1 b1 r.cells 34:=hz1
 clear hw1
 have hlen:=h.len
 have hfew:=h.few
 refine ⟨_,_,_,hz1.cell (i:=6) rfl,?_⟩
 refine aQ mix (λm env u=>∃ (i:Nat) (jj:List Value),m=W.length - i∧i≤W.length∧env=dQ line r.Writes r.Writes_l r.Writes_c r.Writes_l i jj∧New w u∧has (W.take i) line=false) W.length
  ⟨0,_,by omega,by omega,rfl,hn1,rfl⟩ ?_
 rintro m env u ⟨i,jj,rfl,hi,rfl,hnu,hno⟩
 rw [jw]
 refine aH (λhq=>?_) (λhq=>?_)
 ·have hlt:i<W.length:=by omega
  have hg:W[i]?=some W[i]:=List.getElem?_eq_getElem hlt
  refine eS (cells:=aG.cells) aG.len (by omega) (h.rd.new hnu) hg rfl hlen λb o hc _=>aG.mk_ex W[i] ⟨hc,?_⟩
  refine gF (vs:=W[i].cells) rfl (aG.single _) λb3 u2 hb3 hz3 hn3=>?_
  refine ⟨_,hz3.cell (i:=0) rfl,bI (λhe=>⟨?_,hnu.new hn3⟩) (λhe=>?_)⟩
  ·have:has W line=true:=List.any_eq_true.2 ⟨W[i],List.getElem_mem hlt,by simpa using he⟩
   rw [this]
  ·rw [w64 (by omega) (by omega)]
   refine ⟨W.length - (i+1),by omega,i+1,_,rfl,by omega,rfl,hnu.new hn3,?_⟩
   unfold has
   rw [List.take_add_one,hg,List.any_append]
   have:=hno
   unfold has at this
   rw [this]
   simpa using he
 ·rw [kx]
  have ht:W.take i=W:=List.take_of_length_le (by omega)
  rw [ht] at hno
  exact ⟨by rw [hno],hnu⟩
end Go.Proofs.YtegepanmkjemjaaGreat
