import Derived.Test.YtegepanmkjemjaaGreatp19
import Derived.Test.YtegepanmkjemjaaGreatp26
set_option linter.unusedVariables false
namespace Go.Proofs.YtegepanmkjemjaaGreat
open Go.Eng
theorem yB (w:World) {l:Int} (h1:96≤l) (h2:l<256):Does 41 [.int .i64 l] w λv w'=>v=.int .i64 (l * 8)∧w'=w:=by
 refine does Tryz.func41 ?_
 rw [mw]
 refine cX (by simp;omega) (cX (by simp;omega) ⟨?_,rfl⟩)
 rw [w64 (by omega) (by omega)]
def aP.page (n:aP) (l:Nat):aF:=⟨l,n.get (l * 8),n.get (l * 8+1),n.get (l * 8+2),n.get (l * 8+3),n.get (l * 8+4),n.get (l * 8+5),n.get (l * 8+6),n.get (l * 8+7)⟩
theorem yC {n:aP} {at_ c q:Nat} (hq:q<c) (hl:at_+c≤n.words.length):(n.read at_ c)[q]?=some (n.get (at_+q)):=by
 unfold aP.read
 have hs:n.words[at_+q]?=some (n.get (at_+q)):=aP.get_some (by omega)
 rw [Int.toNat_natCast,Int.toNat_natCast,List.getElem?_take_of_lt hq,List.getElem?_drop,hs]
theorem yD {n:aP} {l i:Nat} (hi:i<7):((n.page l).cells.take (2+i)++List.replicate (7 - i) (Value.int .u64 0)).set (2+i) (Value.int .u64 (n.get (l * 8+(1+i))))=(n.page l).cells.take (2+(i+1))++List.replicate (7 - (i+1)) (Value.int .u64 0):=by
 have h:i=0∨i=1∨i=2∨i=3∨i=4∨i=5∨i=6:=by omega
 rcases h with rfl | rfl | rfl | rfl | rfl | rfl | rfl<;>rfl
set_option maxRecDepth 20000 in
set_option maxHeartbeats 2000000 in
theorem qT {A:Nat→Prop} {χ:Nat→Tag} {w:World} {fb:Nat} {X:FabX} (h:aV A χ w fb X) {i:Nat} {x:io} (hx:X.nodes[i]?=some x) {l:Nat} (hl:96≤l∧l<256) (hw:l * 8+8≤x.n.words.length) (hd:x.n.down=false) :
  Does 18 [ptr fb,.int .i64 i,.int .i64 l] w λv w'=>v=.tuple #[(x.n.page l).val,.bool true]∧New w w':=by
 refine does Tryz.func18 ?_
 rw [ptr,oL]
 rintro b1 w1 hb1 hw1
 obtain ⟨hz1,hn1⟩:=aM hb1 hw1
 have hz1:Blk w1 b1 (aF.cells ⟨0,0,0,0,0,0,0,0,0⟩) TPg:=hz1
 clear hw1
 have h1:=h.new hn1
 refine aE (lM h1 hx) ?_
 rintro v u1 ⟨rfl,rfl⟩
 refine ⟨_,rfl,cX rfl ?_⟩
 refine aE (yB _ (l:=(l:Int)) (by omega) (by omega)) ?_
 rintro v u2 ⟨rfl,rfl⟩
 refine ⟨_,rfl,?_⟩
 have hchk:x.n.chk ((l:Int) * 8) 8=0:=by
  unfold aP.chk
  rw [if_neg (by omega),if_neg (by simp [hd])]
 refine aE (t6 (h1.node i x hx).node ((l:Int) * 8) 8) ?_
 rintro v u3 (⟨hc,_⟩ | ⟨_,a,cap,rfl,hn3,ho,ha⟩)
 ·exact absurd hchk hc
 have hg:∀ q,q<8→(x.n.read ((l:Int) * 8) 8)[q]?=some (x.n.get (l * 8+q)):=λq hq=>by
  have:=yC (n:=x.n) (at_:=l * 8) (c:=8) hq (by omega)
  simpa using this
 have hlen:(x.n.read ((l:Int) * 8) 8).length=8:=aP.read_len hchk
 have hrd:=ho.rd
 obtain ⟨ba,oa,rfl⟩:∃ b o,a=⟨b,o,none⟩:=by
  rcases hrd with hr | ⟨b,o,he,_⟩
  ·have:=congrArg List.length hr
   simp [us,hlen] at this
  ·simp at he
   exact ⟨b,o,he⟩
 have hrc:∀ z,New u3 z→∀ q,q<8→z.cell? ⟨ba,oa+q,none⟩=some (.int .u64 (x.n.get (l * 8+q))):=λz hz q hq=>by
  rcases hrd.new hz with hr | ⟨b,o,he,hcell⟩
  ·have:=congrArg List.length hr
   simp [us,hlen] at this
  ·simp at he
   obtain ⟨rfl,rfl⟩:=he
   exact hcell q _ (by simp [us,hg q hq])
 have hs1:=hn1.size
 have hs3:=hn3.size
 have hl1:=hz1.lt
 refine ⟨_,_,_,_,rfl,cX rfl (cX rfl ?_)⟩
 refine aX (by omega) (by decide) ⟨_,by simpa using hrc u3 (Keep.refl _ _) 0 (by omega),?_⟩
 refine fN (vs:=aF.cells ⟨l,x.n.get (l * 8),0,0,0,0,0,0,0⟩) rfl (aF.single _) λb2 u4 hb2 hz2 hn4=>?_
 refine aR mix (λq env z=>∃ (i:Nat) (jj:List Value),q=7 - i∧i≤7∧env=er ⟨b1,0,none⟩ (some ⟨ba,oa,none⟩) 8 cap ⟨b2,0,none⟩ i jj∧New u3 z∧Blk z b2 ((x.n.page l).cells.take (2+i)++List.replicate (7 - i) (.int .u64 0)) TPg) 7
  ⟨0,_,rfl,by omega,rfl,hn4,hz2⟩ ?_
 rintro q env z ⟨i,jj,rfl,hi,rfl,hnz,hbz⟩
 rw [jT]
 refine aH (λhlt=>?_) (λhge=>?_)
 ·have hlt':i<7:=by omega
  rw [w64 (x:=1+(i:Int)) (by omega) (by omega)]
  refine aX (by omega) (by omega) ⟨x.n.get (l * 8+(1+i)),?_,?_⟩
  ·have:=hrc z hnz (1+i) (by omega)
   simpa [show (1+(i:Int)).toNat=1+i by omega] using this
  refine jM (by omega) (by omega) ?_
  have e:0+2+(i:Int).toNat * 1=2+i:=by omega
  rw [e]
  refine kX hbz (by rw [List.length_append,List.length_take,List.length_replicate,aF.len];omega) λz2 hbz2 hk2=>?_
  rw [w64 (x:=(i:Int)+1) (by omega) (by omega)]
  rw [yD hlt'] at hbz2
  exact ⟨7 - (i+1),by omega,i+1,_,rfl,by omega,rfl,hnz.trans hk2 λk hk e=>by have e2:k=b2:=e;omega,hbz2⟩
 ·have hi7:i=7:=by omega
  subst hi7
  rw [ld]
  have hbz:Blk z b2 (x.n.page l).cells TPg:=hbz
  have hz1z:Blk z b1 (aF.cells ⟨0,0,0,0,0,0,0,0,0⟩) TPg:=New.blk (hn3.new hnz) hz1
  refine aF.mk_ex (x.n.page l) ⟨aJ hbz rfl,?_⟩
  refine eZ hz1z rfl (aF.single _) λz2 hb12 hk2=>?_
  refine aF.mk_ex (x.n.page l) ⟨aJ hb12 rfl,rfl,rfl,?_⟩
  exact ((hn1.new hn3).new hnz).trans hk2 λk hk e=>by omega
end Go.Proofs.YtegepanmkjemjaaGreat
