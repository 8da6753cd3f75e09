import Derived.Test.YtgpmeaicjonenaaGreata17
import Derived.Test.YtgpmeaicjonenaaGreatProg
import Derived.Test.YtgpmeaicjonenaaGreata03
import Derived.Test.YtgpmeaicjonenaaGreata02
set_option linter.unusedVariables false
namespace Go.Proofs.YtgpmeaicjonenaaGreat
open Go.Proofs.Tryz
open Go.Eng
def CJob.tail (j:CJob):Int:=if j.reads.all (λs=>fR s.Line j.lines)=false then 2 else if (List.range j.reads.length).all (nt j.reads j.writes)=false then 1 else 0
theorem lV {R:List aV} {W:List aG} {i:Nat} (h:ascS R i=false∨unl (R.getD i noS).Head=false∨has W (R.getD i noS).Line=true):nt R W i=false:=by
 unfold nt
 rcases h with h | h | h
 ·rw [h];rfl
 ·rw [h,Bool.and_false];rfl
 ·rw [h];simp
set_option maxHeartbeats 1000000 in
theorem C5 {w u:World} {r:aL} {j:CJob} {b1:Nat} (h:qT w r j) (hz:Blk u b1 r.cells 39) (hn:New w u) (jj:List Value) {R:Value→World→Prop} (hR:∀ w',New w w'→R (.int .i64 j.tail) w') :
  cQ prog (.loop (sub (aD f134) [1,1,1,1,1,1,0,1,0,0])) (ed ⟨b1,0,none⟩ r.Reads r.Reads_l r.Reads_c r.Reads_l 0 jj) (aK 0 (seqQ (λenv w=>W prog (sub (aD f134) [1,1,1,1,1,1,1]) env (retQ prog f134 R) w) (retQ prog f134 R))) u:=by
 have hlen:=h.len
 have hfew:=h.few
 have hli:=h.lines
 unfold CJob.tail at hR
 refine aT mix (λm env z=>∃ (i:Nat) (jj:List Value),m=j.reads.length - i∧i≤j.reads.length∧env=ed ⟨b1,0,none⟩ r.Reads r.Reads_l r.Reads_c r.Reads_l i jj∧New u z∧(j.reads.take i).all (λs=>fR s.Line j.lines)=true) j.reads.length
  ⟨0,_,by omega,by omega,rfl,Keep.refl _ _,rfl⟩ ?_
 rintro m env z ⟨i,jj,rfl,hi,rfl,hnz,hok⟩
 have hn0z:=hn.new hnz
 rw [md]
 refine aH (λhq=>?_) (λhq=>?_)
 ·have hlt:i<j.reads.length:=by omega
  have hg:j.reads[i]?=some j.reads[i]:=List.getElem?_eq_getElem hlt
  refine ez (cells:=aV.cells) aV.len (by omega) (h.rd.new hn0z) hg rfl hlen λb o hc _=>aV.mk_ex j.reads[i] ⟨hc,?_⟩
  refine gF (vs:=j.reads[i].cells) rfl (aV.single _) λb3 u2 hb3 hz3 hn3=>?_
  refine ⟨_,hz3.cell (i:=0) rfl,_,(New.blk (hnz.new hn3) hz).cell (i:=2) rfl,?_⟩
  refine aF (xB _ _ _) ?_
  rintro x w3 ⟨rfl,rfl⟩
  refine ⟨_,rfl,dG (λhf=>?_) (λht=>?_)⟩
  ·rw [if_pos (by
    rw [List.all_eq_false]
    exact ⟨_,List.getElem_mem hlt,by rw [←hli,hf];simp⟩)] at hR
   exact hR _ (hn0z.new hn3)
  ·rw [w64 (by omega) (by omega)]
   refine ⟨j.reads.length - (i+1),by omega,i+1,_,rfl,by omega,rfl,hnz.new hn3,?_⟩
   rw [List.take_add_one,hg,List.all_append,hok]
   simp [←hli,ht]
 have ht:j.reads.take i=j.reads:=List.take_of_length_le (by omega)
 rw [ht] at hok
 rw [if_neg (by rw [hok];simp)] at hR
 rw [n6]
 clear hok hi hq ht
 have hzz:=New.blk hnz hz
 refine ⟨_,_,_,hzz.cell (i:=5) rfl,?_⟩
 refine aT mix (λm env x=>∃ (i:Nat) (jj:List Value),m=j.reads.length - i∧i≤j.reads.length∧env=eS ⟨b1,0,none⟩ r.Reads r.Reads_l r.Reads_c r.Reads_l i jj∧New z x∧∀ k,k<i→nt j.reads j.writes k=true) j.reads.length
  ⟨0,_,by omega,by omega,rfl,Keep.refl _ _,λk hk=>by omega⟩ ?_
 rintro m env x ⟨i,jj,rfl,hi,rfl,hnx,hok⟩
 have hn0x:=hn0z.new hnx
 rw [me]
 refine aH (λhq=>?_) (λhq=>?_)
 ·have hlt:i<j.reads.length:=by omega
  have hg:j.reads[i]?=some j.reads[i]:=List.getElem?_eq_getElem hlt
  have hgd:=li (d:=noS) hg
  have bad:nt j.reads j.writes i=false→∀ w',New w w'→R (.int .i64 1) w':=λe w' hw=>by
   rw [if_pos (jN hlt e)] at hR
   exact hR w' hw
  refine ez (cells:=aV.cells) aV.len (by omega) (h.rd.new hn0x) hg rfl hlen λb o hc _=>aV.mk_ex j.reads[i] ⟨hc,?_⟩
  refine gF (vs:=j.reads[i].cells) rfl (aV.single _) λb3 u2 hb3 hz3 hn3=>?_
  rintro u3 hu3
  have hn4:New u2 u3:=by rw [hu3];exact aU _
  clear hu3
  have hn34:=hn3.new hn4
  have hz4:=New.blk hn4 hz3
  have hzx:=New.blk (hnx.new hn34) hzz
  have hn04:=hn0x.new hn34
  refine ⟨λy=>New u3 y,Keep.refl _ _,aH (λh0=>⟨_,λy hy=>(New.blk hy hz4).cell (i:=0) rfl,_,_,_,λy hy=>(New.blk hy hzx).cell (i:=5) rfl,?_⟩) (λh0=>⟨_,λy hy=>(New.blk hy hz4).cell (i:=1) rfl,?_⟩)⟩
  ·have hg1:j.reads[i - 1]?=some j.reads[i - 1]:=List.getElem?_eq_getElem (by omega)
   have hgd1:=li (d:=noS) hg1
   refine wD (cells:=aV.cells) aV.len (by omega) (h.rd.new hn04) hg1 (by rw [w64 (by omega) (by omega)];omega) hlen λb' o' hc'=>⟨_,λy hy=>hc' y hy 0 _ rfl,aH (λhp6=>?_) (λhp6=>⟨_,λy hy=>(New.blk hy hz4).cell (i:=1) rfl,?_⟩)⟩
   ·exact bad (lV (.inl (by unfold ascS;rw [hgd,hgd1];simp;omega))) _ hn04
   have ha:ascS j.reads i=true:=by unfold ascS;rw [hgd,hgd1];simp;omega
   refine aF (Ad u3 j.reads[i].Head) ?_
   rintro v u4 ⟨rfl,rfl⟩
   refine ⟨_,rfl,Keep.refl _ _,dG (λhf=>?_) (λhtt=>aL.mk_ex r ⟨λy hy=>aI (New.blk hy hzx) rfl,_,λy hy=>(New.blk hy hz4).cell (i:=0) rfl,?_⟩)⟩
   ·exact bad (lV (.inr (.inl (by rw [hgd];exact hf)))) _ hn04
   refine aF (vD (h.pg.new hn04) j.reads[i].Line) ?_
   rintro v u5 ⟨rfl,hn5⟩
   refine ⟨_,rfl,hn5,uX (λhw=>?_) (λhw=>?_)⟩
   ·exact bad (lV (.inr (.inr (by rw [hgd];exact hw)))) _ (hn04.new hn5)
   ·rw [w64 (by omega) (by omega)]
    refine ⟨j.reads.length - (i+1),by omega,i+1,_,rfl,by omega,rfl,(hnx.new hn34).new hn5,λk hk=>?_⟩
    rcases Nat.lt_succ_iff_lt_or_eq.1 hk with hk | rfl
    ·exact hok k hk
    ·unfold nt;rw [hgd,ha,htt,hw];rfl
  ·have ha:ascS j.reads i=true:=by unfold ascS;simp;omega
   refine aF (Ad u3 j.reads[i].Head) ?_
   rintro v u4 ⟨rfl,rfl⟩
   refine ⟨_,rfl,Keep.refl _ _,dG (λhf=>?_) (λhtt=>aL.mk_ex r ⟨λy hy=>aI (New.blk hy hzx) rfl,_,λy hy=>(New.blk hy hz4).cell (i:=0) rfl,?_⟩)⟩
   ·exact bad (lV (.inr (.inl (by rw [hgd];exact hf)))) _ hn04
   refine aF (vD (h.pg.new hn04) j.reads[i].Line) ?_
   rintro v u5 ⟨rfl,hn5⟩
   refine ⟨_,rfl,hn5,uX (λhw=>?_) (λhw=>?_)⟩
   ·exact bad (lV (.inr (.inr (by rw [hgd];exact hw)))) _ (hn04.new hn5)
   ·rw [w64 (by omega) (by omega)]
    refine ⟨j.reads.length - (i+1),by omega,i+1,_,rfl,by omega,rfl,(hnx.new hn34).new hn5,λk hk=>?_⟩
    rcases Nat.lt_succ_iff_lt_or_eq.1 hk with hk | rfl
    ·exact hok k hk
    ·unfold nt;rw [hgd,ha,htt,hw];rfl
 ·rw [n7]
  rw [if_neg (by
   rw [Bool.not_eq_false,List.all_eq_true]
   intro k hk
   exact hok k (by have:=List.mem_range.1 hk;omega))] at hR
  exact hR _ hn0x
set_option maxHeartbeats 1000000 in
theorem BX {w:World} {r:aL} {j:CJob} (h:qT w r j):Does 134 [r.val] w λx w'=>x=.int .i64 j.valid∧New w w':=by
 refine does Tryz.func134 ?_
 rw [se]
 rintro b1 w1 hb1 hw1
 obtain ⟨hz,hn⟩:=aO hb1 hw1
 have hz:Blk w1 b1 r.cells 39:=hz
 clear hw1
 have hlen:=h.len
 have hfew:=h.few
 have hcl:=h.client
 have hsq:=h.seq
 have hli:=h.lines
 have hpl:=h.pg.len
 obtain ⟨MM,hview⟩:=h.view
 unfold CJob.valid
 refine ⟨_,hz.cell (i:=0) rfl,aH (λhp=>?_) (λhp=>⟨_,hz.cell (i:=0) rfl,aH (λhp1=>?_) (λhp1=>?_)⟩)⟩
 ·rw [if_pos (by omega)];exact ⟨rfl,hn⟩
 ·rw [if_pos (by omega)];exact ⟨rfl,hn⟩
 rw [if_neg (by omega)]
 refine aM.mk_ex r.View ⟨aI hz rfl,?_⟩
 refine aF (xu (hview.new hn) 5) ?_
 rintro x w2 ⟨rfl,hn2⟩
 have hz2:=New.blk hn2 hz
 have hn12:=hn.new hn2
 refine ⟨_,rfl,cU (λhv=>?_) (λhv=>?_)⟩
 ·rw [if_pos hv];exact ⟨rfl,hn12⟩
 rw [if_neg (by omega)]
 refine ⟨_,hz2.cell (i:=2) rfl,aH (λhp2=>?_) (λhp2=>⟨_,hz2.cell (i:=2) rfl,aH (λhp3=>?_) (λhp3=>⟨_,_,_,hz2.cell (i:=6) rfl,aH (λhp4=>?_) (λhp4=>⟨_,_,_,hz2.cell (i:=5) rfl,aH (λhp5=>?_) (λhp5=>⟨_,_,_,hz2.cell (i:=5) rfl,?_⟩)⟩)⟩)⟩)⟩
 ·rw [if_pos (by omega)];exact ⟨rfl,hn12⟩
 ·rw [if_pos (by omega)];exact ⟨rfl,hn12⟩
 ·rw [if_neg (by omega)]
  rintro w3 hw3
  have hn3:New w2 w3:=by rw [hw3];exact aU _
  clear hw3
  have hz3:=New.blk hn3 hz2
  refine ⟨λy=>New w3 y,Keep.refl _ _,aL.mk_ex r ⟨λy hy=>aI (New.blk hy hz3) rfl,_,λy hy=>(New.blk hy hz3).cell (i:=2) rfl,?_⟩⟩
  refine aF (xC w3 r) ?_
  rintro x w4 ⟨rfl,hn4⟩
  refine aS.mk_ex ⟨r.Seq,r.Writes,r.Writes_l,r.Writes_c⟩ ⟨rfl,hn4,?_⟩
  refine aF (um (r:=⟨r.Seq,r.Writes,r.Writes_l,r.Writes_c⟩) (h.pg.new (hn12.new (hn3.new hn4))) r.Lines) ?_
  rintro x u ⟨rfl,hn5⟩
  have hnu:=hn12.new (hn3.new (hn4.new hn5))
  have hzu:=New.blk (hn4.new hn5) hz3
  rw [←hsq,←hli]
  refine ⟨_,rfl,hn4.new hn5,cU (λhr=>?_) (λhr=>⟨_,_,_,hzu.cell (i:=5) rfl,aH (λhp5=>?_) (λhp5=>⟨_,_,_,hzu.cell (i:=5) rfl,?_⟩)⟩)⟩
  ·rw [if_pos ⟨by omega,hr⟩]
   exact ⟨rfl,hnu⟩
  ·rw [if_neg (λe=>e.2 hr),if_pos (by omega)]
   exact ⟨rfl,hnu⟩
  ·rw [if_neg (λe=>e.2 hr),if_neg (by omega),hli]
   exact C5 h hzu hnu _ λw' hw=>⟨rfl,hw⟩
 ·rw [if_neg (by omega),if_neg (by omega),if_pos (by omega)];exact ⟨rfl,hn12⟩
 ·rw [if_neg (by omega),if_neg (by omega),if_neg (by omega)]
  exact C5 h hz2 hn12 _ λw' hw=>⟨rfl,hw⟩
end Go.Proofs.YtgpmeaicjonenaaGreat
namespace Go.Proofs.YtgpmeaicjonenaaGreat
open Go.Proofs.Tryz
open Go.Eng IntKind
variable (w:World) (R:Value→World→Prop)
theorem vE (p0:Option Addr) (a b:Nat):fnW prog f91 [(.slice p0 a b)] R w=(Calls prog 121 #[(.int .u64 0),(.slice p0 a b)] w λe w1=>∃ c,e=.returned (.int .u64 c)∧R (.int .u64 c) w1):=by kernel_rfl
theorem uo (p0:Int) (p1:Option Addr) (a b:Nat):fnW prog f121 [.int .u64 p0,.slice p1 a b] R w=(Calls prog 157 #[] w λe w1=>cA.ex λd=>e=.returned d.val∧∀ b1 w2,b1=w1.heap.size→w2=w1.alloc (.cells (List.replicate 256 (.int .u64 0)).toArray 264)→wrAt w2 ⟨b1,0,none⟩ 0 d.cells∧∀ w3,w3=puts w2 ⟨b1,0,none⟩ 0 d.cells→Calls prog 158 #[.int .u64 (bxor .u64 18446744073709551615 p0),.pointer (some ⟨b1,0,none⟩),.slice p1 a b] w3 λe w4=>∃ c,e=.returned (.int .u64 c)∧R (.int .u64 (bxor .u64 18446744073709551615 c)) w4):=by kernel_rfl
def jE (s0:Addr) (s3:Int) (j:LV):LV:=.pointer (some s0)::jq j 0 2 (.int .i64 s3::jq j 2 20 [])
def oD (a:Addr) (j:LV):LV:=.pointer (some a)::jq j 0 23 []
def gJ (s0:Addr) (s1 s2 s3 s8:Int) (j:LV):LV:=.pointer (some s0)::.int .i64 s1::.int .u64 s2::.int .i64 s3::jq j 0 4 (.int .i64 s8::jq j 4 15 [])
def oE (a:Addr) (s1 s2 s3:Int) (j:LV):LV:=.pointer (some a)::.int .i64 s1::.int .u64 s2::.int .i64 s3::jq j 0 20 []
theorem vF  : fnW prog f157 [] R w=(∀ b1 w1,b1=w.heap.size→w1=w.alloc (.cells (List.replicate 256 (.int .u64 0)).toArray 264)→cQ prog (.loop (sub (aD f157) [1,0,1,0,0])) (jE ⟨b1,0,none⟩ 0 (uq 22 [])) (aK 0 (nx f157 [1,1] R)) w1):=by kernel_rfl
theorem oh (s0:Addr) (s3:Int) (j:LV) (N1:LV→World→Prop):W prog (sub (aD f157) [1,0,1,0,0]) (jE s0 s3 j) (seqQ N1 (aK 0 (nx f157 [1,1] R))) w=((bif (decide ((s3:Int)<256)) then (cQ prog (.loop (sub (aD f157) [1,0,1,0,0,1,1,0,0,1,1,0,1,0,0])) (gJ s0 s3 (u64.wrap s3) s3 0 (jb (decide ((s3:Int)<256))::ji s3::ji s3::ju (u64.wrap s3)::jq j 7 15 [])) (aK 2 (seqQ (λenv w=>W prog (sub (aD f157) [1,0,1,0,0,1,1,0,0,1,1,1]) env (aK 1 (seqQ (λenv w=>W prog (sub (aD f157) [1,0,1,0,0,1,1,1]) env (seqQ N1 (aK 0 (nx f157 [1,1] R))) w) (seqQ N1 (aK 0 (nx f157 [1,1] R))))) w) (aK 1 (seqQ (λenv w=>W prog (sub (aD f157) [1,0,1,0,0,1,1,1]) env (seqQ N1 (aK 0 (nx f157 [1,1] R))) w) (seqQ N1 (aK 0 (nx f157 [1,1] R))))))) w) else (W prog (sub (aD f157) [1,1]) (oD s0 (jg j 0::jg j 1::ji s3::jb (decide ((s3:Int)<256))::jq j 3 19 [])) (retQ prog f157 R) w))):=by kernel_rfl
theorem qx (a:Addr) (j:LV):W prog (sub (aD f157) [1,1]) (oD a j) (retQ prog f157 R) w=(cA.ex λr=>aC w a 0 r.cells∧wrAt w a 0 r.cells∧∀ w1,w1=puts w a 0 r.cells→cA.ex λb=>aC w1 a 0 b.cells∧w1=w1∧R b.val w1):=by kernel_rfl
theorem ol (s0:Addr) (s1 s2 s3 s8:Int) (j:LV) (N1:LV→World→Prop) (N2:LV→World→Prop):W prog (sub (aD f157) [1,0,1,0,0,1,1,0,0,1,1,0,1,0,0]) (gJ s0 s1 s2 s3 s8 j) (seqQ N2 (aK 2 (seqQ (λenv w=>W prog (sub (aD f157) [1,0,1,0,0,1,1,0,0,1,1,1]) env (aK 1 (seqQ (λenv w=>W prog (sub (aD f157) [1,0,1,0,0,1,1,1]) env (seqQ N1 (aK 0 (nx f157 [1,1] R))) w) (seqQ N1 (aK 0 (nx f157 [1,1] R))))) w) (aK 1 (seqQ (λenv w=>W prog (sub (aD f157) [1,0,1,0,0,1,1,1]) env (seqQ N1 (aK 0 (nx f157 [1,1] R))) w) (seqQ N1 (aK 0 (nx f157 [1,1] R)))))))) w=((bif (decide ((s8:Int)<8)) then ((bif (((band .u64 s2 1):Int) == 1) then (N2 (gJ s0 s1 (bxor .u64 (bshr .u64 s2 1) 14514072000185962306) s3 (i64.wrap (s8+1)) (jq j 0 4 (jb (decide ((s8:Int)<8))::ju s2::ju (band .u64 s2 1)::jb (((band .u64 s2 1):Int) == 1)::ju s2::ju (bshr .u64 s2 1)::ju (bxor .u64 (bshr .u64 s2 1) 14514072000185962306)::jg j 11::jg j 12::ji (i64.wrap (s8+1))::jq j 14 5 []))) w) else (N2 (gJ s0 s1 (bshr .u64 s2 1) s3 (i64.wrap (s8+1)) (jq j 0 4 (jb (decide ((s8:Int)<8))::ju s2::ju (band .u64 s2 1)::jb (((band .u64 s2 1):Int) == 1)::jg j 8::jg j 9::jg j 10::ju s2::ju (bshr .u64 s2 1)::ji (i64.wrap (s8+1))::jq j 14 5 []))) w))) else (W prog (sub (aD f157) [1,0,1,0,0,1,1,0,0,1,1,1]) (oE s0 s1 s2 s3 (jq j 0 4 (ji s8::jb (decide ((s8:Int)<8))::jq j 5 14 []))) (aK 1 (seqQ (λenv w=>W prog (sub (aD f157) [1,0,1,0,0,1,1,1]) env (seqQ N1 (aK 0 (nx f157 [1,1] R))) w) (seqQ N1 (aK 0 (nx f157 [1,1] R))))) w))):=by kernel_rfl
theorem qy (a:Addr) (s1 s2 s3:Int) (j:LV) (N1:LV→World→Prop):W prog (sub (aD f157) [1,0,1,0,0,1,1,0,0,1,1,1]) (oE a s1 s2 s3 j) (aK 1 (seqQ (λenv w=>W prog (sub (aD f157) [1,0,1,0,0,1,1,1]) env (seqQ N1 (aK 0 (nx f157 [1,1] R))) w) (seqQ N1 (aK 0 (nx f157 [1,1] R))))) w=(idxA a 256 s1 1 λad=>(∃ u,w.cell? ad=some u)∧w.frozen? ad=false∧∀ w1,w1=w.setCell ad (.int .u64 s2)→N1 (jE a (i64.wrap (s3+1)) (ji s1::ju s2::jq j 0 15 [ji s1,ju s2,jp ad,ji (i64.wrap (s3+1)),jg j 19])) w1):=by kernel_rfl
def kZ (s0:Int) (s1:Addr) (s9:Option Addr) (a b:Nat) (c d:Int) (j:LV):LV:=.int .u64 s0::.pointer (some s1)::jq j 0 7 (.slice s9 a b::.int .i64 c::.int .i64 d::jq j 7 16 [])
def qU (s0:Int) (j:LV):LV:=.int .u64 s0::jq j 0 27 []
theorem yJ (p0:Int) (p1:Nat) (p2:Option Addr) (a b:Nat):fnW prog f158 [.int .u64 p0,.pointer (some ⟨p1,0,none⟩),.slice p2 a b] R w=(cQ prog (.loop (sub (aD f158) [1,0,1,0,0])) (kZ p0 ⟨p1,0,none⟩ p2 a b (a:Nat) 0 (js p2 a b::uq 3 (ju 0::uq 18 []))) (aK 0 (nx f158 [1,1] R)) w):=by kernel_rfl
theorem pP (s0:Int) (s1:Addr) (s9:Option Addr) (a b:Nat) (c d:Int) (j:LV) (N1:LV→World→Prop):W prog (sub (aD f158) [1,0,1,0,0]) (kZ s0 s1 s9 a b c d j) (seqQ N1 (aK 0 (nx f158 [1,1] R))) w=((bif (decide ((d:Int)<c)) then (idxS s9 a d 1 λad=>∃ x,w.cell? ad=some (.int .u8 x)∧idxA s1 256 (bxor .u8 (IntKind.u8.wrap s0) x) 1 λf=>∃ x1,w.cell? f=some (.int .u64 x1)∧N1 (kZ (bxor .u64 (bshr .u64 s0 8) x1) s1 s9 a b c (i64.wrap (d+1)) (jq j 0 6 [.int .u8 x,jb (decide ((d:Int)<c)),jp ad,.int .u8 x,ju s0,ju (bshr .u64 s0 8),jp s1,ju s0,.int .u8 (IntKind.u8.wrap s0),.int .u8 x,.int .u8 (bxor .u8 (IntKind.u8.wrap s0) x),jp s1,jp f,ju x1,ju (bxor .u64 (bshr .u64 s0 8) x1),ji (i64.wrap (d+1)),jg j 22])) w) else (W prog (sub (aD f158) [1,1]) (qU s0 (jp s1::jq j 0 7 (js s9 a b::ji c::ji d::jb (decide ((d:Int)<c))::jq j 8 15 []))) (retQ prog f158 R) w))):=by kernel_rfl
theorem sh (s0:Int) (j:LV):W prog (sub (aD f158) [1,1]) (qU s0 j) (retQ prog f158 R) w=(R (.int .u64 s0) w):=by kernel_rfl
def jF (s3:Option Addr) (a b:Nat) (c:Option Addr) (d f:Nat) (g h:Int) (j:LV):LV:=jq j 0 3 (.slice s3 a b::jq j 3 6 (.slice c d f::.int .i64 g::.int .i64 h::jq j 9 16 []))
def oF (s3:Option Addr) (a b:Nat) (j:LV):LV:=jq j 0 3 (.slice s3 a b::jq j 3 25 [])
def jG (s3:Option Addr) (a b:Nat) (s5:Int) (c:Option Addr) (d f:Nat) (g h i:Int) (j:LV):LV:=jq j 0 3 (.slice s3 a b::jq j 3 1 (.int .u64 s5::jq j 4 4 (.slice c d f::.int .i64 g::.int .i64 h::jq j 8 3 (.int .i64 i::jq j 11 12 []))))
def oG (s3:Option Addr) (a b:Nat) (c:Option Addr) (d f:Nat) (g h:Int) (j:LV):LV:=jq j 0 3 (.slice s3 a b::jq j 3 6 (.slice c d f::.int .i64 g::.int .i64 h::jq j 9 16 []))
theorem vG (p0:Option Addr) (a b:Nat):fnW prog f284 [.slice p0 a b] R w=(mk3 0 (i64.wrap (8 * (a:Nat))) 1 (.cells (reps (Int.toNat (i64.wrap (8 * (a:Nat)))) [.int .u8 0]).toArray 5) w λb1 w1=>cQ prog (.loop (sub (aD f284) [1,1,0,1,0,0])) (jF (some ⟨b1,0,none⟩) (Int.toNat 0) (Int.toNat (i64.wrap (8 * (a:Nat)))) p0 a b (a:Nat) 0 (js p0 a b::undef::ju 0::uq 2 (js p0 a b::jn a::ji (i64.wrap (8 * (a:Nat)))::js (some ⟨b1,0,none⟩) (Int.toNat 0) (Int.toNat (i64.wrap (8 * (a:Nat))))::uq 16 []))) (aK 0 (nx f284 [1,1,1] R)) w1):=by kernel_rfl
theorem om (s3:Option Addr) (a b:Nat) (c:Option Addr) (d f:Nat) (g h:Int) (j:LV) (N1:LV→World→Prop):W prog (sub (aD f284) [1,1,0,1,0,0]) (jF s3 a b c d f g h j) (seqQ N1 (aK 0 (nx f284 [1,1,1] R))) w=((bif (decide ((h:Int)<g)) then (idxS c d h 1 λad=>∃ x,w.cell? ad=some (.int .u64 x)∧cQ prog (.loop (sub (aD f284) [1,1,0,1,0,0,1,1,0,0,1,1,0,0])) (jG s3 a b x c d f g h 0 (jq j 0 4 (jq j 5 4 (jb (decide ((h:Int)<g))::jp ad::ju x::jq j 13 12 [])))) (aK 2 (aK 1 (seqQ (λenv w=>W prog (sub (aD f284) [1,1,0,1,0,0,1,1,1]) env (seqQ N1 (aK 0 (nx f284 [1,1,1] R))) w) (seqQ N1 (aK 0 (nx f284 [1,1,1] R)))))) w) else (W prog (sub (aD f284) [1,1,1]) (oF s3 a b (jq j 0 9 (js c d f::ji g::ji h::jb (decide ((h:Int)<g))::jq j 10 15 []))) (retQ prog f284 R) w))):=by kernel_rfl
theorem qz (s3:Option Addr) (a b:Nat) (j:LV):W prog (sub (aD f284) [1,1,1]) (oF s3 a b j) (retQ prog f284 R) w=(Calls prog 91 #[.slice s3 a b] w λe w1=>∃ c,e=.returned (.int .u64 c)∧R (.int .u64 c) w1):=by kernel_rfl
theorem oq (s3:Option Addr) (a b:Nat) (s5:Int) (c:Option Addr) (d f:Nat) (g h i:Int) (j:LV) (N1:LV→World→Prop) (N2:LV→World→Prop):W prog (sub (aD f284) [1,1,0,1,0,0,1,1,0,0,1,1,0,0]) (jG s3 a b s5 c d f g h i j) (seqQ N2 (aK 2 (aK 1 (seqQ (λenv w=>W prog (sub (aD f284) [1,1,0,1,0,0,1,1,1]) env (seqQ N1 (aK 0 (nx f284 [1,1,1] R))) w) (seqQ N1 (aK 0 (nx f284 [1,1,1] R))))))) w=((bif (decide ((i:Int)<8)) then (∀ b1 w1,b1=w.heap.size→w1=w.alloc (.cells #[.int .u8 (IntKind.u8.wrap s5)] 5)→∃ ap k l,∃ w2,(Builtin.append_ #[77,77] 77 #[.slice s3 a b,.slice (some ⟨b1,0,none⟩) 1 1]).run prog w1=.ok (.slice ap k l) w2∧N2 (jG ap k l (bshr .u64 s5 8) c d f g h (i64.wrap (i+1)) (jq j 0 11 [jb (decide ((i:Int)<8)),js s3 a b,ju s5,.int .u8 (IntKind.u8.wrap s5),js (some ⟨b1,0,none⟩) 1 1,js ap k l,ju s5,ju (bshr .u64 s5 8),ji (i64.wrap (i+1)),jg j 20,jg j 21,jg j 22])) w2) else (W prog (sub (aD f284) [1,1,0,1,0,0,1,1,1]) (oG s3 a b c d f g h (jq j 0 4 (ju s5::jq j 4 7 (ji i::jb (decide ((i:Int)<8))::jq j 12 11 [])))) (seqQ N1 (aK 0 (nx f284 [1,1,1] R))) w))):=by kernel_rfl
theorem qA (s3:Option Addr) (a b:Nat) (c:Option Addr) (d f:Nat) (g h:Int) (j:LV) (N1:LV→World→Prop):W prog (sub (aD f284) [1,1,0,1,0,0,1,1,1]) (oG s3 a b c d f g h j) (seqQ N1 (aK 0 (nx f284 [1,1,1] R))) w=(N1 (jF s3 a b c d f g (i64.wrap (h+1)) (jq j 0 22 [ji (i64.wrap (h+1)),jg j 23,jg j 24])) w):=by kernel_rfl
end Go.Proofs.YtgpmeaicjonenaaGreat
namespace Go.Proofs.YtgpmeaicjonenaaGreat
open Go.Eng
def DF (r:Int):Int:=if band .u64 r 1=1 then bxor .u64 (bshr .u64 r 1) 14514072000185962306 else bshr .u64 r 1
def vH:Nat→Int→Int
 | 0,r=>r
 |n+1,r=>DF (vH n r)
def xD (i:Nat):Int:=vH 8 i
def eh:List Int:=(List.range 256).map xD
def tabL (i:Nat):List Int:=(List.range i).map xD++List.replicate (256 - i) 0
theorem BY {i:Nat} (h:i≤256):(tabL i).length=256:=by simp [tabL];omega
theorem BZ {i:Nat} (h:i<256):(tabL i).set i (xD i)=tabL (i+1):=by
 unfold tabL
 rw [List.range_succ,List.map_append,List.set_append]
 simp only [List.length_map,List.length_range,Nat.lt_irrefl,if_false,Nat.sub_self]
 obtain ⟨m,hm⟩:∃ m,256 - i=m+1:=⟨255 - i,by omega⟩
 have e:256 - (i+1)=m:=by omega
 rw [hm,e,List.replicate_succ,List.set_cons_zero]
 simp
theorem B0:tabL 256=eh:=by simp [tabL,eh]
theorem DG (n:Nat):us (List.replicate n 0)=List.replicate n (.int .u64 0):=by simp [us]
theorem DH (l:List Int) (i:Nat) (x:Int):(us l).set i (.int .u64 x)=us (l.set i x):=by simp [us]
theorem vI (l:List Int):cA.cells ⟨l⟩=us l:=rfl
abbrev TTb:TypeId:=264
set_option maxRecDepth 20000 in
theorem yK (w:World):Does 157 [] w λv w'=>v=cA.val ⟨eh⟩∧New w w':=by
 refine does Tryz.func157 ?_
 rw [vF]
 rintro b1 w1 hb1 hw1
 obtain ⟨hz1,hn1⟩:=aO hb1 hw1
 have hz1:Blk w1 b1 (us (tabL 0)) TTb:=by
  have e:us (tabL 0)=List.replicate 256 (.int .u64 0):=DG 256
  rw [e]
  exact hz1
 clear hw1
 refine aT mix (λm env u=>∃ (i:Nat) (jj:List Value),m=256 - i∧i≤256∧env=jE ⟨b1,0,none⟩ i jj∧New w u∧Blk u b1 (us (tabL i)) TTb) 256 ⟨0,_,rfl,by omega,rfl,hn1,hz1⟩ ?_
 rintro m env u ⟨i,jj,rfl,hi,rfl,hnu,hzu⟩
 rw [oh]
 refine aH (λhlt=>?_) (λhge=>?_)
 ·rw [wu64 (x:=(i:Int)) (by omega) (by omega)]
  refine aT mix (λm2 env2 y=>∃ (k:Nat) (jj:List Value),m2=8 - k∧k≤8∧env2=gJ ⟨b1,0,none⟩ i (vH k i) i k jj∧y=u) 8 ⟨0,_,rfl,by omega,rfl,rfl⟩ ?_
  rintro m2 env2 y ⟨k,jj2,rfl,hk,rfl,rfl⟩
  rw [ol,w64 (x:=(k:Int)+1) (by omega) (by omega)]
  refine aH (λhk8=>?_) (λhk8=>?_)
  ·refine bK (λh1=>?_) (λh1=>?_)
   ·have e:vH (k+1) i=bxor .u64 (bshr .u64 (vH k i) 1) 14514072000185962306:=if_pos h1
    rw [←e]
    exact ⟨8 - (k+1),by omega,k+1,_,rfl,by omega,rfl,rfl⟩
   ·have e:vH (k+1) i=bshr .u64 (vH k i) 1:=if_neg h1
    rw [←e]
    exact ⟨8 - (k+1),by omega,k+1,_,rfl,by omega,rfl,rfl⟩
  ·have hk8:k=8:=by omega
   subst hk8
   rw [qy,w64 (x:=(i:Int)+1) (by omega) (by omega)]
   refine zt (by omega) (by omega) ?_
   have e2:0+(i:Int).toNat * 1=i:=by omega
   rw [e2]
   refine CW hzu (o:=i) (by rw [kV,BY hi];omega) λw2 hz2 hk2=>?_
   rw [DH,show vH 8 (i:Int)=xD i from rfl,BZ (by omega)] at hz2
   have hs:=hn1.size
   exact ⟨256 - (i+1),by omega,i+1,_,rfl,by omega,rfl,hnu.trans hk2 λk hlt e=>by omega,hz2⟩
 ·have hi2:i=256:=by omega
  subst hi2
  rw [qx]
  rw [B0] at hzu
  have hl:eh.length=256:=by simp [eh]
  refine cA.mk_ex ⟨eh⟩ hl ⟨aI hzu (by rw [vI];exact List.take_of_length_le (Nat.le_refl _)),?_⟩
  refine il (vs:=us eh) hzu rfl (kw _) λw2 hz2 hk2=>?_
  exact cA.mk_ex ⟨eh⟩ hl ⟨aI hz2 (by rw [vI];exact List.take_of_length_le (Nat.le_refl _)),rfl,rfl,hnu.trans hk2 λk hlt e=>by have:=hn1.size;omega⟩
def oH (r x:Int):Int:=bxor .u64 (bshr .u64 r 8) (eh.getD (bxor .u8 (IntKind.u8.wrap r) x).toNat 0)
theorem FJ (x:Int):0≤IntKind.u8.wrap x∧IntKind.u8.wrap x<256:=by
 simp only [IntKind.wrap,IntKind.bits,IntKind.signed]
 simp
 omega
def bys (l:List Int):List Value:=l.map (Value.int .u8)
theorem DI {l:List Int} {i:Nat} {x:Int} (h:l[i]?=some x):(bys l)[i]?=some (.int .u8 x):=by simp [bys,h]
theorem yL {f:Int→Int→Int} {l:List Int} {i:Nat} {x r:Int} (h:l[i]?=some x):(l.take (i+1)).foldl f r=f ((l.take i).foldl f r) x:=by
 rw [List.take_add_one,h,List.foldl_append]
 rfl
theorem B1 {w:World} (r:Int) {tb:Nat} (ht:Blk w tb (us eh) TTb) {a:Option Addr} {n c:Nat} {l:List Int} (hr:Rd w a (bys l)) (hn:n=l.length) (hf:n≤1000000) :
  Does 158 [.int .u64 r,.pointer (some ⟨tb,0,none⟩),.slice a n c] w λv w'=>v=.int .u64 (l.foldl oH r)∧w'=w:=by
 subst hn
 refine does Tryz.func158 ?_
 rw [yJ]
 refine aT mix (λm env u=>∃ (i:Nat) (jj:List Value),m=l.length - i∧i≤l.length∧env=kZ ((l.take i).foldl oH r) ⟨tb,0,none⟩ a l.length c l.length i jj∧u=w) l.length ⟨0,_,rfl,by omega,rfl,rfl⟩ ?_
 rintro m env u ⟨i,jj,rfl,hi,rfl,rfl⟩
 rw [pP]
 refine aH (λhlt=>?_) (λhge=>?_)
 ·obtain ⟨x,hx⟩:∃ x,l[i]?=some x:=⟨_,List.getElem?_eq_getElem (by omega)⟩
  rcases hr with he | ⟨b,o,rfl,hc⟩
  ·have h0:l.length=0:=by
    have:=congrArg List.length he
    rwa [bys,List.length_map] at this
   omega
  refine bE (by omega) (by omega) ⟨x,by simpa using hc i _ (DI hx),?_⟩
  have hin:0≤bxor .u8 (IntKind.u8.wrap ((l.take i).foldl oH r)) x∧bxor .u8 (IntKind.u8.wrap ((l.take i).foldl oH r)) x<256:=FJ _
  have hl:eh.length=256:=by simp [eh]
  refine zt hin.1 hin.2 ?_
  generalize hq:bxor .u8 (IntKind.u8.wrap ((l.take i).foldl oH r)) x=q at hin ⊢
  obtain ⟨y,hy⟩:∃ y,eh[q.toNat]?=some y:=⟨_,List.getElem?_eq_getElem (by omega)⟩
  refine ⟨y,by rw [Nat.mul_one];exact Blk.cell ht (by simpa using uY hy),?_⟩
  rw [w64 (x:=(i:Int)+1) (by omega) (by omega)]
  have e:(l.take (i+1)).foldl oH r=bxor .u64 (bshr .u64 ((l.take i).foldl oH r) 8) y:=by
   rw [yL hx]
   generalize (l.take i).foldl oH r=z at hq
   show bxor .u64 (bshr .u64 z 8) (eh.getD (bxor .u8 (IntKind.u8.wrap z) x).toNat 0)=_
   rw [hq,List.getD_eq_getElem?_getD,hy]
   rfl
  rw [←e]
  exact ⟨l.length - (i+1),by omega,i+1,_,rfl,by omega,rfl,rfl⟩
 ·have hil:i=l.length:=by omega
  subst hil
  rw [sh,List.take_length]
  exact ⟨rfl,rfl⟩
def xE (r:Int) (l:List Int):Int:=bxor .u64 18446744073709551615 (l.foldl oH (bxor .u64 18446744073709551615 r))
theorem wS {w:World} (r:Int) {a:Option Addr} {n c:Nat} {l:List Int} (hr:Rd w a (bys l)) (hn:n=l.length) (hf:n≤1000000) :
  Does 121 [.int .u64 r,.slice a n c] w λv w'=>v=.int .u64 (xE r l)∧New w w':=by
 refine does Tryz.func121 ?_
 rw [uo]
 refine aF (yK w) ?_
 rintro v w1 ⟨rfl,hn1⟩
 have hl:eh.length=256:=by simp [eh]
 refine cA.mk_ex ⟨eh⟩ hl ⟨rfl,?_⟩
 refine gF (zs:=List.replicate 256 (.int .u64 0)) (vs:=us eh) (by rw [kV,List.length_replicate];exact hl) (kw _) λb w3 hb hz hn3=>?_
 refine aF (B1 _ hz (hr.new (hn1.new hn3)) hn hf) ?_
 rintro v w4 ⟨rfl,rfl⟩
 exact ⟨_,rfl,rfl,hn1.new hn3⟩
theorem yM {w:World} {a:Option Addr} {n c:Nat} {l:List Int} (hr:Rd w a (bys l)) (hn:n=l.length) (hf:n≤1000000) :
  Does 91 [.slice a n c] w λv w'=>v=.int .u64 (xE 0 l)∧New w w':=by
 refine does Tryz.func91 ?_
 rw [vE]
 refine aF (wS 0 hr hn hf) ?_
 rintro v w1 ⟨rfl,hn1⟩
 exact ⟨_,rfl,rfl,hn1⟩
def shr8:Nat→Int→Int
 | 0,x=>x
 |k+1,x=>bshr .u64 (shr8 k x) 8
def wby (x:Int):List Int:=(List.range 8).map λk=>IntKind.u8.wrap (shr8 k x)
theorem DJ (x:Int):(wby x).length=8:=by unfold wby;rw [List.length_map,List.length_range]
def vJ (ws:List Int):List Int:=(ws.map wby).flatten
def crcW (ws:List Int):Int:=xE 0 (vJ ws)
theorem Ag (ws:List Int):(vJ ws).length=8 * ws.length:=by
 induction ws with
 |nil=>rfl
 |cons x ws ih=>
  have:vJ (x::ws)=wby x++vJ ws:=rfl
  rw [this,List.length_append,ih]
  simp [wby]
  omega
theorem B2 (ws:List Int):U64 (crcW ws):=by
 unfold crcW xE U64
 generalize (List.foldl oH _ _)=z
 simp only [bxor,IntKind.wrap,IntKind.bits,IntKind.signed]
 simp
 omega
abbrev TBy:TypeId:=5
def tkB (ws:List Int) (i k:Nat):List Int:=vJ (ws.take i)++((wby (ws.getD i 0)).take k)
theorem yN {w:World} {a:Option Addr} {n c:Nat} {ws:List Int} (hr:Rd w a (us ws)) (hn:n=ws.length) (hf:n≤10000) :
  Does 284 [.slice a n c] w λv w'=>v=.int .u64 (crcW ws)∧New w w':=by
 subst hn
 refine does Tryz.func284 ?_
 rw [vG,w64 (x:=8 * (ws.length:Int)) (by omega) (by omega)]
 refine ⟨by omega,by omega,by omega,by omega,?_⟩
 rintro b1 w1 hb1 hw1
 obtain ⟨hz1,hn1⟩:=aO hb1 hw1
 clear hw1
 obtain ⟨inf,hinf,hzz,hsz,hby⟩:=iF (T:=TBy) (z:=.int .u8 0) (n:=1) (m:=1) (by kernel_rfl)
 have e8:Int.toNat (8 * (ws.length:Int))=8 * ws.length:=by omega
 have hown:Owns w1 TBy 1 (some ⟨b1,0,none⟩) 0 (8 * ws.length) (bys []):=by
  refine ⟨rfl,.inr ⟨b1,_,rfl,hz1,by omega,by unfold maxLen;omega,?_,by simp [bys]⟩⟩
  rw [e8]
  simp [reps]
 refine aT mix (λm env u=>∃ (i:Nat) (pa:Option Addr) (pc:Nat) (jj:List Value),m=ws.length - i∧i≤ws.length∧env=jF pa (8 * i) pc a ws.length c ws.length i jj∧New w u∧Owns u TBy 1 pa (8 * i) pc (bys (vJ (ws.take i)))∧∀ k,isB pa k→w.heap.size≤k) ws.length
  ⟨0,some ⟨b1,0,none⟩,8 * ws.length,_,rfl,by omega,by rw [e8];rfl,hn1,hown,λk hk=>?_⟩ ?_
 ·obtain ⟨o,ho⟩:=hk
  simp at ho <;> omega
 rintro m env u ⟨i,pa,pc,jj,rfl,hi,rfl,hnu,ho,hpf⟩
 rw [om]
 refine aH (λhlt=>?_) (λhge=>?_)
 ·obtain ⟨x,hx⟩:∃ x,ws[i]?=some x:=⟨_,List.getElem?_eq_getElem (by omega)⟩
  have hxd:ws.getD i 0=x:=by rw [List.getD_eq_getElem?_getD,hx];rfl
  have hru:=hr.new hnu
  rcases hru with he | ⟨b,o,rfl,hc⟩
  ·have h0:ws.length=0:=by
    have:=congrArg List.length he
    rwa [us,List.length_map] at this
   omega
  refine bE (by omega) (by omega) ⟨x,by simpa using hc i _ (uY hx),?_⟩
  refine aT mix (λm2 env2 y=>∃ (k:Nat) (pa:Option Addr) (pc:Nat) (jj:List Value),m2=8 - k∧k≤8∧env2=jG pa (8 * i+k) pc (shr8 k x) (some ⟨b,o,none⟩) ws.length c ws.length i k jj∧New w y∧Owns y TBy 1 pa (8 * i+k) pc (bys (tkB ws i k))∧∀ k,isB pa k→w.heap.size≤k) 8
   ⟨0,pa,pc,_,rfl,by omega,rfl,hnu,by simpa [tkB] using ho,hpf⟩ ?_
  rintro m2 env2 y ⟨k,qa,qc,jj2,rfl,hk,rfl,hny,hoy,hqf⟩
  rw [oq]
  refine aH (λhk8=>?_) (λhk8=>?_)
  ·have hoy':Owns y TBy inf.size qa (8 * i+k) qc (bys (tkB ws i k)):=by rw [hsz];exact hoy
   refine push_k (vs:=[.int .u8 (IntKind.u8.wrap (shr8 k x))]) Tryz.underlying77 hinf hzz (by rw [hsz];rfl) (by omega) hoy' (by rw [hsz];rfl) (by intro v hv;simp at hv;subst hv;rfl) (by omega) (by omega) ?_
   intro b3 ap cap' w3 hb3 h1 hk3 hap
   rw [hsz] at h1
   rw [w64 (x:=(k:Int)+1) (by omega) (by omega)]
   refine ⟨8 - (k+1),by omega,k+1,ap,cap',_,rfl,by omega,rfl,pk hny hk3 hqf,?_,?_⟩
   ·have e:bys (tkB ws i k)++[Value.int .u8 (IntKind.u8.wrap (shr8 k x))]=bys (tkB ws i (k+1)):=by
     unfold tkB
     rw [hxd,List.take_add_one,show (wby x)[k]?=some (IntKind.u8.wrap (shr8 k x)) by simp [wby,List.getElem?_range (show k<8 by omega)]]
     simp [bys]
    rw [←e]
    exact h1
   ·intro q hq
    rcases hap q hq with e | e
    ·exact hqf q e
    ·have:=hny.size;omega
  ·have hk8:k=8:=by omega
   subst hk8
   rw [qA,w64 (x:=(i:Int)+1) (by omega) (by omega)]
   refine ⟨ws.length - (i+1),by omega,i+1,qa,qc,_,rfl,by omega,rfl,hny,?_,hqf⟩
   have e:tkB ws i 8=vJ (ws.take (i+1)):=by
    have e1:ws.take (i+1)=ws.take i++[x]:=by rw [List.take_add_one,hx];rfl
    unfold tkB vJ
    rw [hxd,e1,List.map_append,List.flatten_append,List.take_of_length_le (i:=8) (by rw [DJ];omega)]
    simp
   rw [e] at hoy
   exact hoy
 ·have hil:i=ws.length:=by omega
  subst hil
  rw [qz]
  rw [List.take_length] at ho
  refine aF (yM ho.rd (Ag ws).symm (by omega)) ?_
  rintro v w5 ⟨rfl,hn5⟩
  exact ⟨_,rfl,rfl,hnu.new hn5⟩
end Go.Proofs.YtgpmeaicjonenaaGreat
