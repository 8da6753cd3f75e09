import Derived.Test.YtegepanmkjemjaaGreatp24
import Derived.Test.YtegepanmkjemjaaGreatProg
import Derived.Test.YtegepanmkjemjaaGreatp03
set_option linter.unusedVariables false
namespace Go.Proofs.YtegepanmkjemjaaGreat
open Go.Eng
def sF (l:List aT):List (List Value):=l.map aT.cells
def noS:aT:=⟨0,0⟩
def ascS (R:List aT) (i:Nat):Bool:=decide (i=0) || decide ((R.getD (i - 1) noS).Line<(R.getD i noS).Line)
def has (W:List aF) (line:Int):Bool:=W.any λp=>decide (p.Line=line)
def o0 (R:List aT) (W:List aF) (i:Nat):Bool:=(ascS R i && unl (R.getD i noS).Head) && !has W (R.getD i noS).Line
structure CJob where
 client:Int
 seq:Int
 lines:Int
 v:Vw
 reads:List aT
 writes:List aF
def CJob.valid (j:CJob):Int:=
 if j.client<0∨6≤j.client then 1 else if j.v.valid 5≠0 then j.v.valid 5 else if j.lines<98∨256<j.lines then 18
 else if 0<j.writes.length∧je j.seq j.writes j.lines≠0 then je j.seq j.writes j.lines else if 24<j.reads.length then 18
 else if j.reads.all (λs=>jd s.Line j.lines)=false then 2 else if (List.range j.reads.length).all (o0 j.reads j.writes)=false then 1 else 0
structure o3 (w:World) (r:aL) (j:CJob):Prop where
 client:r.Client=j.client
 seq:r.Seq=j.seq
 lines:r.Lines=j.lines
 view:∃ M,eO M w r.View j.v
 rd:Rd w r.Reads (sF j.reads).flatten
 len:r.Reads_l=j.reads.length
 few:j.reads.length≤1000000
 pg:qd w r.Writes r.Writes_l j.writes
theorem o3.new {w w':World} {r:aL} {j:CJob} (h:o3 w r j) (hn:New w w'):o3 w' r j:=⟨h.client,h.seq,h.lines,h.view.imp λ_ h=>h.new hn,h.rd.new hn,h.len,h.few,h.pg.new hn⟩
theorem ui (w:World) (r:aL):Does 143 [r.val] w λx w'=>x=aQ.val ⟨r.Seq,r.Writes,r.Writes_l,r.Writes_c⟩∧New w w':=by
 refine does Tryz.func143 ?_
 rw [mu]
 rintro b1 w1 hb1 hw1
 obtain ⟨hz1,hn1⟩:=aM hb1 hw1
 have hz1:Blk w1 b1 r.cells 34:=hz1
 clear hw1
 rintro b2 w2 hb2 hw2
 obtain ⟨hz2,hn2⟩:=aM hb2 hw2
 have hz2:Blk w2 b2 (aQ.cells ⟨0,none,0,0⟩) 252:=hz2
 clear hw2
 have hz12:=New.blk hn2 hz1
 have hs:=hn1.size
 refine ⟨_,hz12.cell (i:=1) rfl,_,_,_,hz12.cell (i:=6) rfl,?_⟩
 refine eZ (vs:=aQ.cells ⟨r.Seq,r.Writes,r.Writes_l,r.Writes_c⟩) hz2 rfl (aQ.single _) λw3 hz3 hk3=>?_
 refine aQ.mk_ex ⟨r.Seq,r.Writes,r.Writes_l,r.Writes_c⟩ ⟨aJ hz3 rfl,rfl,rfl,?_⟩
 exact (hn1.new hn2).trans hk3 λk hlt e=>by omega
theorem sG {w:World} {r:aL} {W:List aF} (h:qd w r.Writes r.Writes_l W) (line:Int):Does 146 [r.val,.int .i64 line] w λx w'=>x=.bool (has W line)∧New w w':=by
 refine does Tryz.func146 ?_
 rw [mv]
 rintro b1 w1 hb1 hw1
 obtain ⟨hz1,hn1⟩:=aM hb1 hw1
 have hz1:Blk w1 b1 r.cells 34:=hz1
 clear hw1
 have hlen:=h.len
 have hfew:=h.few
 refine ⟨_,_,_,hz1.cell (i:=6) rfl,?_⟩
 refine aR mix (λm env u=>∃ (i:Nat) (jj:List Value),m=W.length - i∧i≤W.length∧env=dF line r.Writes r.Writes_l r.Writes_c r.Writes_l i jj∧New w u∧has (W.take i) line=false) W.length
  ⟨0,_,by omega,by omega,rfl,hn1,rfl⟩ ?_
 rintro m env u ⟨i,jj,rfl,hi,rfl,hnu,hno⟩
 rw [iF]
 refine aH (λhq=>?_) (λhq=>?_)
 ·have hlt:i<W.length:=by omega
  have hg:W[i]?=some W[i]:=List.getElem?_eq_getElem hlt
  refine eC (cells:=aF.cells) aF.len (by omega) (h.rd.new hnu) hg rfl hlen λb o hc _=>aF.mk_ex W[i] ⟨hc,?_⟩
  refine fN (vs:=W[i].cells) rfl (aF.single _) λb3 u2 hb3 hz3 hn3=>?_
  refine ⟨_,hz3.cell (i:=0) rfl,bG (λhe=>⟨?_,hnu.new hn3⟩) (λhe=>?_)⟩
  ·have:has W line=true:=List.any_eq_true.2 ⟨W[i],List.getElem_mem hlt,by simpa using he⟩
   rw [this]
  ·rw [w64 (by omega) (by omega)]
   refine ⟨W.length - (i+1),by omega,i+1,_,rfl,by omega,rfl,hnu.new hn3,?_⟩
   unfold has
   rw [List.take_add_one,hg,List.any_append]
   have:=hno
   unfold has at this
   rw [this]
   simpa using he
 ·rw [jS]
  have ht:W.take i=W:=List.take_of_length_le (by omega)
  rw [ht] at hno
  exact ⟨by rw [hno],hnu⟩
end Go.Proofs.YtegepanmkjemjaaGreat
namespace Go.Proofs.YtegepanmkjemjaaGreat
open Go.Proofs.Tryz
open Go.Eng
def CJob.tail (j:CJob):Int:=if j.reads.all (λs=>jd s.Line j.lines)=false then 2 else if (List.range j.reads.length).all (o0 j.reads j.writes)=false then 1 else 0
theorem kr {R:List aT} {W:List aF} {i:Nat} (h:ascS R i=false∨unl (R.getD i noS).Head=false∨has W (R.getD i noS).Line=true):o0 R W i=false:=by
 unfold o0
 rcases h with h | h | h
 ·rw [h];rfl
 ·rw [h,Bool.and_false];rfl
 ·rw [h];simp
set_option maxHeartbeats 1000000 in
theorem zn {w u:World} {r:aL} {j:CJob} {b1:Nat} (h:o3 w r j) (hz:Blk u b1 r.cells 34) (hn:New w u) (jj:List Value) {R:Value→World→Prop} (hR:∀ w',New w w'→R (.int .i64 j.tail) w') :
  bV prog (.loop (sub (aG f106) [1,1,1,1,1,1,0,1,0,0])) (dC ⟨b1,0,none⟩ r.Reads r.Reads_l r.Reads_c r.Reads_l 0 jj) (aI 0 (seqQ (λenv w=>W prog (sub (aG f106) [1,1,1,1,1,1,1]) env (retQ prog f106 R) w) (retQ prog f106 R))) u:=by
 have hlen:=h.len
 have hfew:=h.few
 have hli:=h.lines
 unfold CJob.tail at hR
 refine aR mix (λm env z=>∃ (i:Nat) (jj:List Value),m=j.reads.length - i∧i≤j.reads.length∧env=dC ⟨b1,0,none⟩ r.Reads r.Reads_l r.Reads_c r.Reads_l i jj∧New u z∧(j.reads.take i).all (λs=>jd s.Line j.lines)=true) j.reads.length
  ⟨0,_,by omega,by omega,rfl,Keep.refl _ _,rfl⟩ ?_
 rintro m env z ⟨i,jj,rfl,hi,rfl,hnz,hok⟩
 have hn0z:=hn.new hnz
 rw [kJ]
 refine aH (λhq=>?_) (λhq=>?_)
 ·have hlt:i<j.reads.length:=by omega
  have hg:j.reads[i]?=some j.reads[i]:=List.getElem?_eq_getElem hlt
  refine eC (cells:=aT.cells) aT.len (by omega) (h.rd.new hn0z) hg rfl hlen λb o hc _=>aT.mk_ex j.reads[i] ⟨hc,?_⟩
  refine fN (vs:=j.reads[i].cells) rfl (aT.single _) λb3 u2 hb3 hz3 hn3=>?_
  refine ⟨_,hz3.cell (i:=0) rfl,_,(New.blk (hnz.new hn3) hz).cell (i:=2) rfl,?_⟩
  refine aE (yy _ _ _) ?_
  rintro x w3 ⟨rfl,rfl⟩
  refine ⟨_,rfl,cZ (λhf=>?_) (λht=>?_)⟩
  ·rw [if_pos (by
    rw [List.all_eq_false]
    exact ⟨_,List.getElem_mem hlt,by rw [←hli,hf];simp⟩)] at hR
   exact hR _ (hn0z.new hn3)
  ·rw [w64 (by omega) (by omega)]
   refine ⟨j.reads.length - (i+1),by omega,i+1,_,rfl,by omega,rfl,hnz.new hn3,?_⟩
   rw [List.take_add_one,hg,List.all_append,hok]
   simp [←hli,ht]
 have ht:j.reads.take i=j.reads:=List.take_of_length_le (by omega)
 rw [ht] at hok
 rw [if_neg (by rw [hok];simp)] at hR
 rw [mq]
 clear hok hi hq ht
 have hzz:=New.blk hnz hz
 refine ⟨_,_,_,hzz.cell (i:=5) rfl,?_⟩
 refine aR mix (λm env x=>∃ (i:Nat) (jj:List Value),m=j.reads.length - i∧i≤j.reads.length∧env=eh ⟨b1,0,none⟩ r.Reads r.Reads_l r.Reads_c r.Reads_l i jj∧New z x∧∀ k,k<i→o0 j.reads j.writes k=true) j.reads.length
  ⟨0,_,by omega,by omega,rfl,Keep.refl _ _,λk hk=>by omega⟩ ?_
 rintro m env x ⟨i,jj,rfl,hi,rfl,hnx,hok⟩
 have hn0x:=hn0z.new hnx
 rw [kK]
 refine aH (λhq=>?_) (λhq=>?_)
 ·have hlt:i<j.reads.length:=by omega
  have hg:j.reads[i]?=some j.reads[i]:=List.getElem?_eq_getElem hlt
  have hgd:=lW (d:=noS) hg
  have bad:o0 j.reads j.writes i=false→∀ w',New w w'→R (.int .i64 1) w':=λe w' hw=>by
   rw [if_pos (jJ hlt e)] at hR
   exact hR w' hw
  refine eC (cells:=aT.cells) aT.len (by omega) (h.rd.new hn0x) hg rfl hlen λb o hc _=>aT.mk_ex j.reads[i] ⟨hc,?_⟩
  refine fN (vs:=j.reads[i].cells) rfl (aT.single _) λb3 u2 hb3 hz3 hn3=>?_
  rintro u3 hu3
  have hn4:New u2 u3:=by rw [hu3];exact aS _
  clear hu3
  have hn34:=hn3.new hn4
  have hz4:=New.blk hn4 hz3
  have hzx:=New.blk (hnx.new hn34) hzz
  have hn04:=hn0x.new hn34
  refine ⟨λy=>New u3 y,Keep.refl _ _,aH (λh0=>⟨_,λy hy=>(New.blk hy hz4).cell (i:=0) rfl,_,_,_,λy hy=>(New.blk hy hzx).cell (i:=5) rfl,?_⟩) (λh0=>⟨_,λy hy=>(New.blk hy hz4).cell (i:=1) rfl,?_⟩)⟩
  ·have hg1:j.reads[i - 1]?=some j.reads[i - 1]:=List.getElem?_eq_getElem (by omega)
   have hgd1:=lW (d:=noS) hg1
   refine lp (cells:=aT.cells) aT.len (by omega) (h.rd.new hn04) hg1 (by rw [w64 (by omega) (by omega)];omega) hlen λb' o' hc'=>⟨_,λy hy=>hc' y hy 0 _ rfl,aH (λhp6=>?_) (λhp6=>⟨_,λy hy=>(New.blk hy hz4).cell (i:=1) rfl,?_⟩)⟩
   ·exact bad (kr (.inl (by unfold ascS;rw [hgd,hgd1];simp;omega))) _ hn04
   have ha:ascS j.reads i=true:=by unfold ascS;rw [hgd,hgd1];simp;omega
   refine aE (yz u3 j.reads[i].Head) ?_
   rintro v u4 ⟨rfl,rfl⟩
   refine ⟨_,rfl,Keep.refl _ _,cZ (λhf=>?_) (λhtt=>aL.mk_ex r ⟨λy hy=>aJ (New.blk hy hzx) rfl,_,λy hy=>(New.blk hy hz4).cell (i:=0) rfl,?_⟩)⟩
   ·exact bad (kr (.inr (.inl (by rw [hgd];exact hf)))) _ hn04
   refine aE (sG (h.pg.new hn04) j.reads[i].Line) ?_
   rintro v u5 ⟨rfl,hn5⟩
   refine ⟨_,rfl,hn5,re (λhw=>?_) (λhw=>?_)⟩
   ·exact bad (kr (.inr (.inr (by rw [hgd];exact hw)))) _ (hn04.new hn5)
   ·rw [w64 (by omega) (by omega)]
    refine ⟨j.reads.length - (i+1),by omega,i+1,_,rfl,by omega,rfl,(hnx.new hn34).new hn5,λk hk=>?_⟩
    rcases Nat.lt_succ_iff_lt_or_eq.1 hk with hk | rfl
    ·exact hok k hk
    ·unfold o0;rw [hgd,ha,htt,hw];rfl
  ·have ha:ascS j.reads i=true:=by unfold ascS;simp;omega
   refine aE (yz u3 j.reads[i].Head) ?_
   rintro v u4 ⟨rfl,rfl⟩
   refine ⟨_,rfl,Keep.refl _ _,cZ (λhf=>?_) (λhtt=>aL.mk_ex r ⟨λy hy=>aJ (New.blk hy hzx) rfl,_,λy hy=>(New.blk hy hz4).cell (i:=0) rfl,?_⟩)⟩
   ·exact bad (kr (.inr (.inl (by rw [hgd];exact hf)))) _ hn04
   refine aE (sG (h.pg.new hn04) j.reads[i].Line) ?_
   rintro v u5 ⟨rfl,hn5⟩
   refine ⟨_,rfl,hn5,re (λhw=>?_) (λhw=>?_)⟩
   ·exact bad (kr (.inr (.inr (by rw [hgd];exact hw)))) _ (hn04.new hn5)
   ·rw [w64 (by omega) (by omega)]
    refine ⟨j.reads.length - (i+1),by omega,i+1,_,rfl,by omega,rfl,(hnx.new hn34).new hn5,λk hk=>?_⟩
    rcases Nat.lt_succ_iff_lt_or_eq.1 hk with hk | rfl
    ·exact hok k hk
    ·unfold o0;rw [hgd,ha,htt,hw];rfl
 ·rw [mr]
  rw [if_neg (by
   rw [Bool.not_eq_false,List.all_eq_true]
   intro k hk
   exact hok k (by have:=List.mem_range.1 hk;omega))] at hR
  exact hR _ hn0x
set_option maxHeartbeats 1000000 in
theorem yE {w:World} {r:aL} {j:CJob} (h:o3 w r j):Does 106 [r.val] w λx w'=>x=.int .i64 j.valid∧New w w':=by
 refine does Tryz.func106 ?_
 rw [p8]
 rintro b1 w1 hb1 hw1
 obtain ⟨hz,hn⟩:=aM hb1 hw1
 have hz:Blk w1 b1 r.cells 34:=hz
 clear hw1
 have hlen:=h.len
 have hfew:=h.few
 have hcl:=h.client
 have hsq:=h.seq
 have hli:=h.lines
 have hpl:=h.pg.len
 obtain ⟨MM,hview⟩:=h.view
 unfold CJob.valid
 refine ⟨_,hz.cell (i:=0) rfl,aH (λhp=>?_) (λhp=>⟨_,hz.cell (i:=0) rfl,aH (λhp1=>?_) (λhp1=>?_)⟩)⟩
 ·rw [if_pos (by omega)];exact ⟨rfl,hn⟩
 ·rw [if_pos (by omega)];exact ⟨rfl,hn⟩
 rw [if_neg (by omega)]
 refine aN.mk_ex r.View ⟨aJ hz rfl,?_⟩
 refine aE (yv (hview.new hn) 5) ?_
 rintro x w2 ⟨rfl,hn2⟩
 have hz2:=New.blk hn2 hz
 have hn12:=hn.new hn2
 refine ⟨_,rfl,cB (λhv=>?_) (λhv=>?_)⟩
 ·rw [if_pos hv];exact ⟨rfl,hn12⟩
 rw [if_neg (by omega)]
 refine ⟨_,hz2.cell (i:=2) rfl,aH (λhp2=>?_) (λhp2=>⟨_,hz2.cell (i:=2) rfl,aH (λhp3=>?_) (λhp3=>⟨_,_,_,hz2.cell (i:=6) rfl,aH (λhp4=>?_) (λhp4=>⟨_,_,_,hz2.cell (i:=5) rfl,aH (λhp5=>?_) (λhp5=>⟨_,_,_,hz2.cell (i:=5) rfl,?_⟩)⟩)⟩)⟩)⟩
 ·rw [if_pos (by omega)];exact ⟨rfl,hn12⟩
 ·rw [if_pos (by omega)];exact ⟨rfl,hn12⟩
 ·rw [if_neg (by omega)]
  rintro w3 hw3
  have hn3:New w2 w3:=by rw [hw3];exact aS _
  clear hw3
  have hz3:=New.blk hn3 hz2
  refine ⟨λy=>New w3 y,Keep.refl _ _,aL.mk_ex r ⟨λy hy=>aJ (New.blk hy hz3) rfl,_,λy hy=>(New.blk hy hz3).cell (i:=2) rfl,?_⟩⟩
  refine aE (ui w3 r) ?_
  rintro x w4 ⟨rfl,hn4⟩
  refine aQ.mk_ex ⟨r.Seq,r.Writes,r.Writes_l,r.Writes_c⟩ ⟨rfl,hn4,?_⟩
  refine aE (rD (r:=⟨r.Seq,r.Writes,r.Writes_l,r.Writes_c⟩) (h.pg.new (hn12.new (hn3.new hn4))) r.Lines) ?_
  rintro x u ⟨rfl,hn5⟩
  have hnu:=hn12.new (hn3.new (hn4.new hn5))
  have hzu:=New.blk (hn4.new hn5) hz3
  rw [←hsq,←hli]
  refine ⟨_,rfl,hn4.new hn5,cB (λhr=>?_) (λhr=>⟨_,_,_,hzu.cell (i:=5) rfl,aH (λhp5=>?_) (λhp5=>⟨_,_,_,hzu.cell (i:=5) rfl,?_⟩)⟩)⟩
  ·rw [if_pos ⟨by omega,hr⟩]
   exact ⟨rfl,hnu⟩
  ·rw [if_neg (λe=>e.2 hr),if_pos (by omega)]
   exact ⟨rfl,hnu⟩
  ·rw [if_neg (λe=>e.2 hr),if_neg (by omega),hli]
   exact zn h hzu hnu _ λw' hw=>⟨rfl,hw⟩
 ·rw [if_neg (by omega),if_neg (by omega),if_pos (by omega)];exact ⟨rfl,hn12⟩
 ·rw [if_neg (by omega),if_neg (by omega),if_neg (by omega)]
  exact zn h hz2 hn12 _ λw' hw=>⟨rfl,hw⟩
end Go.Proofs.YtegepanmkjemjaaGreat
namespace Go.Proofs.YtegepanmkjemjaaGreat
open Go.Proofs.Tryz
open Go.Eng IntKind
variable (w:World) (R:Value→World→Prop)
def gX (s3:Option Addr) (a b:Nat) (c:Option Addr) (d f:Nat) (g h:Int) (j:LV):LV:=[jg j 0,jg j 1,jg j 2,(.slice s3 a b),jg j 3,jg j 4,jg j 5,jg j 6,jg j 7,jg j 8,(.slice c d f),(.int .i64 g),(.int .i64 h),jg j 9,jg j 10,jg j 11,jg j 12,jg j 13,jg j 14,jg j 15,jg j 16,jg j 17,jg j 18,jg j 19,jg j 20,jg j 21,jg j 22,jg j 23,jg j 24]
def mP (s3:Option Addr) (a b:Nat) (j:LV):LV:=jq j 0 3 (.slice s3 a b::jq j 3 25 [])
def gY (s3:Option Addr) (a b:Nat) (s5:Int) (c:Option Addr) (d f:Nat) (g h i:Int) (j:LV):LV:=jq j 0 3 (.slice s3 a b::jq j 3 1 (.int .u64 s5::jq j 4 4 (.slice c d f::.int .i64 g::.int .i64 h::jq j 8 3 (.int .i64 i::jq j 11 12 []))))
def mQ (s3:Option Addr) (a b:Nat) (c:Option Addr) (d f:Nat) (g h:Int) (j:LV):LV:=jq j 0 3 (.slice s3 a b::jq j 3 6 (.slice c d f::.int .i64 g::.int .i64 h::jq j 9 16 []))
theorem sH (p0:Option Addr) (a b:Nat):fnW prog f200 [.slice p0 a b] R w=(mk3 0 (i64.wrap (8 * (a:Nat))) 1 (.cells (reps (Int.toNat (i64.wrap (8 * (a:Nat)))) [.int .u8 0]).toArray 5) w λb1 w1=>bV prog (.loop (sub (aG f200) [1,1,0,1,0,0])) (gX (some ⟨b1,0,none⟩) (Int.toNat 0) (Int.toNat (i64.wrap (8 * (a:Nat)))) p0 a b (a:Nat) 0 (js p0 a b::undef::ju 0::uq 2 (js p0 a b::jn a::ji (i64.wrap (8 * (a:Nat)))::js (some ⟨b1,0,none⟩) (Int.toNat 0) (Int.toNat (i64.wrap (8 * (a:Nat))))::uq 16 []))) (aI 0 (nx f200 [1,1,1] R)) w1):=by kernel_rfl
theorem mC (s3:Option Addr) (a b:Nat) (c:Option Addr) (d f:Nat) (g h:Int) (j:LV) (N1:LV→World→Prop):W prog (sub (aG f200) [1,1,0,1,0,0]) (gX s3 a b c d f g h j) (seqQ N1 (aI 0 (nx f200 [1,1,1] R))) w=((bif (decide ((h:Int)<g)) then (idxS c d h 1 λad=>∃ x,w.cell? ad=some (.int .u64 x)∧bV prog (.loop (sub (aG f200) [1,1,0,1,0,0,1,1,0,0,1,1,0,0])) (gY s3 a b x c d f g h 0 (jq j 0 4 (jq j 5 4 (jb (decide ((h:Int)<g))::jp ad::ju x::jq j 13 12 [])))) (aI 2 (aI 1 (seqQ (λenv w=>W prog (sub (aG f200) [1,1,0,1,0,0,1,1,1]) env (seqQ N1 (aI 0 (nx f200 [1,1,1] R))) w) (seqQ N1 (aI 0 (nx f200 [1,1,1] R)))))) w) else (W prog (sub (aG f200) [1,1,1]) (mP s3 a b (jq j 0 9 (js c d f::ji g::ji h::jb (decide ((h:Int)<g))::jq j 10 15 []))) (retQ prog f200 R) w))):=by kernel_rfl
theorem oM (s3:Option Addr) (a b:Nat) (j:LV):W prog (sub (aG f200) [1,1,1]) (mP s3 a b j) (retQ prog f200 R) w=(Calls prog 207 #[.slice s3 a b] w λe w1=>∃ c,e=.returned (.int .u64 c)∧R (.int .u64 c) w1):=by kernel_rfl
theorem mD (s3:Option Addr) (a b:Nat) (s5:Int) (c:Option Addr) (d f:Nat) (g h i:Int) (j:LV) (N1:LV→World→Prop) (N2:LV→World→Prop):W prog (sub (aG f200) [1,1,0,1,0,0,1,1,0,0,1,1,0,0]) (gY s3 a b s5 c d f g h i j) (seqQ N2 (aI 2 (aI 1 (seqQ (λenv w=>W prog (sub (aG f200) [1,1,0,1,0,0,1,1,1]) env (seqQ N1 (aI 0 (nx f200 [1,1,1] R))) w) (seqQ N1 (aI 0 (nx f200 [1,1,1] R))))))) w=((bif (decide ((i:Int)<8)) then (∀ b1 w1,b1=w.heap.size→w1=w.alloc (.cells #[.int .u8 (IntKind.u8.wrap s5)] 5)→∃ ap k l,∃ w2,(Builtin.append_ #[290,290] 290 #[.slice s3 a b,.slice (some ⟨b1,0,none⟩) 1 1]).run prog w1=.ok (.slice ap k l) w2∧N2 (gY ap k l (bshr .u64 s5 8) c d f g h (i64.wrap (i+1)) (jq j 0 11 [jb (decide ((i:Int)<8)),js s3 a b,ju s5,.int .u8 (IntKind.u8.wrap s5),js (some ⟨b1,0,none⟩) 1 1,js ap k l,ju s5,ju (bshr .u64 s5 8),ji (i64.wrap (i+1)),jg j 20,jg j 21,jg j 22])) w2) else (W prog (sub (aG f200) [1,1,0,1,0,0,1,1,1]) (mQ s3 a b c d f g h (jq j 0 4 (ju s5::jq j 4 7 (ji i::jb (decide ((i:Int)<8))::jq j 12 11 [])))) (seqQ N1 (aI 0 (nx f200 [1,1,1] R))) w))):=by kernel_rfl
theorem oN (s3:Option Addr) (a b:Nat) (c:Option Addr) (d f:Nat) (g h:Int) (j:LV) (N1:LV→World→Prop):W prog (sub (aG f200) [1,1,0,1,0,0,1,1,1]) (mQ s3 a b c d f g h j) (seqQ N1 (aI 0 (nx f200 [1,1,1] R))) w=(N1 (gX s3 a b c d f g (i64.wrap (h+1)) (jq j 0 22 [ji (i64.wrap (h+1)),jg j 23,jg j 24])) w):=by kernel_rfl
theorem sI (p0:Option Addr) (a b:Nat):fnW prog f207 [.slice p0 a b] R w=(Calls prog 208 #[.int .u64 0,.slice p0 a b] w λe w1=>∃ c,e=.returned (.int .u64 c)∧R (.int .u64 c) w1):=by kernel_rfl
theorem rE (p0:Int) (p1:Option Addr) (a b:Nat):fnW prog f208 [.int .u64 p0,.slice p1 a b] R w=(Calls prog 209 #[] w λe w1=>bP.ex λd=>e=.returned d.val∧∀ b1 w2,b1=w1.heap.size→w2=w1.alloc (.cells (List.replicate 256 (.int .u64 0)).toArray 302)→wrAt w2 ⟨b1,0,none⟩ 0 d.cells∧∀ w3,w3=puts w2 ⟨b1,0,none⟩ 0 d.cells→Calls prog 210 #[.int .u64 (bxor .u64 18446744073709551615 p0),.pointer (some ⟨b1,0,none⟩),.slice p1 a b] w3 λe w4=>∃ c,e=.returned (.int .u64 c)∧R (.int .u64 (bxor .u64 18446744073709551615 c)) w4):=by kernel_rfl
def gZ (s0:Addr) (s3:Int) (j:LV):LV:=.pointer (some s0)::jq j 0 2 (.int .i64 s3::jq j 2 20 [])
def mR (a:Addr) (j:LV):LV:=.pointer (some a)::jq j 0 23 []
def fD (s0:Addr) (s1 s2 s3 s8:Int) (j:LV):LV:=.pointer (some s0)::.int .i64 s1::.int .u64 s2::.int .i64 s3::jq j 0 4 (.int .i64 s8::jq j 4 15 [])
def mS (a:Addr) (s1 s2 s3:Int) (j:LV):LV:=.pointer (some a)::.int .i64 s1::.int .u64 s2::.int .i64 s3::jq j 0 20 []
theorem sJ  : fnW prog f209 [] R w=(∀ b1 w1,b1=w.heap.size→w1=w.alloc (.cells (List.replicate 256 (.int .u64 0)).toArray 302)→bV prog (.loop (sub (aG f209) [1,0,1,0,0])) (gZ ⟨b1,0,none⟩ 0 (uq 22 [])) (aI 0 (nx f209 [1,1] R)) w1):=by kernel_rfl
theorem mE (s0:Addr) (s3:Int) (j:LV) (N1:LV→World→Prop):W prog (sub (aG f209) [1,0,1,0,0]) (gZ s0 s3 j) (seqQ N1 (aI 0 (nx f209 [1,1] R))) w=((bif (decide ((s3:Int)<256)) then (bV prog (.loop (sub (aG f209) [1,0,1,0,0,1,1,0,0,1,1,0,1,0,0])) (fD s0 s3 (u64.wrap s3) s3 0 (jb (decide ((s3:Int)<256))::ji s3::ji s3::ju (u64.wrap s3)::jq j 7 15 [])) (aI 2 (seqQ (λenv w=>W prog (sub (aG f209) [1,0,1,0,0,1,1,0,0,1,1,1]) env (aI 1 (seqQ (λenv w=>W prog (sub (aG f209) [1,0,1,0,0,1,1,1]) env (seqQ N1 (aI 0 (nx f209 [1,1] R))) w) (seqQ N1 (aI 0 (nx f209 [1,1] R))))) w) (aI 1 (seqQ (λenv w=>W prog (sub (aG f209) [1,0,1,0,0,1,1,1]) env (seqQ N1 (aI 0 (nx f209 [1,1] R))) w) (seqQ N1 (aI 0 (nx f209 [1,1] R))))))) w) else (W prog (sub (aG f209) [1,1]) (mR s0 (jg j 0::jg j 1::ji s3::jb (decide ((s3:Int)<256))::jq j 3 19 [])) (retQ prog f209 R) w))):=by kernel_rfl
theorem oO (a:Addr) (j:LV):W prog (sub (aG f209) [1,1]) (mR a j) (retQ prog f209 R) w=(bP.ex λr=>aD w a 0 r.cells∧wrAt w a 0 r.cells∧∀ w1,w1=puts w a 0 r.cells→bP.ex λb=>aD w1 a 0 b.cells∧w1=w1∧R b.val w1):=by kernel_rfl
theorem mF (s0:Addr) (s1 s2 s3 s8:Int) (j:LV) (N1:LV→World→Prop) (N2:LV→World→Prop):W prog (sub (aG f209) [1,0,1,0,0,1,1,0,0,1,1,0,1,0,0]) (fD s0 s1 s2 s3 s8 j) (seqQ N2 (aI 2 (seqQ (λenv w=>W prog (sub (aG f209) [1,0,1,0,0,1,1,0,0,1,1,1]) env (aI 1 (seqQ (λenv w=>W prog (sub (aG f209) [1,0,1,0,0,1,1,1]) env (seqQ N1 (aI 0 (nx f209 [1,1] R))) w) (seqQ N1 (aI 0 (nx f209 [1,1] R))))) w) (aI 1 (seqQ (λenv w=>W prog (sub (aG f209) [1,0,1,0,0,1,1,1]) env (seqQ N1 (aI 0 (nx f209 [1,1] R))) w) (seqQ N1 (aI 0 (nx f209 [1,1] R)))))))) w=((bif (decide ((s8:Int)<8)) then ((bif (((band .u64 s2 1):Int) == 1) then (N2 (fD s0 s1 (bxor .u64 (bshr .u64 s2 1) 14514072000185962306) s3 (i64.wrap (s8+1)) (jq j 0 4 (jb (decide ((s8:Int)<8))::ju s2::ju (band .u64 s2 1)::jb (((band .u64 s2 1):Int) == 1)::ju s2::ju (bshr .u64 s2 1)::ju (bxor .u64 (bshr .u64 s2 1) 14514072000185962306)::jg j 11::jg j 12::ji (i64.wrap (s8+1))::jq j 14 5 []))) w) else (N2 (fD s0 s1 (bshr .u64 s2 1) s3 (i64.wrap (s8+1)) (jq j 0 4 (jb (decide ((s8:Int)<8))::ju s2::ju (band .u64 s2 1)::jb (((band .u64 s2 1):Int) == 1)::jg j 8::jg j 9::jg j 10::ju s2::ju (bshr .u64 s2 1)::ji (i64.wrap (s8+1))::jq j 14 5 []))) w))) else (W prog (sub (aG f209) [1,0,1,0,0,1,1,0,0,1,1,1]) (mS s0 s1 s2 s3 (jq j 0 4 (ji s8::jb (decide ((s8:Int)<8))::jq j 5 14 []))) (aI 1 (seqQ (λenv w=>W prog (sub (aG f209) [1,0,1,0,0,1,1,1]) env (seqQ N1 (aI 0 (nx f209 [1,1] R))) w) (seqQ N1 (aI 0 (nx f209 [1,1] R))))) w))):=by kernel_rfl
theorem oP (a:Addr) (s1 s2 s3:Int) (j:LV) (N1:LV→World→Prop):W prog (sub (aG f209) [1,0,1,0,0,1,1,0,0,1,1,1]) (mS a s1 s2 s3 j) (aI 1 (seqQ (λenv w=>W prog (sub (aG f209) [1,0,1,0,0,1,1,1]) env (seqQ N1 (aI 0 (nx f209 [1,1] R))) w) (seqQ N1 (aI 0 (nx f209 [1,1] R))))) w=(idxA a 256 s1 1 λad=>(∃ u,w.cell? ad=some u)∧w.frozen? ad=false∧∀ w1,w1=w.setCell ad (.int .u64 s2)→N1 (gZ a (i64.wrap (s3+1)) (ji s1::ju s2::jq j 0 15 [ji s1,ju s2,jp ad,ji (i64.wrap (s3+1)),jg j 19])) w1):=by kernel_rfl
def jK (s0:Int) (s1:Addr) (s9:Option Addr) (a b:Nat) (c d:Int) (j:LV):LV:=.int .u64 s0::.pointer (some s1)::jq j 0 7 (.slice s9 a b::.int .i64 c::.int .i64 d::jq j 7 16 [])
def o7 (s0:Int) (j:LV):LV:=.int .u64 s0::jq j 0 27 []
theorem vt (p0:Int) (p1:Nat) (p2:Option Addr) (a b:Nat):fnW prog f210 [.int .u64 p0,.pointer (some ⟨p1,0,none⟩),.slice p2 a b] R w=(bV prog (.loop (sub (aG f210) [1,0,1,0,0])) (jK p0 ⟨p1,0,none⟩ p2 a b (a:Nat) 0 (js p2 a b::uq 3 (ju 0::uq 18 []))) (aI 0 (nx f210 [1,1] R)) w):=by kernel_rfl
theorem n9 (s0:Int) (s1:Addr) (s9:Option Addr) (a b:Nat) (c d:Int) (j:LV) (N1:LV→World→Prop):W prog (sub (aG f210) [1,0,1,0,0]) (jK s0 s1 s9 a b c d j) (seqQ N1 (aI 0 (nx f210 [1,1] R))) w=((bif (decide ((d:Int)<c)) then (idxS s9 a d 1 λad=>∃ x,w.cell? ad=some (.int .u8 x)∧idxA s1 256 (bxor .u8 (IntKind.u8.wrap s0) x) 1 λf=>∃ x1,w.cell? f=some (.int .u64 x1)∧N1 (jK (bxor .u64 (bshr .u64 s0 8) x1) s1 s9 a b c (i64.wrap (d+1)) (jq j 0 6 [.int .u8 x,jb (decide ((d:Int)<c)),jp ad,.int .u8 x,ju s0,ju (bshr .u64 s0 8),jp s1,ju s0,.int .u8 (IntKind.u8.wrap s0),.int .u8 x,.int .u8 (bxor .u8 (IntKind.u8.wrap s0) x),jp s1,jp f,ju x1,ju (bxor .u64 (bshr .u64 s0 8) x1),ji (i64.wrap (d+1)),jg j 22])) w) else (W prog (sub (aG f210) [1,1]) (o7 s0 (jp s1::jq j 0 7 (js s9 a b::ji c::ji d::jb (decide ((d:Int)<c))::jq j 8 15 []))) (retQ prog f210 R) w))):=by kernel_rfl
theorem qe (s0:Int) (j:LV):W prog (sub (aG f210) [1,1]) (o7 s0 j) (retQ prog f210 R) w=(R (.int .u64 s0) w):=by kernel_rfl
end Go.Proofs.YtegepanmkjemjaaGreat
