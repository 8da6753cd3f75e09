import Derived.Test.YtegepanmkjemjaaGreatw17
import Derived.Test.YtegepanmkjemjaaGreatProg
import Derived.Test.YtegepanmkjemjaaGreatw03
import Derived.Test.YtegepanmkjemjaaGreatw02
set_option linter.unusedVariables false
namespace Go.Proofs.YtegepanmkjemjaaGreat
open Go.Proofs.Tryz
open Go.Eng
def CJob.tail (j:CJob):Int:=if j.reads.all (λs=>g8 s.Line j.lines)=false then 2 else if (List.range j.reads.length).all (m8 j.reads j.writes)=false then 1 else 0
theorem mq {R:List aU} {W:List aB} {i:Nat} (h:ascS R i=false∨unl (R.getD i noS).Head=false∨has W (R.getD i noS).Line=true):m8 R W i=false:=by
 unfold m8
 rcases h with h | h | h
 ·rw [h];rfl
 ·rw [h,Bool.and_false];rfl
 ·rw [h];simp
set_option maxHeartbeats 1000000 in
theorem D0 {w u:World} {r:aH} {j:CJob} {b1:Nat} (h:rS w r j) (hz:Blk u b1 r.cells 34) (hn:New w u) (jj:List Value) {R:Value→World→Prop} (hR:∀ w',New w w'→R (.int .i64 j.tail) w') :
  bS prog (.loop (sub (aD f106) [1,1,1,1,1,1,0,1,0,0])) (dZ ⟨b1,0,none⟩ r.Reads r.Reads_l r.Reads_c r.Reads_l 0 jj) (aI 0 (seqQ (λenv w=>W prog (sub (aD f106) [1,1,1,1,1,1,1]) env (retQ prog f106 R) w) (retQ prog f106 R))) u:=by
 have hlen:=h.len
 have hfew:=h.few
 have hli:=h.lines
 unfold CJob.tail at hR
 refine aQ mix (λm env z=>∃ (i:Nat) (jj:List Value),m=j.reads.length - i∧i≤j.reads.length∧env=dZ ⟨b1,0,none⟩ r.Reads r.Reads_l r.Reads_c r.Reads_l i jj∧New u z∧(j.reads.take i).all (λs=>g8 s.Line j.lines)=true) j.reads.length
  ⟨0,_,by omega,by omega,rfl,Keep.refl _ _,rfl⟩ ?_
 rintro m env z ⟨i,jj,rfl,hi,rfl,hnz,hok⟩
 have hn0z:=hn.new hnz
 rw [mO]
 refine aJ (λhq=>?_) (λhq=>?_)
 ·have hlt:i<j.reads.length:=by omega
  have hg:j.reads[i]?=some j.reads[i]:=List.getElem?_eq_getElem hlt
  refine fR (cells:=aU.cells) aU.len (by omega) (h.rd.new hn0z) hg rfl hlen λb o hc _=>aU.mk_ex j.reads[i] ⟨hc,?_⟩
  refine gX (vs:=j.reads[i].cells) rfl (aU.single _) λb3 u2 hb3 hz3 hn3=>?_
  refine ⟨_,hz3.cell (i:=0) rfl,_,(New.blk (hnz.new hn3) hz).cell (i:=2) rfl,?_⟩
  refine aE (CH _ _ _) ?_
  rintro x w3 ⟨rfl,rfl⟩
  refine ⟨_,rfl,dN (λhf=>?_) (λht=>?_)⟩
  ·rw [if_pos (by
    rw [List.all_eq_false]
    exact ⟨_,List.getElem_mem hlt,by rw [←hli,hf];simp⟩)] at hR
   exact hR _ (hn0z.new hn3)
  ·rw [w64 (by omega) (by omega)]
   refine ⟨j.reads.length - (i+1),by omega,i+1,_,rfl,by omega,rfl,hnz.new hn3,?_⟩
   rw [List.take_add_one,hg,List.all_append,hok]
   simp [←hli,ht]
 have ht:j.reads.take i=j.reads:=List.take_of_length_le (by omega)
 rw [ht] at hok
 rw [if_neg (by rw [hok];simp)] at hR
 rw [oU]
 clear hok hi hq ht
 have hzz:=New.blk hnz hz
 refine ⟨_,_,_,hzz.cell (i:=5) rfl,?_⟩
 refine aQ mix (λm env x=>∃ (i:Nat) (jj:List Value),m=j.reads.length - i∧i≤j.reads.length∧env=eY ⟨b1,0,none⟩ r.Reads r.Reads_l r.Reads_c r.Reads_l i jj∧New z x∧∀ k,k<i→m8 j.reads j.writes k=true) j.reads.length
  ⟨0,_,by omega,by omega,rfl,Keep.refl _ _,λk hk=>by omega⟩ ?_
 rintro m env x ⟨i,jj,rfl,hi,rfl,hnx,hok⟩
 have hn0x:=hn0z.new hnx
 rw [mP]
 refine aJ (λhq=>?_) (λhq=>?_)
 ·have hlt:i<j.reads.length:=by omega
  have hg:j.reads[i]?=some j.reads[i]:=List.getElem?_eq_getElem hlt
  have hgd:=nO (d:=noS) hg
  have bad:m8 j.reads j.writes i=false→∀ w',New w w'→R (.int .i64 1) w':=λe w' hw=>by
   rw [if_pos (lA hlt e)] at hR
   exact hR w' hw
  refine fR (cells:=aU.cells) aU.len (by omega) (h.rd.new hn0x) hg rfl hlen λb o hc _=>aU.mk_ex j.reads[i] ⟨hc,?_⟩
  refine gX (vs:=j.reads[i].cells) rfl (aU.single _) λb3 u2 hb3 hz3 hn3=>?_
  rintro u3 hu3
  have hn4:New u2 u3:=by rw [hu3];exact aV _
  clear hu3
  have hn34:=hn3.new hn4
  have hz4:=New.blk hn4 hz3
  have hzx:=New.blk (hnx.new hn34) hzz
  have hn04:=hn0x.new hn34
  refine ⟨λy=>New u3 y,Keep.refl _ _,aJ (λh0=>⟨_,λy hy=>(New.blk hy hz4).cell (i:=0) rfl,_,_,_,λy hy=>(New.blk hy hzx).cell (i:=5) rfl,?_⟩) (λh0=>⟨_,λy hy=>(New.blk hy hz4).cell (i:=1) rfl,?_⟩)⟩
  ·have hg1:j.reads[i - 1]?=some j.reads[i - 1]:=List.getElem?_eq_getElem (by omega)
   have hgd1:=nO (d:=noS) hg1
   refine kN (cells:=aU.cells) aU.len (by omega) (h.rd.new hn04) hg1 (by rw [w64 (by omega) (by omega)];omega) hlen λb' o' hc'=>⟨_,λy hy=>hc' y hy 0 _ rfl,aJ (λhp6=>?_) (λhp6=>⟨_,λy hy=>(New.blk hy hz4).cell (i:=1) rfl,?_⟩)⟩
   ·exact bad (mq (.inl (by unfold ascS;rw [hgd,hgd1];simp;omega))) _ hn04
   have ha:ascS j.reads i=true:=by unfold ascS;rw [hgd,hgd1];simp;omega
   refine aE (CJ u3 j.reads[i].Head) ?_
   rintro v u4 ⟨rfl,rfl⟩
   refine ⟨_,rfl,Keep.refl _ _,dN (λhf=>?_) (λhtt=>aH.mk_ex r ⟨λy hy=>aK (New.blk hy hzx) rfl,_,λy hy=>(New.blk hy hz4).cell (i:=0) rfl,?_⟩)⟩
   ·exact bad (mq (.inr (.inl (by rw [hgd];exact hf)))) _ hn04
   refine aE (wy (h.pg.new hn04) j.reads[i].Line) ?_
   rintro v u5 ⟨rfl,hn5⟩
   refine ⟨_,rfl,hn5,rX (λhw=>?_) (λhw=>?_)⟩
   ·exact bad (mq (.inr (.inr (by rw [hgd];exact hw)))) _ (hn04.new hn5)
   ·rw [w64 (by omega) (by omega)]
    refine ⟨j.reads.length - (i+1),by omega,i+1,_,rfl,by omega,rfl,(hnx.new hn34).new hn5,λk hk=>?_⟩
    rcases Nat.lt_succ_iff_lt_or_eq.1 hk with hk | rfl
    ·exact hok k hk
    ·unfold m8;rw [hgd,ha,htt,hw];rfl
  ·have ha:ascS j.reads i=true:=by unfold ascS;simp;omega
   refine aE (CJ u3 j.reads[i].Head) ?_
   rintro v u4 ⟨rfl,rfl⟩
   refine ⟨_,rfl,Keep.refl _ _,dN (λhf=>?_) (λhtt=>aH.mk_ex r ⟨λy hy=>aK (New.blk hy hzx) rfl,_,λy hy=>(New.blk hy hz4).cell (i:=0) rfl,?_⟩)⟩
   ·exact bad (mq (.inr (.inl (by rw [hgd];exact hf)))) _ hn04
   refine aE (wy (h.pg.new hn04) j.reads[i].Line) ?_
   rintro v u5 ⟨rfl,hn5⟩
   refine ⟨_,rfl,hn5,rX (λhw=>?_) (λhw=>?_)⟩
   ·exact bad (mq (.inr (.inr (by rw [hgd];exact hw)))) _ (hn04.new hn5)
   ·rw [w64 (by omega) (by omega)]
    refine ⟨j.reads.length - (i+1),by omega,i+1,_,rfl,by omega,rfl,(hnx.new hn34).new hn5,λk hk=>?_⟩
    rcases Nat.lt_succ_iff_lt_or_eq.1 hk with hk | rfl
    ·exact hok k hk
    ·unfold m8;rw [hgd,ha,htt,hw];rfl
 ·rw [oV]
  rw [if_neg (by
   rw [Bool.not_eq_false,List.all_eq_true]
   intro k hk
   exact hok k (by have:=List.mem_range.1 hk;omega))] at hR
  exact hR _ hn0x
set_option maxHeartbeats 1000000 in
theorem CL {w:World} {r:aH} {j:CJob} (h:rS w r j):Does 106 [r.val] w λx w'=>x=.int .i64 j.valid∧New w w':=by
 refine does Tryz.func106 ?_
 rw [tg]
 rintro b1 w1 hb1 hw1
 obtain ⟨hz,hn⟩:=aN hb1 hw1
 have hz:Blk w1 b1 r.cells 34:=hz
 clear hw1
 have hlen:=h.len
 have hfew:=h.few
 have hcl:=h.client
 have hsq:=h.seq
 have hli:=h.lines
 have hpl:=h.pg.len
 obtain ⟨MM,hview⟩:=h.view
 unfold CJob.valid
 refine ⟨_,hz.cell (i:=0) rfl,aJ (λhp=>?_) (λhp=>⟨_,hz.cell (i:=0) rfl,aJ (λhp1=>?_) (λhp1=>?_)⟩)⟩
 ·rw [if_pos (by omega)];exact ⟨rfl,hn⟩
 ·rw [if_pos (by omega)];exact ⟨rfl,hn⟩
 rw [if_neg (by omega)]
 refine aM.mk_ex r.View ⟨aK hz rfl,?_⟩
 refine aE (Cn (hview.new hn) 5) ?_
 rintro x w2 ⟨rfl,hn2⟩
 have hz2:=New.blk hn2 hz
 have hn12:=hn.new hn2
 refine ⟨_,rfl,cR (λhv=>?_) (λhv=>?_)⟩
 ·rw [if_pos hv];exact ⟨rfl,hn12⟩
 rw [if_neg (by omega)]
 refine ⟨_,hz2.cell (i:=2) rfl,aJ (λhp2=>?_) (λhp2=>⟨_,hz2.cell (i:=2) rfl,aJ (λhp3=>?_) (λhp3=>⟨_,_,_,hz2.cell (i:=6) rfl,aJ (λhp4=>?_) (λhp4=>⟨_,_,_,hz2.cell (i:=5) rfl,aJ (λhp5=>?_) (λhp5=>⟨_,_,_,hz2.cell (i:=5) rfl,?_⟩)⟩)⟩)⟩)⟩
 ·rw [if_pos (by omega)];exact ⟨rfl,hn12⟩
 ·rw [if_pos (by omega)];exact ⟨rfl,hn12⟩
 ·rw [if_neg (by omega)]
  rintro w3 hw3
  have hn3:New w2 w3:=by rw [hw3];exact aV _
  clear hw3
  have hz3:=New.blk hn3 hz2
  refine ⟨λy=>New w3 y,Keep.refl _ _,aH.mk_ex r ⟨λy hy=>aK (New.blk hy hz3) rfl,_,λy hy=>(New.blk hy hz3).cell (i:=2) rfl,?_⟩⟩
  refine aE (yr w3 r) ?_
  rintro x w4 ⟨rfl,hn4⟩
  refine aS.mk_ex ⟨r.Seq,r.Writes,r.Writes_l,r.Writes_c⟩ ⟨rfl,hn4,?_⟩
  refine aE (vq (r:=⟨r.Seq,r.Writes,r.Writes_l,r.Writes_c⟩) (h.pg.new (hn12.new (hn3.new hn4))) r.Lines) ?_
  rintro x u ⟨rfl,hn5⟩
  have hnu:=hn12.new (hn3.new (hn4.new hn5))
  have hzu:=New.blk (hn4.new hn5) hz3
  rw [←hsq,←hli]
  refine ⟨_,rfl,hn4.new hn5,cR (λhr=>?_) (λhr=>⟨_,_,_,hzu.cell (i:=5) rfl,aJ (λhp5=>?_) (λhp5=>⟨_,_,_,hzu.cell (i:=5) rfl,?_⟩)⟩)⟩
  ·rw [if_pos ⟨by omega,hr⟩]
   exact ⟨rfl,hnu⟩
  ·rw [if_neg (λe=>e.2 hr),if_pos (by omega)]
   exact ⟨rfl,hnu⟩
  ·rw [if_neg (λe=>e.2 hr),if_neg (by omega),hli]
   exact D0 h hzu hnu _ λw' hw=>⟨rfl,hw⟩
 ·rw [if_neg (by omega),if_neg (by omega),if_pos (by omega)];exact ⟨rfl,hn12⟩
 ·rw [if_neg (by omega),if_neg (by omega),if_neg (by omega)]
  exact D0 h hz2 hn12 _ λw' hw=>⟨rfl,hw⟩
end Go.Proofs.YtegepanmkjemjaaGreat
namespace Go.Proofs.YtegepanmkjemjaaGreat
open Go.Proofs.Tryz
open Go.Eng IntKind
variable (w:World) (R:Value→World→Prop)
def jP (s3:Option Addr) (a b:Nat) (c:Option Addr) (d f:Nat) (g h:Int) (j:LV):LV:=[jg j 0,jg j 1,jg j 2,(.slice s3 a b),jg j 3,jg j 4,jg j 5,jg j 6,jg j 7,jg j 8,(.slice c d f),(.int .i64 g),(.int .i64 h),jg j 9,jg j 10,jg j 11,jg j 12,jg j 13,jg j 14,jg j 15,jg j 16,jg j 17,jg j 18,jg j 19,jg j 20,jg j 21,jg j 22,jg j 23,jg j 24]
def pw (s3:Option Addr) (a b:Nat) (j:LV):LV:=jq j 0 3 (.slice s3 a b::jq j 3 25 [])
def jQ (s3:Option Addr) (a b:Nat) (s5:Int) (c:Option Addr) (d f:Nat) (g h i:Int) (j:LV):LV:=jq j 0 3 (.slice s3 a b::jq j 3 1 (.int .u64 s5::jq j 4 4 (.slice c d f::.int .i64 g::.int .i64 h::jq j 8 3 (.int .i64 i::jq j 11 12 []))))
def px (s3:Option Addr) (a b:Nat) (c:Option Addr) (d f:Nat) (g h:Int) (j:LV):LV:=jq j 0 3 (.slice s3 a b::jq j 3 6 (.slice c d f::.int .i64 g::.int .i64 h::jq j 9 16 []))
theorem wz (p0:Option Addr) (a b:Nat):fnW prog f200 [.slice p0 a b] R w=(mk3 0 (i64.wrap (8 * (a:Nat))) 1 (.cells (reps (Int.toNat (i64.wrap (8 * (a:Nat)))) [.int .u8 0]).toArray 5) w λb1 w1=>bS prog (.loop (sub (aD f200) [1,1,0,1,0,0])) (jP (some ⟨b1,0,none⟩) (Int.toNat 0) (Int.toNat (i64.wrap (8 * (a:Nat)))) p0 a b (a:Nat) 0 (js p0 a b::undef::ju 0::uq 2 (js p0 a b::jn a::ji (i64.wrap (8 * (a:Nat)))::js (some ⟨b1,0,none⟩) (Int.toNat 0) (Int.toNat (i64.wrap (8 * (a:Nat))))::uq 16 []))) (aI 0 (nx f200 [1,1,1] R)) w1):=by kernel_rfl
theorem o0 (s3:Option Addr) (a b:Nat) (c:Option Addr) (d f:Nat) (g h:Int) (j:LV) (N1:LV→World→Prop):W prog (sub (aD f200) [1,1,0,1,0,0]) (jP s3 a b c d f g h j) (seqQ N1 (aI 0 (nx f200 [1,1,1] R))) w=((bif (decide ((h:Int)<g)) then (idxS c d h 1 λad=>∃ x,w.cell? ad=some (.int .u64 x)∧bS prog (.loop (sub (aD f200) [1,1,0,1,0,0,1,1,0,0,1,1,0,0])) (jQ s3 a b x c d f g h 0 (jq j 0 4 (jq j 5 4 (jb (decide ((h:Int)<g))::jp ad::ju x::jq j 13 12 [])))) (aI 2 (aI 1 (seqQ (λenv w=>W prog (sub (aD f200) [1,1,0,1,0,0,1,1,1]) env (seqQ N1 (aI 0 (nx f200 [1,1,1] R))) w) (seqQ N1 (aI 0 (nx f200 [1,1,1] R)))))) w) else (W prog (sub (aD f200) [1,1,1]) (pw s3 a b (jq j 0 9 (js c d f::ji g::ji h::jb (decide ((h:Int)<g))::jq j 10 15 []))) (retQ prog f200 R) w))):=by kernel_rfl
theorem rq (s3:Option Addr) (a b:Nat) (j:LV):W prog (sub (aD f200) [1,1,1]) (pw s3 a b j) (retQ prog f200 R) w=(Calls prog 207 #[.slice s3 a b] w λe w1=>∃ c,e=.returned (.int .u64 c)∧R (.int .u64 c) w1):=by kernel_rfl
theorem o3 (s3:Option Addr) (a b:Nat) (s5:Int) (c:Option Addr) (d f:Nat) (g h i:Int) (j:LV) (N1:LV→World→Prop) (N2:LV→World→Prop):W prog (sub (aD f200) [1,1,0,1,0,0,1,1,0,0,1,1,0,0]) (jQ s3 a b s5 c d f g h i j) (seqQ N2 (aI 2 (aI 1 (seqQ (λenv w=>W prog (sub (aD f200) [1,1,0,1,0,0,1,1,1]) env (seqQ N1 (aI 0 (nx f200 [1,1,1] R))) w) (seqQ N1 (aI 0 (nx f200 [1,1,1] R))))))) w=((bif (decide ((i:Int)<8)) then (∀ b1 w1,b1=w.heap.size→w1=w.alloc (.cells #[.int .u8 (IntKind.u8.wrap s5)] 5)→∃ ap k l,∃ w2,(Builtin.append_ #[290,290] 290 #[.slice s3 a b,.slice (some ⟨b1,0,none⟩) 1 1]).run prog w1=.ok (.slice ap k l) w2∧N2 (jQ ap k l (bshr .u64 s5 8) c d f g h (i64.wrap (i+1)) (jq j 0 11 [jb (decide ((i:Int)<8)),js s3 a b,ju s5,.int .u8 (IntKind.u8.wrap s5),js (some ⟨b1,0,none⟩) 1 1,js ap k l,ju s5,ju (bshr .u64 s5 8),ji (i64.wrap (i+1)),jg j 20,jg j 21,jg j 22])) w2) else (W prog (sub (aD f200) [1,1,0,1,0,0,1,1,1]) (px s3 a b c d f g h (jq j 0 4 (ju s5::jq j 4 7 (ji i::jb (decide ((i:Int)<8))::jq j 12 11 [])))) (seqQ N1 (aI 0 (nx f200 [1,1,1] R))) w))):=by kernel_rfl
theorem rr (s3:Option Addr) (a b:Nat) (c:Option Addr) (d f:Nat) (g h:Int) (j:LV) (N1:LV→World→Prop):W prog (sub (aD f200) [1,1,0,1,0,0,1,1,1]) (px s3 a b c d f g h j) (seqQ N1 (aI 0 (nx f200 [1,1,1] R))) w=(N1 (jP s3 a b c d f g (i64.wrap (h+1)) (jq j 0 22 [ji (i64.wrap (h+1)),jg j 23,jg j 24])) w):=by kernel_rfl
theorem wA (p0:Option Addr) (a b:Nat):fnW prog f207 [.slice p0 a b] R w=(Calls prog 208 #[.int .u64 0,.slice p0 a b] w λe w1=>∃ c,e=.returned (.int .u64 c)∧R (.int .u64 c) w1):=by kernel_rfl
theorem vr (p0:Int) (p1:Option Addr) (a b:Nat):fnW prog f208 [.int .u64 p0,.slice p1 a b] R w=(Calls prog 209 #[] w λe w1=>bX.ex λd=>e=.returned d.val∧∀ b1 w2,b1=w1.heap.size→w2=w1.alloc (.cells (List.replicate 256 (.int .u64 0)).toArray 302)→wrAt w2 ⟨b1,0,none⟩ 0 d.cells∧∀ w3,w3=puts w2 ⟨b1,0,none⟩ 0 d.cells→Calls prog 210 #[.int .u64 (bxor .u64 18446744073709551615 p0),.pointer (some ⟨b1,0,none⟩),.slice p1 a b] w3 λe w4=>∃ c,e=.returned (.int .u64 c)∧R (.int .u64 (bxor .u64 18446744073709551615 c)) w4):=by kernel_rfl
def jR (s0:Addr) (s3:Int) (j:LV):LV:=.pointer (some s0)::jq j 0 2 (.int .i64 s3::jq j 2 20 [])
def py (a:Addr) (j:LV):LV:=.pointer (some a)::jq j 0 23 []
def g9 (s0:Addr) (s1 s2 s3 s8:Int) (j:LV):LV:=.pointer (some s0)::.int .i64 s1::.int .u64 s2::.int .i64 s3::jq j 0 4 (.int .i64 s8::jq j 4 15 [])
def pz (a:Addr) (s1 s2 s3:Int) (j:LV):LV:=.pointer (some a)::.int .i64 s1::.int .u64 s2::.int .i64 s3::jq j 0 20 []
theorem wB  : fnW prog f209 [] R w=(∀ b1 w1,b1=w.heap.size→w1=w.alloc (.cells (List.replicate 256 (.int .u64 0)).toArray 302)→bS prog (.loop (sub (aD f209) [1,0,1,0,0])) (jR ⟨b1,0,none⟩ 0 (uq 22 [])) (aI 0 (nx f209 [1,1] R)) w1):=by kernel_rfl
theorem o7 (s0:Addr) (s3:Int) (j:LV) (N1:LV→World→Prop):W prog (sub (aD f209) [1,0,1,0,0]) (jR s0 s3 j) (seqQ N1 (aI 0 (nx f209 [1,1] R))) w=((bif (decide ((s3:Int)<256)) then (bS prog (.loop (sub (aD f209) [1,0,1,0,0,1,1,0,0,1,1,0,1,0,0])) (g9 s0 s3 (u64.wrap s3) s3 0 (jb (decide ((s3:Int)<256))::ji s3::ji s3::ju (u64.wrap s3)::jq j 7 15 [])) (aI 2 (seqQ (λenv w=>W prog (sub (aD f209) [1,0,1,0,0,1,1,0,0,1,1,1]) env (aI 1 (seqQ (λenv w=>W prog (sub (aD f209) [1,0,1,0,0,1,1,1]) env (seqQ N1 (aI 0 (nx f209 [1,1] R))) w) (seqQ N1 (aI 0 (nx f209 [1,1] R))))) w) (aI 1 (seqQ (λenv w=>W prog (sub (aD f209) [1,0,1,0,0,1,1,1]) env (seqQ N1 (aI 0 (nx f209 [1,1] R))) w) (seqQ N1 (aI 0 (nx f209 [1,1] R))))))) w) else (W prog (sub (aD f209) [1,1]) (py s0 (jg j 0::jg j 1::ji s3::jb (decide ((s3:Int)<256))::jq j 3 19 [])) (retQ prog f209 R) w))):=by kernel_rfl
theorem rt (a:Addr) (j:LV):W prog (sub (aD f209) [1,1]) (py a j) (retQ prog f209 R) w=(bX.ex λr=>aG w a 0 r.cells∧wrAt w a 0 r.cells∧∀ w1,w1=puts w a 0 r.cells→bX.ex λb=>aG w1 a 0 b.cells∧w1=w1∧R b.val w1):=by kernel_rfl
theorem pd (s0:Addr) (s1 s2 s3 s8:Int) (j:LV) (N1:LV→World→Prop) (N2:LV→World→Prop):W prog (sub (aD f209) [1,0,1,0,0,1,1,0,0,1,1,0,1,0,0]) (g9 s0 s1 s2 s3 s8 j) (seqQ N2 (aI 2 (seqQ (λenv w=>W prog (sub (aD f209) [1,0,1,0,0,1,1,0,0,1,1,1]) env (aI 1 (seqQ (λenv w=>W prog (sub (aD f209) [1,0,1,0,0,1,1,1]) env (seqQ N1 (aI 0 (nx f209 [1,1] R))) w) (seqQ N1 (aI 0 (nx f209 [1,1] R))))) w) (aI 1 (seqQ (λenv w=>W prog (sub (aD f209) [1,0,1,0,0,1,1,1]) env (seqQ N1 (aI 0 (nx f209 [1,1] R))) w) (seqQ N1 (aI 0 (nx f209 [1,1] R)))))))) w=((bif (decide ((s8:Int)<8)) then ((bif (((band .u64 s2 1):Int) == 1) then (N2 (g9 s0 s1 (bxor .u64 (bshr .u64 s2 1) 14514072000185962306) s3 (i64.wrap (s8+1)) (jq j 0 4 (jb (decide ((s8:Int)<8))::ju s2::ju (band .u64 s2 1)::jb (((band .u64 s2 1):Int) == 1)::ju s2::ju (bshr .u64 s2 1)::ju (bxor .u64 (bshr .u64 s2 1) 14514072000185962306)::jg j 11::jg j 12::ji (i64.wrap (s8+1))::jq j 14 5 []))) w) else (N2 (g9 s0 s1 (bshr .u64 s2 1) s3 (i64.wrap (s8+1)) (jq j 0 4 (jb (decide ((s8:Int)<8))::ju s2::ju (band .u64 s2 1)::jb (((band .u64 s2 1):Int) == 1)::jg j 8::jg j 9::jg j 10::ju s2::ju (bshr .u64 s2 1)::ji (i64.wrap (s8+1))::jq j 14 5 []))) w))) else (W prog (sub (aD f209) [1,0,1,0,0,1,1,0,0,1,1,1]) (pz s0 s1 s2 s3 (jq j 0 4 (ji s8::jb (decide ((s8:Int)<8))::jq j 5 14 []))) (aI 1 (seqQ (λenv w=>W prog (sub (aD f209) [1,0,1,0,0,1,1,1]) env (seqQ N1 (aI 0 (nx f209 [1,1] R))) w) (seqQ N1 (aI 0 (nx f209 [1,1] R))))) w))):=by kernel_rfl
theorem ru (a:Addr) (s1 s2 s3:Int) (j:LV) (N1:LV→World→Prop):W prog (sub (aD f209) [1,0,1,0,0,1,1,0,0,1,1,1]) (pz a s1 s2 s3 j) (aI 1 (seqQ (λenv w=>W prog (sub (aD f209) [1,0,1,0,0,1,1,1]) env (seqQ N1 (aI 0 (nx f209 [1,1] R))) w) (seqQ N1 (aI 0 (nx f209 [1,1] R))))) w=(idxA a 256 s1 1 λad=>(∃ u,w.cell? ad=some u)∧w.frozen? ad=false∧∀ w1,w1=w.setCell ad (.int .u64 s2)→N1 (jR a (i64.wrap (s3+1)) (ji s1::ju s2::jq j 0 15 [ji s1,ju s2,jp ad,ji (i64.wrap (s3+1)),jg j 19])) w1):=by kernel_rfl
def lG (s0:Int) (s1:Addr) (s9:Option Addr) (a b:Nat) (c d:Int) (j:LV):LV:=.int .u64 s0::.pointer (some s1)::jq j 0 7 (.slice s9 a b::.int .i64 c::.int .i64 d::jq j 7 16 [])
def rT (s0:Int) (j:LV):LV:=.int .u64 s0::jq j 0 27 []
theorem zz (p0:Int) (p1:Nat) (p2:Option Addr) (a b:Nat):fnW prog f210 [.int .u64 p0,.pointer (some ⟨p1,0,none⟩),.slice p2 a b] R w=(bS prog (.loop (sub (aD f210) [1,0,1,0,0])) (lG p0 ⟨p1,0,none⟩ p2 a b (a:Nat) 0 (js p2 a b::uq 3 (ju 0::uq 18 []))) (aI 0 (nx f210 [1,1] R)) w):=by kernel_rfl
theorem qJ (s0:Int) (s1:Addr) (s9:Option Addr) (a b:Nat) (c d:Int) (j:LV) (N1:LV→World→Prop):W prog (sub (aD f210) [1,0,1,0,0]) (lG s0 s1 s9 a b c d j) (seqQ N1 (aI 0 (nx f210 [1,1] R))) w=((bif (decide ((d:Int)<c)) then (idxS s9 a d 1 λad=>∃ x,w.cell? ad=some (.int .u8 x)∧idxA s1 256 (bxor .u8 (IntKind.u8.wrap s0) x) 1 λf=>∃ x1,w.cell? f=some (.int .u64 x1)∧N1 (lG (bxor .u64 (bshr .u64 s0 8) x1) s1 s9 a b c (i64.wrap (d+1)) (jq j 0 6 [.int .u8 x,jb (decide ((d:Int)<c)),jp ad,.int .u8 x,ju s0,ju (bshr .u64 s0 8),jp s1,ju s0,.int .u8 (IntKind.u8.wrap s0),.int .u8 x,.int .u8 (bxor .u8 (IntKind.u8.wrap s0) x),jp s1,jp f,ju x1,ju (bxor .u64 (bshr .u64 s0 8) x1),ji (i64.wrap (d+1)),jg j 22])) w) else (W prog (sub (aD f210) [1,1]) (rT s0 (jp s1::jq j 0 7 (js s9 a b::ji c::ji d::jb (decide ((d:Int)<c))::jq j 8 15 []))) (retQ prog f210 R) w))):=by kernel_rfl
theorem tm (s0:Int) (j:LV):W prog (sub (aD f210) [1,1]) (rT s0 j) (retQ prog f210 R) w=(R (.int .u64 s0) w):=by kernel_rfl
end Go.Proofs.YtegepanmkjemjaaGreat
namespace Go.Proofs.YtegepanmkjemjaaGreat
open Go.Eng
def Ez (r:Int):Int:=if band .u64 r 1=1 then bxor .u64 (bshr .u64 r 1) 14514072000185962306 else bshr .u64 r 1
def wC:Nat→Int→Int
 | 0,r=>r
 |n+1,r=>Ez (wC n r)
def yt (i:Nat):Int:=wC 8 i
def ej:List Int:=(List.range 256).map yt
def tabL (i:Nat):List Int:=(List.range i).map yt++List.replicate (256 - i) 0
theorem CM {i:Nat} (h:i≤256):(tabL i).length=256:=by simp [tabL];omega
theorem CN {i:Nat} (h:i<256):(tabL i).set i (yt i)=tabL (i+1):=by
 unfold tabL
 rw [List.range_succ,List.map_append,List.set_append]
 simp only [List.length_map,List.length_range,Nat.lt_irrefl,if_false,Nat.sub_self]
 obtain ⟨m,hm⟩:∃ m,256 - i=m+1:=⟨255 - i,by omega⟩
 have e:256 - (i+1)=m:=by omega
 rw [hm,e,List.replicate_succ,List.set_cons_zero]
 simp
theorem CO:tabL 256=ej:=by simp [tabL,ej]
theorem EA (n:Nat):us (List.replicate n 0)=List.replicate n (.int .u64 0):=by simp [us]
theorem EB (l:List Int) (i:Nat) (x:Int):(us l).set i (.int .u64 x)=us (l.set i x):=by simp [us]
theorem wD (l:List Int):bX.cells ⟨l⟩=us l:=rfl
abbrev TTb:TypeId:=302
set_option maxRecDepth 20000 in
theorem zB (w:World):Does 209 [] w λv w'=>v=bX.val ⟨ej⟩∧New w w':=by
 refine does Tryz.func209 ?_
 rw [wB]
 rintro b1 w1 hb1 hw1
 obtain ⟨hz1,hn1⟩:=aN hb1 hw1
 have hz1:Blk w1 b1 (us (tabL 0)) TTb:=by
  have e:us (tabL 0)=List.replicate 256 (.int .u64 0):=EA 256
  rw [e]
  exact hz1
 clear hw1
 refine aQ mix (λm env u=>∃ (i:Nat) (jj:List Value),m=256 - i∧i≤256∧env=jR ⟨b1,0,none⟩ i jj∧New w u∧Blk u b1 (us (tabL i)) TTb) 256 ⟨0,_,rfl,by omega,rfl,hn1,hz1⟩ ?_
 rintro m env u ⟨i,jj,rfl,hi,rfl,hnu,hzu⟩
 rw [o7]
 refine aJ (λhlt=>?_) (λhge=>?_)
 ·rw [wu64 (x:=(i:Int)) (by omega) (by omega)]
  refine aQ mix (λm2 env2 y=>∃ (k:Nat) (jj:List Value),m2=8 - k∧k≤8∧env2=g9 ⟨b1,0,none⟩ i (wC k i) i k jj∧y=u) 8 ⟨0,_,rfl,by omega,rfl,rfl⟩ ?_
  rintro m2 env2 y ⟨k,jj2,rfl,hk,rfl,rfl⟩
  rw [pd,w64 (x:=(k:Int)+1) (by omega) (by omega)]
  refine aJ (λhk8=>?_) (λhk8=>?_)
  ·refine bH (λh1=>?_) (λh1=>?_)
   ·have e:wC (k+1) i=bxor .u64 (bshr .u64 (wC k i) 1) 14514072000185962306:=if_pos h1
    rw [←e]
    exact ⟨8 - (k+1),by omega,k+1,_,rfl,by omega,rfl,rfl⟩
   ·have e:wC (k+1) i=bshr .u64 (wC k i) 1:=if_neg h1
    rw [←e]
    exact ⟨8 - (k+1),by omega,k+1,_,rfl,by omega,rfl,rfl⟩
  ·have hk8:k=8:=by omega
   subst hk8
   rw [ru,w64 (x:=(i:Int)+1) (by omega) (by omega)]
   refine sN (by omega) (by omega) ?_
   have e2:0+(i:Int).toNat * 1=i:=by omega
   rw [e2]
   refine rN hzu (o:=i) (by rw [lz,CM hi];omega) λw2 hz2 hk2=>?_
   rw [EB,show wC 8 (i:Int)=yt i from rfl,CN (by omega)] at hz2
   have hs:=hn1.size
   exact ⟨256 - (i+1),by omega,i+1,_,rfl,by omega,rfl,hnu.trans hk2 λk hlt e=>by omega,hz2⟩
 ·have hi2:i=256:=by omega
  subst hi2
  rw [rt]
  rw [CO] at hzu
  have hl:ej.length=256:=by simp [ej]
  refine bX.mk_ex ⟨ej⟩ hl ⟨aK hzu (by rw [wD];exact List.take_of_length_le (Nat.le_refl _)),?_⟩
  refine gJ (vs:=us ej) hzu rfl (kM _) λw2 hz2 hk2=>?_
  exact bX.mk_ex ⟨ej⟩ hl ⟨aK hz2 (by rw [wD];exact List.take_of_length_le (Nat.le_refl _)),rfl,rfl,hnu.trans hk2 λk hlt e=>by have:=hn1.size;omega⟩
def pA (r x:Int):Int:=bxor .u64 (bshr .u64 r 8) (ej.getD (bxor .u8 (IntKind.u8.wrap r) x).toNat 0)
theorem GV (x:Int):0≤IntKind.u8.wrap x∧IntKind.u8.wrap x<256:=by
 simp only [IntKind.wrap,IntKind.bits,IntKind.signed]
 simp
 omega
def bys (l:List Int):List Value:=l.map (Value.int .u8)
theorem EC {l:List Int} {i:Nat} {x:Int} (h:l[i]?=some x):(bys l)[i]?=some (.int .u8 x):=by simp [bys,h]
theorem zC {f:Int→Int→Int} {l:List Int} {i:Nat} {x r:Int} (h:l[i]?=some x):(l.take (i+1)).foldl f r=f ((l.take i).foldl f r) x:=by
 rw [List.take_add_one,h,List.foldl_append]
 rfl
theorem CP {w:World} (r:Int) {tb:Nat} (ht:Blk w tb (us ej) TTb) {a:Option Addr} {n c:Nat} {l:List Int} (hr:Rd w a (bys l)) (hn:n=l.length) (hf:n≤1000000) :
  Does 210 [.int .u64 r,.pointer (some ⟨tb,0,none⟩),.slice a n c] w λv w'=>v=.int .u64 (l.foldl pA r)∧w'=w:=by
 subst hn
 refine does Tryz.func210 ?_
 rw [zz]
 refine aQ mix (λm env u=>∃ (i:Nat) (jj:List Value),m=l.length - i∧i≤l.length∧env=lG ((l.take i).foldl pA r) ⟨tb,0,none⟩ a l.length c l.length i jj∧u=w) l.length ⟨0,_,rfl,by omega,rfl,rfl⟩ ?_
 rintro m env u ⟨i,jj,rfl,hi,rfl,rfl⟩
 rw [qJ]
 refine aJ (λhlt=>?_) (λhge=>?_)
 ·obtain ⟨x,hx⟩:∃ x,l[i]?=some x:=⟨_,List.getElem?_eq_getElem (by omega)⟩
  rcases hr with he | ⟨b,o,rfl,hc⟩
  ·have h0:l.length=0:=by
    have:=congrArg List.length he
    rwa [bys,List.length_map] at this
   omega
  refine bB (by omega) (by omega) ⟨x,by simpa using hc i _ (EC hx),?_⟩
  have hin:0≤bxor .u8 (IntKind.u8.wrap ((l.take i).foldl pA r)) x∧bxor .u8 (IntKind.u8.wrap ((l.take i).foldl pA r)) x<256:=GV _
  have hl:ej.length=256:=by simp [ej]
  refine sN hin.1 hin.2 ?_
  generalize hq:bxor .u8 (IntKind.u8.wrap ((l.take i).foldl pA r)) x=q at hin ⊢
  obtain ⟨y,hy⟩:∃ y,ej[q.toNat]?=some y:=⟨_,List.getElem?_eq_getElem (by omega)⟩
  refine ⟨y,by rw [Nat.mul_one];exact Blk.cell ht (by simpa using vQ hy),?_⟩
  rw [w64 (x:=(i:Int)+1) (by omega) (by omega)]
  have e:(l.take (i+1)).foldl pA r=bxor .u64 (bshr .u64 ((l.take i).foldl pA r) 8) y:=by
   rw [zC hx]
   generalize (l.take i).foldl pA r=z at hq
   show bxor .u64 (bshr .u64 z 8) (ej.getD (bxor .u8 (IntKind.u8.wrap z) x).toNat 0)=_
   rw [hq,List.getD_eq_getElem?_getD,hy]
   rfl
  rw [←e]
  exact ⟨l.length - (i+1),by omega,i+1,_,rfl,by omega,rfl,rfl⟩
 ·have hil:i=l.length:=by omega
  subst hil
  rw [tm,List.take_length]
  exact ⟨rfl,rfl⟩
def yu (r:Int) (l:List Int):Int:=bxor .u64 18446744073709551615 (l.foldl pA (bxor .u64 18446744073709551615 r))
theorem xT {w:World} (r:Int) {a:Option Addr} {n c:Nat} {l:List Int} (hr:Rd w a (bys l)) (hn:n=l.length) (hf:n≤1000000) :
  Does 208 [.int .u64 r,.slice a n c] w λv w'=>v=.int .u64 (yu r l)∧New w w':=by
 refine does Tryz.func208 ?_
 rw [vr]
 refine aE (zB w) ?_
 rintro v w1 ⟨rfl,hn1⟩
 have hl:ej.length=256:=by simp [ej]
 refine bX.mk_ex ⟨ej⟩ hl ⟨rfl,?_⟩
 refine gX (zs:=List.replicate 256 (.int .u64 0)) (vs:=us ej) (by rw [lz,List.length_replicate];exact hl) (kM _) λb w3 hb hz hn3=>?_
 refine aE (CP _ hz (hr.new (hn1.new hn3)) hn hf) ?_
 rintro v w4 ⟨rfl,rfl⟩
 exact ⟨_,rfl,rfl,hn1.new hn3⟩
theorem zD {w:World} {a:Option Addr} {n c:Nat} {l:List Int} (hr:Rd w a (bys l)) (hn:n=l.length) (hf:n≤1000000) :
  Does 207 [.slice a n c] w λv w'=>v=.int .u64 (yu 0 l)∧New w w':=by
 refine does Tryz.func207 ?_
 rw [wA]
 refine aE (xT 0 hr hn hf) ?_
 rintro v w1 ⟨rfl,hn1⟩
 exact ⟨_,rfl,rfl,hn1⟩
def shr8:Nat→Int→Int
 | 0,x=>x
 |k+1,x=>bshr .u64 (shr8 k x) 8
def wby (x:Int):List Int:=(List.range 8).map λk=>IntKind.u8.wrap (shr8 k x)
theorem ED (x:Int):(wby x).length=8:=by unfold wby;rw [List.length_map,List.length_range]
def wE (ws:List Int):List Int:=(ws.map wby).flatten
def crcW (ws:List Int):Int:=yu 0 (wE ws)
theorem A5 (ws:List Int):(wE ws).length=8 * ws.length:=by
 induction ws with
 |nil=>rfl
 |cons x ws ih=>
  have:wE (x::ws)=wby x++wE ws:=rfl
  rw [this,List.length_append,ih]
  simp [wby]
  omega
theorem CQ (ws:List Int):U64 (crcW ws):=by
 unfold crcW yu U64
 generalize (List.foldl pA _ _)=z
 simp only [bxor,IntKind.wrap,IntKind.bits,IntKind.signed]
 simp
 omega
abbrev TBy:TypeId:=5
def tkB (ws:List Int) (i k:Nat):List Int:=wE (ws.take i)++((wby (ws.getD i 0)).take k)
theorem zE {w:World} {a:Option Addr} {n c:Nat} {ws:List Int} (hr:Rd w a (us ws)) (hn:n=ws.length) (hf:n≤10000) :
  Does 200 [.slice a n c] w λv w'=>v=.int .u64 (crcW ws)∧New w w':=by
 subst hn
 refine does Tryz.func200 ?_
 rw [wz,w64 (x:=8 * (ws.length:Int)) (by omega) (by omega)]
 refine ⟨by omega,by omega,by omega,by omega,?_⟩
 rintro b1 w1 hb1 hw1
 obtain ⟨hz1,hn1⟩:=aN hb1 hw1
 clear hw1
 obtain ⟨inf,hinf,hzz,hsz,hby⟩:=j8 (T:=TBy) (z:=.int .u8 0) (n:=1) (m:=1) (by kernel_rfl)
 have e8:Int.toNat (8 * (ws.length:Int))=8 * ws.length:=by omega
 have hown:Owns w1 TBy 1 (some ⟨b1,0,none⟩) 0 (8 * ws.length) (bys []):=by
  refine ⟨rfl,.inr ⟨b1,_,rfl,hz1,by omega,by unfold maxLen;omega,?_,by simp [bys]⟩⟩
  rw [e8]
  simp [reps]
 refine aQ mix (λm env u=>∃ (i:Nat) (pa:Option Addr) (pc:Nat) (jj:List Value),m=ws.length - i∧i≤ws.length∧env=jP pa (8 * i) pc a ws.length c ws.length i jj∧New w u∧Owns u TBy 1 pa (8 * i) pc (bys (wE (ws.take i)))∧∀ k,isB pa k→w.heap.size≤k) ws.length
  ⟨0,some ⟨b1,0,none⟩,8 * ws.length,_,rfl,by omega,by rw [e8];rfl,hn1,hown,λk hk=>?_⟩ ?_
 ·obtain ⟨o,ho⟩:=hk
  simp at ho <;> omega
 rintro m env u ⟨i,pa,pc,jj,rfl,hi,rfl,hnu,ho,hpf⟩
 rw [o0]
 refine aJ (λhlt=>?_) (λhge=>?_)
 ·obtain ⟨x,hx⟩:∃ x,ws[i]?=some x:=⟨_,List.getElem?_eq_getElem (by omega)⟩
  have hxd:ws.getD i 0=x:=by rw [List.getD_eq_getElem?_getD,hx];rfl
  have hru:=hr.new hnu
  rcases hru with he | ⟨b,o,rfl,hc⟩
  ·have h0:ws.length=0:=by
    have:=congrArg List.length he
    rwa [us,List.length_map] at this
   omega
  refine bB (by omega) (by omega) ⟨x,by simpa using hc i _ (vQ hx),?_⟩
  refine aQ mix (λm2 env2 y=>∃ (k:Nat) (pa:Option Addr) (pc:Nat) (jj:List Value),m2=8 - k∧k≤8∧env2=jQ pa (8 * i+k) pc (shr8 k x) (some ⟨b,o,none⟩) ws.length c ws.length i k jj∧New w y∧Owns y TBy 1 pa (8 * i+k) pc (bys (tkB ws i k))∧∀ k,isB pa k→w.heap.size≤k) 8
   ⟨0,pa,pc,_,rfl,by omega,rfl,hnu,by simpa [tkB] using ho,hpf⟩ ?_
  rintro m2 env2 y ⟨k,qa,qc,jj2,rfl,hk,rfl,hny,hoy,hqf⟩
  rw [o3]
  refine aJ (λhk8=>?_) (λhk8=>?_)
  ·have hoy':Owns y TBy inf.size qa (8 * i+k) qc (bys (tkB ws i k)):=by rw [hsz];exact hoy
   refine push_k (vs:=[.int .u8 (IntKind.u8.wrap (shr8 k x))]) Tryz.underlying290 hinf hzz (by rw [hsz];rfl) (by omega) hoy' (by rw [hsz];rfl) (by intro v hv;simp at hv;subst hv;rfl) (by omega) (by omega) ?_
   intro b3 ap cap' w3 hb3 h1 hk3 hap
   rw [hsz] at h1
   rw [w64 (x:=(k:Int)+1) (by omega) (by omega)]
   refine ⟨8 - (k+1),by omega,k+1,ap,cap',_,rfl,by omega,rfl,qd hny hk3 hqf,?_,?_⟩
   ·have e:bys (tkB ws i k)++[Value.int .u8 (IntKind.u8.wrap (shr8 k x))]=bys (tkB ws i (k+1)):=by
     unfold tkB
     rw [hxd,List.take_add_one,show (wby x)[k]?=some (IntKind.u8.wrap (shr8 k x)) by simp [wby,List.getElem?_range (show k<8 by omega)]]
     simp [bys]
    rw [←e]
    exact h1
   ·intro q hq
    rcases hap q hq with e | e
    ·exact hqf q e
    ·have:=hny.size;omega
  ·have hk8:k=8:=by omega
   subst hk8
   rw [rr,w64 (x:=(i:Int)+1) (by omega) (by omega)]
   refine ⟨ws.length - (i+1),by omega,i+1,qa,qc,_,rfl,by omega,rfl,hny,?_,hqf⟩
   have e:tkB ws i 8=wE (ws.take (i+1)):=by
    have e1:ws.take (i+1)=ws.take i++[x]:=by rw [List.take_add_one,hx];rfl
    unfold tkB wE
    rw [hxd,e1,List.map_append,List.flatten_append,List.take_of_length_le (i:=8) (by rw [ED];omega)]
    simp
   rw [e] at hoy
   exact hoy
 ·have hil:i=ws.length:=by omega
  subst hil
  rw [rq]
  rw [List.take_length] at ho
  refine aE (zD ho.rd (A5 ws).symm (by omega)) ?_
  rintro v w5 ⟨rfl,hn5⟩
  exact ⟨_,rfl,rfl,hnu.new hn5⟩
end Go.Proofs.YtegepanmkjemjaaGreat
