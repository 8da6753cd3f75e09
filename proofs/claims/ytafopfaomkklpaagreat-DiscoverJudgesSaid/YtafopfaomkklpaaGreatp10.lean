/- This claim proves that the law DiscoverJudges returns true for every input: replies are judged as the reference judges them. -/
import Derived.Test.YtafopfaomkklpaaGreatp03
import Derived.Test.YtafopfaomkklpaaGreatp09
set_option linter.unusedVariables false
namespace Go.Proofs.YtafopfaomkklpaaGreat
open Go.Eng
def uu (n:Int):Int:=IntKind.u64.wrap (IntKind.i64.wrap (7 * n))
def D5 (m:aB):Int:=IntKind.u64.wrap (bor .i64 (bshl .i64 m.Boot 2) 1)
def Ak (m:aB):Int:=bif m.Full then bor .u64 (D5 m) 2 else D5 m
def rj:Int→List aB→Int
 |acc,[]=>acc
 |acc,m::l=>rj (bor .u64 acc (bshl .u64 (Ak m) (uu m.Node))) l
def Vw.value (v:Vw):Int×Int:=if v.valid 5≠0 then (0,v.valid 5) else (rj 549755813888 v.mem,0)
def iL (value:Int) (i:Nat):Int:=bshr .u64 value (uu i)
def pmem (value:Int) (i:Nat):List aB:=if band .u64 (iL value i) 1≠0 then [⟨i,IntKind.i64.wrap (band .u64 (bshr .u64 (iL value i) 2) 31),band .u64 (iL value i) 2 != 0⟩] else []
def ez (value:Int):Nat→List aB
 | 0=>[]
 |i+1=>ez value i++pmem value i
def fH (number value nodes:Int):Vw×Int:=
 if (Vw.value ⟨number,ez value 5⟩).2≠0∨(Vw.value ⟨number,ez value 5⟩).1≠value∨(Vw.valid ⟨number,ez value 5⟩ nodes)≠0 then (⟨0,[]⟩,14) else (⟨number,ez value 5⟩,0)
theorem sA (value:Int):∀ i,(ez value i).length≤i
 | 0=>Nat.le_refl _
 |i+1=>by
  have:=sA value i
  unfold ez pmem
  rw [List.length_append]
  split<;>simp<;>omega
theorem eR (n:Int):0≤uu n:=by unfold uu;show 0≤_ % (18446744073709551616:Int);omega
theorem oL:∀ (l:List aB) (acc:Int) (m:aB),rj acc (l++[m])=bor .u64 (rj acc l) (bshl .u64 (Ak m) (uu m.Node))
 | [],_,_=>rfl
 |x::l,acc,m=>by rw [List.cons_append,rj,rj,oL l]
set_option maxHeartbeats 1000000 in
theorem CV {M:Nat→Prop} {w:World} {r:aF} {v:Vw} (h:eO M w r v):Does 98 [r.val] w λx w'=>x=.tuple #[.int .u64 v.value.1,.int .i64 v.value.2]∧New w w':=by
 refine does Tryz.func98 ?_
 rw [wn]
 rintro b1 w1 hb1 hw1
 obtain ⟨hz,hn⟩:=aW hb1 hw1
 have hz:Blk w1 b1 r.cells TVw:=hz
 clear hw1
 have hlen:=h.len
 have hsm:=h.small
 refine aF.mk_ex r ⟨aN hz rfl,?_⟩
 refine aH (zr (h.new hn) 5) ?_
 rintro x w2 ⟨rfl,hn2⟩
 unfold Vw.value
 refine ⟨_,rfl,bD (λhv=>?_) (λhv=>?_)⟩
 ·rw [if_pos hv];exact ⟨rfl,hn.new hn2⟩
 rw [if_neg (λe=>e hv)]
 have hn02:=hn.new hn2
 refine ⟨_,_,_,(New.blk hn2 hz).cell (i:=1) rfl,?_⟩
 refine aS mix (λm env u=>∃ (i:Nat) (jj:List Value),m=v.mem.length - i∧i≤v.mem.length∧env=iK (rj 549755813888 (v.mem.take i)) r.Members r.Members_l r.Members_c r.Members_l i jj∧New w u) v.mem.length
  ⟨0,_,by omega,by omega,rfl,hn02⟩ ?_
 rintro m env u ⟨i,jj,rfl,hi,rfl,hnu⟩
 rw [qx]
 refine aE (λhq=>?_) (λhq=>?_)
 ·have hlt:i<v.mem.length:=by omega
  have hg:v.mem[i]?=some v.mem[i]:=List.getElem?_eq_getElem hlt
  have hst:v.mem.take (i+1)=v.mem.take i++[v.mem[i]]:=by rw [List.take_add_one,hg];rfl
  refine fG (cells:=aB.cells) aB.len (by omega) (h.rd.new hnu) hg rfl hlen λb o hc _=>aB.mk_ex v.mem[i] ⟨hc,?_⟩
  refine mg (vs:=v.mem[i].cells) rfl (aB.single _) λb2 u2 hb2 hz2 hn2=>?_
  refine ⟨_,hz2.cell (i:=1) rfl,_,hz2.cell (i:=2) rfl,iS (λhf=>⟨_,hz2.cell (i:=0) rfl,eR _,?_⟩) (λhf=>⟨_,hz2.cell (i:=0) rfl,eR _,?_⟩)⟩
  ·have e:bor .u64 (rj 549755813888 (v.mem.take i)) (bshl .u64 (bor .u64 (IntKind.u64.wrap (bor .i64 (bshl .i64 v.mem[i].Boot 2) 1)) 2) (IntKind.u64.wrap (IntKind.i64.wrap (7 * v.mem[i].Node))))=rj 549755813888 (v.mem.take (i+1)):=by
    rw [hst,oL,Ak,hf]
    rfl
   rw [e,w64 (x:=(i:Int)+1) (by omega) (by omega)]
   exact ⟨v.mem.length - (i+1),by omega,i+1,_,rfl,by omega,rfl,hnu.new hn2⟩
  ·have e:bor .u64 (rj 549755813888 (v.mem.take i)) (bshl .u64 (IntKind.u64.wrap (bor .i64 (bshl .i64 v.mem[i].Boot 2) 1)) (IntKind.u64.wrap (IntKind.i64.wrap (7 * v.mem[i].Node))))=rj 549755813888 (v.mem.take (i+1)):=by
    rw [hst,oL,Ak,hf]
    rfl
   rw [e,w64 (x:=(i:Int)+1) (by omega) (by omega)]
   exact ⟨v.mem.length - (i+1),by omega,i+1,_,rfl,by omega,rfl,hnu.new hn2⟩
 ·rw [sx,List.take_of_length_le (by omega)]
  exact ⟨rfl,hnu⟩
def uv (w w':World) (r:aF) (v:Vw):Prop:=eO (λk=>k<w.heap.size) w' r v
theorem D6 (w w':World):uv w w' ⟨0,none,0,0⟩ ⟨0,[]⟩:=⟨rfl,rfl,Nat.le_refl _,.inl rfl,.inl rfl,by simp⟩
set_option maxHeartbeats 2000000 in
theorem Ey (w:World) (number value nodes:Int):Does 48 [.int .i64 number,.int .u64 value,.int .i64 nodes] w λx w'=>∃ r,x=.tuple #[aF.val r,.int .i64 (fH number value nodes).2]∧uv w w' r (fH number value nodes).1∧New w w':=by
 refine does Tryz.func48 ?_
 rw [wm]
 rintro b1 w1 hb1 hw1
 obtain ⟨hz1,hn1⟩:=aW hb1 hw1
 have hz1:Blk w1 b1 (aF.cells ⟨0,none,0,0⟩) TVw:=hz1
 clear hw1
 refine mg (vs:=aF.cells ⟨number,none,0,0⟩) rfl (aF.single _) λb2 w3 hb2 hz3 hn3=>?_
 have hz13:=New.blk hn3 hz1
 have hn03:=hn1.new hn3
 have hs1:=hn1.size
 have hs1':=hz1.lt
 have hne:b1≠b2:=by omega
 have hb20:w.heap.size≤b2:=by omega
 obtain ⟨inf,hi,hz,hsz,hby⟩:=qj (T:=TMb) (z:=.agg #[.int .i64 0,.int .i64 0,.bool false]) (n:=3) (m:=24) (by kernel_rfl)
 refine aS mix (λm env u=>∃ (i:Nat) (ma:Option Addr) (mc:Nat) (jj:List Value),m=5 - i∧i≤5∧env=iG value nodes ⟨b1,0,none⟩ ⟨b2,0,none⟩ i jj∧New w u∧Blk u b1 (aF.cells ⟨0,none,0,0⟩) TVw∧Blk u b2 (aF.cells ⟨number,ma,(ez value i).length,mc⟩) TVw∧Owns u TMb 3 ma (ez value i).length mc (jL (ez value i)).flatten∧(∀ k,isB ma k→b2<k)) 5
  ⟨0,none,0,_,rfl,by omega,rfl,hn03,hz13,hz3,Owns.nil _ _ _,λk hk=>by obtain ⟨o,ho⟩:=hk;cases ho⟩ ?_
 rintro m env u ⟨i,ma,mc,jj,rfl,hi5,rfl,hnu,hu1,hu2,hown,hfr⟩
 have hpl:=sA value i
 rw [qv]
 refine aE (λhq=>?_) (λhq=>?_)
 ·have hi5:i<5:=by omega
  refine ⟨eR _,bD (λhb=>?_) (λhb=>?_)⟩
  ·have hpm:ez value (i+1)=ez value i++[⟨i,IntKind.i64.wrap (band .u64 (bshr .u64 (iL value i) 2) 31),band .u64 (iL value i) 2 != 0⟩]:=by
    show ez value i++pmem value i=_
    unfold pmem
    rw [if_pos (show band .u64 (iL value i) 1≠0 from hb)]
   refine ⟨_,_,_,hu2.cell (i:=1) rfl,?_⟩
   have hown':Owns u TMb inf.size ma (ez value i).length mc (jL (ez value i)).flatten:=by rw [hsz];exact hown
   refine Ba Tryz.underlying29 hi hz (by rw [hsz];rfl) (by omega) hown' (vs:=aB.cells ⟨i,IntKind.i64.wrap (band .u64 (bshr .u64 (iL value i) 2) 31),band .u64 (iL value i) 2 != 0⟩) (by rw [hsz];rfl) (aB.single _) (by omega) (by omega) ?_
   intro b3 ap cap u3 hb3 ho3 hk3 hap
   rw [hsz] at ho3
   have hu13:=hk3.blk hu1 λe=>by have:=hfr b1 e;omega
   have hu23:=hk3.blk hu2 λe=>by have:=hfr b2 e;omega
   have hus:=hu2.lt
   refine ⟨⟨_,hu23.cell (i:=1) rfl⟩,hu23.frozen,?_⟩
   rintro u4 rfl
   rw [w64 (by omega) (by omega)]
   have hk4:Keep (λk=>k=b2) u3 (u3.setCell ⟨b2,0+1,none⟩ (.slice ap ((ez value i).length+1) cap)):=aQ _ _ _ _
   have hfr3:∀ k,isB ap k→b2<k:=λk hk=>by
    rcases hap k hk with h1 | h1
    ·exact hfr k h1
    ·omega
   refine ⟨5 - (i+1),by omega,i+1,ap,cap,_,rfl,by omega,rfl,?_,hk4.blk hu13 (λe=>hne e),?_,?_,hfr3⟩
   ·have h1:New w u3:=uo hnu hk3 λk hk=>by have:=hfr k hk;omega
    exact h1.trans hk4 λk hlt e=>by omega
   ·rw [hpm,List.length_append]
    exact hu23.setCell (i:=1) _
   ·rw [hpm,tn,List.length_append]
    exact Owns.keep hk4 ho3 λk hk e=>by have:=hfr3 k hk;omega
  ·have hpm:ez value (i+1)=ez value i:=by
    show ez value i++pmem value i=_
    unfold pmem
    rw [if_neg (λe=>e (show band .u64 (iL value i) 1=0 from hb)),List.append_nil]
   rw [w64 (by omega) (by omega)]
   exact ⟨5 - (i+1),by omega,i+1,ma,mc,_,rfl,by omega,rfl,hnu,hu1,by rw [hpm];exact hu2,by rw [hpm];exact hown,hfr⟩
 ·have hi5':i=5:=by omega
  subst hi5'
  rw [sw]
  have hva:∀ z,New u z→eO (λk=>k<w.heap.size) z ⟨number,ma,(ez value 5).length,mc⟩ ⟨number,ez value 5⟩:=λz hz=>by
   refine ⟨rfl,rfl,hown.le,(Owns.new hz hown).rd,xj hown.rd λk hk e=>?_,by show (ez value 5).length≤_;omega⟩
   have:=hfr k hk
   omega
  refine aF.mk_ex ⟨number,ma,(ez value 5).length,mc⟩ ⟨aN hu2 rfl,?_⟩
  refine aH (CV (hva u (Keep.refl _ _))) ?_
  rintro x u3 ⟨rfl,hn3⟩
  have hbad:∀ z,New u z→fH number value nodes=(⟨0,[]⟩,14)→wrAt z ⟨b1,0,none⟩ 0 [.int .i64 0,.slice none 0 0]∧∀ z2,z2=puts z ⟨b1,0,none⟩ 0 [.int .i64 0,.slice none 0 0]→aF.ex λres=>aG z2 ⟨b1,0,none⟩ 0 res.cells∧z2=z2∧∃ r,(Value.tuple #[res.val,.int .i64 14])=.tuple #[aF.val r,.int .i64 (fH number value nodes).2]∧uv w z2 r (fH number value nodes).1∧New w z2:=by
   intro z hz he
   refine vd (vs:=aF.cells ⟨0,none,0,0⟩) (New.blk hz hu1) rfl (aF.single _) λz2 hb' hk'=>?_
   refine aF.mk_ex ⟨0,none,0,0⟩ ⟨aN hb' rfl,rfl,⟨0,none,0,0⟩,by rw [he],by rw [he];exact D6 _ _,(hnu.new hz).trans hk' λk hlt e=>by omega⟩
  refine ⟨_,_,rfl,bD (λhv=>?_) (λhv=>bD (λhv2=>?_) (λhv2=>?_))⟩
  ·exact hbad u3 hn3 (by unfold fH;rw [if_pos (.inl hv)])
  ·exact hbad u3 hn3 (by unfold fH;rw [if_pos (.inr (.inl hv2))])
  ·refine aF.mk_ex ⟨number,ma,(ez value 5).length,mc⟩ ⟨aN (New.blk hn3 hu2) rfl,?_⟩
   refine aH (zr (hva u3 hn3) nodes) ?_
   rintro x u4 ⟨rfl,hn4⟩
   have hn34:=hn3.new hn4
   refine ⟨_,rfl,bD (λhv3=>?_) (λhv3=>?_)⟩
   ·exact hbad u4 hn34 (by unfold fH;rw [if_pos (.inr (.inr hv3))])
   ·have he:fH number value nodes=(⟨number,ez value 5⟩,0):=by
     unfold fH
     rw [if_neg]
     rintro (e | e | e)
     ·exact e hv
     ·exact e hv2
     ·exact e hv3
    refine aF.mk_ex ⟨number,ma,(ez value 5).length,mc⟩ ⟨aN (New.blk hn34 hu2) rfl,?_⟩
    refine vd (vs:=aF.cells ⟨number,ma,(ez value 5).length,mc⟩) (New.blk hn34 hu1) rfl (aF.single _) λz2 hb' hk'=>?_
    refine aF.mk_ex ⟨number,ma,(ez value 5).length,mc⟩ ⟨aN hb' rfl,rfl,⟨number,ma,(ez value 5).length,mc⟩,by rw [he],?_,(hnu.new hn34).trans hk' λk hlt e=>by omega⟩
    rw [he]
    have hv4:=hva u4 hn34
    refine ⟨hv4.num,hv4.len,hv4.cap,hv4.rd.keep hk' (xj hv4.rd λk hk e=>?_),hv4.off,hv4.small⟩
    have:=hfr k hk
    omega
end Go.Proofs.YtafopfaomkklpaaGreat
