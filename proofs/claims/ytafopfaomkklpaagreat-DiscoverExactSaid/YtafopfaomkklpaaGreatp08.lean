/- A part of the proof. -/
import Derived.Test.YtafopfaomkklpaaGreatp03
import Derived.Test.YtafopfaomkklpaaGreatp07
set_option linter.unusedVariables false
namespace Go.Proofs.YtafopfaomkklpaaGreat
open Go.Eng
def vL (n:Int):Int:=IntKind.u64.wrap (IntKind.i64.wrap (7 * n))
def Fq (m:aC):Int:=IntKind.u64.wrap (bor .i64 (bshl .i64 m.Boot 2) 1)
def BH (m:aC):Int:=bif m.Full then bor .u64 (Fq m) 2 else Fq m
def sq:Int→List aC→Int
 |acc,[]=>acc
 |acc,m::l=>sq (bor .u64 acc (bshl .u64 (BH m) (vL m.Node))) l
def Vw.value (v:Vw):Int×Int:=if v.valid 5≠0 then (0,v.valid 5) else (sq 549755813888 v.mem,0)
def iY (value:Int) (i:Nat):Int:=bshr .u64 value (vL i)
def pmem (value:Int) (i:Nat):List aC:=if band .u64 (iY value i) 1≠0 then [⟨i,IntKind.i64.wrap (band .u64 (bshr .u64 (iY value i) 2) 31),band .u64 (iY value i) 2 != 0⟩] else []
def eF (value:Int):Nat→List aC
 | 0=>[]
 |i+1=>eF value i++pmem value i
def fW (number value nodes:Int):Vw×Int:=
 if (Vw.value ⟨number,eF value 5⟩).2≠0∨(Vw.value ⟨number,eF value 5⟩).1≠value∨(Vw.valid ⟨number,eF value 5⟩ nodes)≠0 then (⟨0,[]⟩,14) else (⟨number,eF value 5⟩,0)
theorem tG (value:Int):∀ i,(eF value i).length≤i
 | 0=>Nat.le_refl _
 |i+1=>by
  have:=tG value i
  unfold eF pmem
  rw [List.length_append]
  split<;>simp<;>omega
theorem fC (n:Int):0≤vL n:=by unfold vL;show 0≤_ % (18446744073709551616:Int);omega
theorem pK:∀ (l:List aC) (acc:Int) (m:aC),sq acc (l++[m])=bor .u64 (sq acc l) (bshl .u64 (BH m) (vL m.Node))
 | [],_,_=>rfl
 |x::l,acc,m=>by rw [List.cons_append,sq,sq,pK l]
set_option maxHeartbeats 1000000 in
theorem Eb {M:Nat→Prop} {w:World} {r:aF} {v:Vw} (h:eX M w r v):Does 98 [r.val] w λx w'=>x=.tuple #[.int .u64 v.value.1,.int .i64 v.value.2]∧New w w':=by
 refine does Tryz.func98 ?_
 rw [xH]
 rintro b1 w1 hb1 hw1
 obtain ⟨hz,hn⟩:=aR hb1 hw1
 have hz:Blk w1 b1 r.cells TVw:=hz
 clear hw1
 have hlen:=h.len
 have hsm:=h.small
 refine aF.mk_ex r ⟨aK hz rfl,?_⟩
 refine aG (AJ (h.new hn) 5) ?_
 rintro x w2 ⟨rfl,hn2⟩
 unfold Vw.value
 refine ⟨_,rfl,bE (λhv=>?_) (λhv=>?_)⟩
 ·rw [if_pos hv];exact ⟨rfl,hn.new hn2⟩
 rw [if_neg (λe=>e hv)]
 have hn02:=hn.new hn2
 refine ⟨_,_,_,(New.blk hn2 hz).cell (i:=1) rfl,?_⟩
 refine aS mix (λm env u=>∃ (i:Nat) (jj:List Value),m=v.mem.length - i∧i≤v.mem.length∧env=iX (sq 549755813888 (v.mem.take i)) r.Members r.Members_l r.Members_c r.Members_l i jj∧New w u) v.mem.length
  ⟨0,_,by omega,by omega,rfl,hn02⟩ ?_
 rintro m env u ⟨i,jj,rfl,hi,rfl,hnu⟩
 rw [rC]
 refine aE (λhq=>?_) (λhq=>?_)
 ·have hlt:i<v.mem.length:=by omega
  have hg:v.mem[i]?=some v.mem[i]:=List.getElem?_eq_getElem hlt
  have hst:v.mem.take (i+1)=v.mem.take i++[v.mem[i]]:=by rw [List.take_add_one,hg];rfl
  refine fY (cells:=aC.cells) aC.len (by omega) (h.rd.new hnu) hg rfl hlen λb o hc _=>aC.mk_ex v.mem[i] ⟨hc,?_⟩
  refine kE (vs:=v.mem[i].cells) rfl (aC.single _) λb2 u2 hb2 hz2 hn2=>?_
  refine ⟨_,hz2.cell (i:=1) rfl,_,hz2.cell (i:=2) rfl,iL (λhf=>⟨_,hz2.cell (i:=0) rfl,fC _,?_⟩) (λhf=>⟨_,hz2.cell (i:=0) rfl,fC _,?_⟩)⟩
  ·have e:bor .u64 (sq 549755813888 (v.mem.take i)) (bshl .u64 (bor .u64 (IntKind.u64.wrap (bor .i64 (bshl .i64 v.mem[i].Boot 2) 1)) 2) (IntKind.u64.wrap (IntKind.i64.wrap (7 * v.mem[i].Node))))=sq 549755813888 (v.mem.take (i+1)):=by
    rw [hst,pK,BH,hf]
    rfl
   rw [e,w64 (x:=(i:Int)+1) (by omega) (by omega)]
   exact ⟨v.mem.length - (i+1),by omega,i+1,_,rfl,by omega,rfl,hnu.new hn2⟩
  ·have e:bor .u64 (sq 549755813888 (v.mem.take i)) (bshl .u64 (IntKind.u64.wrap (bor .i64 (bshl .i64 v.mem[i].Boot 2) 1)) (IntKind.u64.wrap (IntKind.i64.wrap (7 * v.mem[i].Node))))=sq 549755813888 (v.mem.take (i+1)):=by
    rw [hst,pK,BH,hf]
    rfl
   rw [e,w64 (x:=(i:Int)+1) (by omega) (by omega)]
   exact ⟨v.mem.length - (i+1),by omega,i+1,_,rfl,by omega,rfl,hnu.new hn2⟩
 ·rw [tE,List.take_of_length_le (by omega)]
  exact ⟨rfl,hnu⟩
def vM (w w':World) (r:aF) (v:Vw):Prop:=eX (λk=>k<w.heap.size) w' r v
theorem Fr (w w':World):vM w w' ⟨0,none,0,0⟩ ⟨0,[]⟩:=⟨rfl,rfl,Nat.le_refl _,.inl rfl,.inl rfl,by simp⟩
set_option maxHeartbeats 2000000 in
theorem FU (w:World) (number value nodes:Int):Does 48 [.int .i64 number,.int .u64 value,.int .i64 nodes] w λx w'=>∃ r,x=.tuple #[aF.val r,.int .i64 (fW number value nodes).2]∧vM w w' r (fW number value nodes).1∧New w w':=by
 refine does Tryz.func48 ?_
 rw [xG]
 rintro b1 w1 hb1 hw1
 obtain ⟨hz1,hn1⟩:=aR hb1 hw1
 have hz1:Blk w1 b1 (aF.cells ⟨0,none,0,0⟩) TVw:=hz1
 clear hw1
 refine kE (vs:=aF.cells ⟨number,none,0,0⟩) rfl (aF.single _) λb2 w3 hb2 hz3 hn3=>?_
 have hz13:=New.blk hn3 hz1
 have hn03:=hn1.new hn3
 have hs1:=hn1.size
 have hs1':=hz1.lt
 have hne:b1≠b2:=by omega
 have hb20:w.heap.size≤b2:=by omega
 obtain ⟨inf,hi,hz,hsz,hby⟩:=p7 (T:=TMb) (z:=.agg #[.int .i64 0,.int .i64 0,.bool false]) (n:=3) (m:=24) (by kernel_rfl)
 refine aS mix (λm env u=>∃ (i:Nat) (ma:Option Addr) (mc:Nat) (jj:List Value),m=5 - i∧i≤5∧env=iT value nodes ⟨b1,0,none⟩ ⟨b2,0,none⟩ i jj∧New w u∧Blk u b1 (aF.cells ⟨0,none,0,0⟩) TVw∧Blk u b2 (aF.cells ⟨number,ma,(eF value i).length,mc⟩) TVw∧Owns u TMb 3 ma (eF value i).length mc (jV (eF value i)).flatten∧(∀ k,isB ma k→b2<k)) 5
  ⟨0,none,0,_,rfl,by omega,rfl,hn03,hz13,hz3,Owns.nil _ _ _,λk hk=>by obtain ⟨o,ho⟩:=hk;cases ho⟩ ?_
 rintro m env u ⟨i,ma,mc,jj,rfl,hi5,rfl,hnu,hu1,hu2,hown,hfr⟩
 have hpl:=tG value i
 rw [rz]
 refine aE (λhq=>?_) (λhq=>?_)
 ·have hi5:i<5:=by omega
  refine ⟨fC _,bE (λhb=>?_) (λhb=>?_)⟩
  ·have hpm:eF value (i+1)=eF value i++[⟨i,IntKind.i64.wrap (band .u64 (bshr .u64 (iY value i) 2) 31),band .u64 (iY value i) 2 != 0⟩]:=by
    show eF value i++pmem value i=_
    unfold pmem
    rw [if_pos (show band .u64 (iY value i) 1≠0 from hb)]
   refine ⟨_,_,_,hu2.cell (i:=1) rfl,?_⟩
   have hown':Owns u TMb inf.size ma (eF value i).length mc (jV (eF value i)).flatten:=by rw [hsz];exact hown
   refine Cz Tryz.underlying29 hi hz (by rw [hsz];rfl) (by omega) hown' (vs:=aC.cells ⟨i,IntKind.i64.wrap (band .u64 (bshr .u64 (iY value i) 2) 31),band .u64 (iY value i) 2 != 0⟩) (by rw [hsz];rfl) (aC.single _) (by omega) (by omega) ?_
   intro b3 ap cap u3 hb3 ho3 hk3 hap
   rw [hsz] at ho3
   have hu13:=hk3.blk hu1 λe=>by have:=hfr b1 e;omega
   have hu23:=hk3.blk hu2 λe=>by have:=hfr b2 e;omega
   have hus:=hu2.lt
   refine ⟨⟨_,hu23.cell (i:=1) rfl⟩,hu23.frozen,?_⟩
   rintro u4 rfl
   rw [w64 (by omega) (by omega)]
   have hk4:Keep (λk=>k=b2) u3 (u3.setCell ⟨b2,0+1,none⟩ (.slice ap ((eF value i).length+1) cap)):=aN _ _ _ _
   have hfr3:∀ k,isB ap k→b2<k:=λk hk=>by
    rcases hap k hk with h1 | h1
    ·exact hfr k h1
    ·omega
   refine ⟨5 - (i+1),by omega,i+1,ap,cap,_,rfl,by omega,rfl,?_,hk4.blk hu13 (λe=>hne e),?_,?_,hfr3⟩
   ·have h1:New w u3:=vF hnu hk3 λk hk=>by have:=hfr k hk;omega
    exact h1.trans hk4 λk hlt e=>by omega
   ·rw [hpm,List.length_append]
    exact hu23.setCell (i:=1) _
   ·rw [hpm,um,List.length_append]
    exact Owns.keep hk4 ho3 λk hk e=>by have:=hfr3 k hk;omega
  ·have hpm:eF value (i+1)=eF value i:=by
    show eF value i++pmem value i=_
    unfold pmem
    rw [if_neg (λe=>e (show band .u64 (iY value i) 1=0 from hb)),List.append_nil]
   rw [w64 (by omega) (by omega)]
   exact ⟨5 - (i+1),by omega,i+1,ma,mc,_,rfl,by omega,rfl,hnu,hu1,by rw [hpm];exact hu2,by rw [hpm];exact hown,hfr⟩
 ·have hi5':i=5:=by omega
  subst hi5'
  rw [tD]
  have hva:∀ z,New u z→eX (λk=>k<w.heap.size) z ⟨number,ma,(eF value 5).length,mc⟩ ⟨number,eF value 5⟩:=λz hz=>by
   refine ⟨rfl,rfl,hown.le,(Owns.new hz hown).rd,yw hown.rd λk hk e=>?_,by show (eF value 5).length≤_;omega⟩
   have:=hfr k hk
   omega
  refine aF.mk_ex ⟨number,ma,(eF value 5).length,mc⟩ ⟨aK hu2 rfl,?_⟩
  refine aG (Eb (hva u (Keep.refl _ _))) ?_
  rintro x u3 ⟨rfl,hn3⟩
  have hbad:∀ z,New u z→fW number value nodes=(⟨0,[]⟩,14)→wrAt z ⟨b1,0,none⟩ 0 [.int .i64 0,.slice none 0 0]∧∀ z2,z2=puts z ⟨b1,0,none⟩ 0 [.int .i64 0,.slice none 0 0]→aF.ex λres=>aH z2 ⟨b1,0,none⟩ 0 res.cells∧z2=z2∧∃ r,(Value.tuple #[res.val,.int .i64 14])=.tuple #[aF.val r,.int .i64 (fW number value nodes).2]∧vM w z2 r (fW number value nodes).1∧New w z2:=by
   intro z hz he
   refine qL (vs:=aF.cells ⟨0,none,0,0⟩) (New.blk hz hu1) rfl (aF.single _) λz2 hb' hk'=>?_
   refine aF.mk_ex ⟨0,none,0,0⟩ ⟨aK hb' rfl,rfl,⟨0,none,0,0⟩,by rw [he],by rw [he];exact Fr _ _,(hnu.new hz).trans hk' λk hlt e=>by omega⟩
  refine ⟨_,_,rfl,bE (λhv=>?_) (λhv=>bE (λhv2=>?_) (λhv2=>?_))⟩
  ·exact hbad u3 hn3 (by unfold fW;rw [if_pos (.inl hv)])
  ·exact hbad u3 hn3 (by unfold fW;rw [if_pos (.inr (.inl hv2))])
  ·refine aF.mk_ex ⟨number,ma,(eF value 5).length,mc⟩ ⟨aK (New.blk hn3 hu2) rfl,?_⟩
   refine aG (AJ (hva u3 hn3) nodes) ?_
   rintro x u4 ⟨rfl,hn4⟩
   have hn34:=hn3.new hn4
   refine ⟨_,rfl,bE (λhv3=>?_) (λhv3=>?_)⟩
   ·exact hbad u4 hn34 (by unfold fW;rw [if_pos (.inr (.inr hv3))])
   ·have he:fW number value nodes=(⟨number,eF value 5⟩,0):=by
     unfold fW
     rw [if_neg]
     rintro (e | e | e)
     ·exact e hv
     ·exact e hv2
     ·exact e hv3
    refine aF.mk_ex ⟨number,ma,(eF value 5).length,mc⟩ ⟨aK (New.blk hn34 hu2) rfl,?_⟩
    refine qL (vs:=aF.cells ⟨number,ma,(eF value 5).length,mc⟩) (New.blk hn34 hu1) rfl (aF.single _) λz2 hb' hk'=>?_
    refine aF.mk_ex ⟨number,ma,(eF value 5).length,mc⟩ ⟨aK hb' rfl,rfl,⟨number,ma,(eF value 5).length,mc⟩,by rw [he],?_,(hnu.new hn34).trans hk' λk hlt e=>by omega⟩
    rw [he]
    have hv4:=hva u4 hn34
    refine ⟨hv4.num,hv4.len,hv4.cap,hv4.rd.keep hk' (yw hv4.rd λk hk e=>?_),hv4.off,hv4.small⟩
    have:=hfr k hk
    omega
end Go.Proofs.YtafopfaomkklpaaGreat
