/- A part of the proof. -/
import Derived.Test.YtafopfaomkklpaaGreatp13
import Derived.Test.YtafopfaomkklpaaGreatp14
import Derived.Test.YtafopfaomkklpaaGreatp06
set_option linter.unusedVariables false
namespace Go.Proofs.YtafopfaomkklpaaGreat
open Go.Eng
theorem vS (w:World) (n:Int) (hn:n≤1000000000):Does 51 [.int .i64 n] w λv w'=>v=.int .i64 (j3 n)∧w'=w:=by
 refine does Tryz.func51 ?_
 rw [qR]
 unfold j3
 refine aE (λh=>⟨by rw [if_pos h],rfl⟩) (λh=>⟨?_,rfl⟩)
 rw [if_neg h,Int.tdiv_eq_ediv_of_nonneg (by omega),w64 (x:=n / 2) (by omega) (by omega),w64 (by omega) (by omega)]
theorem oT (w:World) {i:Int} (h0:0≤i) (h1:i<16):Does 52 [.int .i64 i] w λv w'=>v=.int .i64 (8+i)∧w'=w:=by
 refine does Tryz.func52 ?_
 rw [oS]
 refine aE (λh=>absurd h (by omega)) (λ_=>aE (λh=>absurd h (by omega)) (λ_=>⟨?_,rfl⟩))
 rw [w64 (by omega) (by omega)]
theorem zF (w:World) {i:Int} (h0:0≤i) (h1:i<6):Does 75 [.int .i64 i] w λv w'=>v=.int .i64 (24+i)∧w'=w:=by
 refine does Tryz.func75 ?_
 rw [oD]
 refine aG (jY w i) ?_
 rintro v w1 ⟨rfl,rfl⟩
 refine ⟨_,rfl,dM (by simp;omega) ⟨?_,rfl⟩⟩
 rw [w64 (by omega) (by omega)]
theorem AR (w:World) {x:Int} (h0:0≤x) (h1:x<18446744073709551616):Does 102 [.int .u64 x] w λv w'=>v=.tuple #[.int .u64 (cwP x),.int .u64 (cwA x),.int .u64 (cwV x)]∧w'=w:=by
 refine does Tryz.func102 ?_
 rw [mw]
 refine ⟨?_,rfl⟩
 have e1:=mQ (w:=x / 1099511627776) (by omega) (by omega) 12 (by omega)
 have e2:=mQ h0 h1 40 (by omega)
 rw [G4 h0,G5 h0]
 rw [show (4095:Int)=((2 ^ 12 - 1:Nat):Int) from rfl,e1,show (1099511627775:Int)=((2 ^ 40 - 1:Nat):Int) from rfl,e2]
 rfl
theorem CT {b:Int} (h:1≤b∧b≤31):bor .u64 1 (bshl .u64 (IntKind.u64.wrap b) 2)=IntKind.u64.wrap (bor .i64 (bshl .i64 b 2) 1):=by
 have:∀ n:Fin 32,bor .u64 1 (bshl .u64 (IntKind.u64.wrap (n.val:Int)) 2)=IntKind.u64.wrap (bor .i64 (bshl .i64 (n.val:Int) 2) 1):=by decide +kernel
 have h2:=this ⟨b.toNat,by omega⟩
 have e:((b.toNat:Nat):Int)=b:=by omega
 rw [e] at h2
 exact h2
set_option maxHeartbeats 1000000 in
theorem Ei {M:Nat→Prop} {w:World} {r:aF} {v:Vw} (h:eX M w r v) (hv0:v.valid 5=0):Does 104 [r.val] w λx w'=>x=.tuple #[.int .u64 v.value.1,.int .i64 v.value.2]∧New w w':=by
 refine does Tryz.func104 ?_
 rw [m6]
 rintro b1 w1 hb1 hw1
 obtain ⟨hz,hn⟩:=aR hb1 hw1
 have hz:Blk w1 b1 r.cells TVw:=hz
 clear hw1
 have hlen:=h.len
 have hsm:=h.small
 obtain ⟨_,_,hmem⟩:=vk hv0
 refine aF.mk_ex r ⟨aK hz rfl,?_⟩
 refine aG (xF (h.new hn) 5) ?_
 rintro x w2 ⟨rfl,hn2⟩
 unfold Vw.value
 rw [hv0]
 refine ⟨_,rfl,dM rfl ?_⟩
 have hn02:=hn.new hn2
 refine aS mix (λm env u=>∃ (i:Nat) (jj:List Value),m=v.mem.length - i∧i≤v.mem.length∧env=dW ⟨b1,0,none⟩ (sq 549755813888 (v.mem.take i)) i jj∧New w2 u) v.mem.length
  ⟨0,_,by omega,by omega,rfl,Keep.refl _ _⟩ ?_
 rintro m env u ⟨i,jj,rfl,hi,rfl,hnu⟩
 rw [i1]
 have hzu:=New.blk hnu (New.blk hn2 hz)
 have hn0u:=hn02.new hnu
 refine ⟨_,_,_,hzu.cell (i:=1) rfl,aE (λhq=>?_) (λhq=>?_)⟩
 ·have hlt:i<v.mem.length:=by omega
  have hg:v.mem[i]?=some v.mem[i]:=List.getElem?_eq_getElem hlt
  have hst:v.mem.take (i+1)=v.mem.take i++[v.mem[i]]:=by rw [List.take_add_one,hg];rfl
  have hbt:=CT (hmem _ (List.getElem_mem hlt)).2
  refine ⟨_,_,_,hzu.cell (i:=1) rfl,?_⟩
  refine fY (cells:=aC.cells) aC.len (by omega) (h.rd.new hn0u) hg rfl hlen λb o hc _=>aC.mk_ex v.mem[i] ⟨hc,?_⟩
  refine kE (vs:=v.mem[i].cells) rfl (aC.single _) λb2 u2 hb2 hz2 hn2'=>?_
  refine ⟨_,hz2.cell (i:=1) rfl,_,hz2.cell (i:=2) rfl,iL (λhf=>⟨_,hz2.cell (i:=0) rfl,fC _,?_⟩) (λhf=>⟨_,hz2.cell (i:=0) rfl,fC _,?_⟩)⟩
  ·rw [hbt]
   have e:bor .u64 (sq 549755813888 (v.mem.take i)) (bshl .u64 (bor .u64 (IntKind.u64.wrap (bor .i64 (bshl .i64 v.mem[i].Boot 2) 1)) 2) (IntKind.u64.wrap (IntKind.i64.wrap (7 * v.mem[i].Node))))=sq 549755813888 (v.mem.take (i+1)):=by
    rw [hst,pK,BH,hf]
    rfl
   rw [e,w64 (x:=(i:Int)+1) (by omega) (by omega)]
   exact ⟨v.mem.length - (i+1),by omega,i+1,_,rfl,by omega,rfl,hnu.new hn2'⟩
  ·rw [hbt]
   have e:bor .u64 (sq 549755813888 (v.mem.take i)) (bshl .u64 (IntKind.u64.wrap (bor .i64 (bshl .i64 v.mem[i].Boot 2) 1)) (IntKind.u64.wrap (IntKind.i64.wrap (7 * v.mem[i].Node))))=sq 549755813888 (v.mem.take (i+1)):=by
    rw [hst,pK,BH,hf]
    rfl
   rw [e,w64 (x:=(i:Int)+1) (by omega) (by omega)]
   exact ⟨v.mem.length - (i+1),by omega,i+1,_,rfl,by omega,rfl,hnu.new hn2'⟩
 ·rw [jJ,List.take_of_length_le (by omega)]
  exact ⟨rfl,hn0u⟩
end Go.Proofs.YtafopfaomkklpaaGreat
namespace Go.Proofs.YtafopfaomkklpaaGreat
open Go.Eng
theorem F1 (n:Nat):n &&& 2=2 * (n / 2 % 2):=by
 have h:n &&& 2=n % 4 &&& 2:=by
  rw [show n % 4=n &&& 3 from (Nat.and_two_pow_sub_one_eq_mod n 2).symm,Nat.and_assoc]
  rfl
 rw [h]
 have h4:n % 4=0∨n % 4=1∨n % 4=2∨n % 4=3:=by omega
 rcases h4 with e | e | e | e<;>rw [e]
 ·show 0=_;omega
 ·show 0=_;omega
 ·show 2=_;omega
 ·show 2=_;omega
theorem G9 {y:Int} (h0:0≤y) (h1:y<18446744073709551616):band .u64 y 2=2 * (y / 2 % 2):=by
 obtain ⟨n,rfl⟩:=Int.eq_ofNat_of_zero_le h0
 have e:=AH n 2 (by omega) (by omega)
 rw [show ((2:Nat):Int)=2 from rfl] at e
 rw [e,F1]
 omega
theorem zG {y:Int} (h0:0≤y) (h1:y<18446744073709551616):band .u64 y 127=y % 128:=mQ h0 h1 7 (by omega)
theorem Ha {y:Int} (h0:0≤y) (h1:y<18446744073709551616):band .u64 y 31=y % 32:=mQ h0 h1 5 (by omega)
theorem F2 {y:Int} (h0:0≤y) (h1:y<18446744073709551616):band .u64 y 1=y % 2:=mQ h0 h1 1 (by omega)
theorem shr2 {y:Int} (h0:0≤y):bshr .u64 y 2=y / 4:=by
 show Int.fdiv y 4=_
 rw [Int.fdiv_eq_ediv_of_nonneg _ (by decide)]
theorem vn {value:Int} (h:U64 value) (i:Nat):0≤iY value i∧iY value i<18446744073709551616:=by
 unfold iY bshr
 have h0:=h.1
 have h1:=h.2
 have hp:(0:Int)<2 ^ min (vL i).toNat (IntKind.bits .u64):=Int.pow_pos (by decide)
 rw [Int.fdiv_eq_ediv_of_nonneg _ (by omega)]
 refine ⟨Int.ediv_nonneg h0 (by omega),?_⟩
 have:=Int.ediv_le_self (2 ^ min (vL i).toNat (IntKind.bits .u64)) h0
 omega
theorem Hb {value:Int} (h:U64 value) (i:Nat):band .u64 (band .u64 (iY value i) 127) 1=band .u64 (iY value i) 1:=by
 obtain ⟨h0,h1⟩:=vn h i
 rw [zG h0 h1,F2 (by omega) (by omega),F2 h0 h1]
 omega
theorem Hd {value:Int} (h:U64 value) (i:Nat):bshr .u64 (band .u64 (iY value i) 127) 2=band .u64 (bshr .u64 (iY value i) 2) 31:=by
 obtain ⟨h0,h1⟩:=vn h i
 rw [zG h0 h1,shr2 (by omega),shr2 h0,Ha (by omega) (by omega)]
 omega
theorem He {value:Int} (h:U64 value) (i:Nat):(band .u64 (band .u64 (iY value i) 127) 2 == 2)=(band .u64 (iY value i) 2 != 0):=by
 obtain ⟨h0,h1⟩:=vn h i
 rw [zG h0 h1,G9 (by omega) (by omega),G9 h0 h1]
 have e:iY value i % 128 / 2 % 2=iY value i / 2 % 2:=by omega
 rw [e]
 have h2:iY value i / 2 % 2=0∨iY value i / 2 % 2=1:=by omega
 rcases h2 with h2 | h2<;>rw [h2]<;>rfl
theorem BI {v:Vw} {n:Int} (h:v.valid n=0):v.valid 5=0:=by
 have h0:=h
 obtain ⟨h1,h2,h3⟩:=vk h
 unfold Vw.valid at h ⊢
 rw [if_neg (by omega)] at h ⊢
 split at h
 ·omega
 rw [if_neg (by assumption)]
 split at h
 ·omega
 rw [if_neg (by assumption)]
 split at h
 ·omega
 rename_i g4
 have g4':(List.range v.mem.length).all (ml n v.mem)=true:=by simpa using g4
 have g5:(List.range v.mem.length).all (ml 5 v.mem)=true:=by
  rw [List.all_eq_true] at g4' ⊢
  intro i hi
  have:=g4' i hi
  unfold ml at this ⊢
  simp only [Bool.and_eq_true,decide_eq_true_eq] at this ⊢
  refine ⟨⟨this.1.1,by omega⟩,this.2⟩
 rw [if_neg (by rw [g5];simp)]
 exact h
set_option maxHeartbeats 2000000 in
theorem Ej (w:World) (number:Int) {value:Int} (hU:U64 value) (nodes:Int):Does 54 [.int .i64 number,.int .u64 value,.int .i64 nodes] w λx w'=>∃ r,x=.tuple #[aF.val r,.int .i64 (fW number value nodes).2]∧vM w w' r (fW number value nodes).1∧New w w':=by
 refine does Tryz.func54 ?_
 rw [qg]
 rintro b1 w1 hb1 hw1
 obtain ⟨hz1,hn1⟩:=aR hb1 hw1
 have hz1:Blk w1 b1 (aF.cells ⟨0,none,0,0⟩) TVw:=hz1
 clear hw1
 refine kE (vs:=aF.cells ⟨number,none,0,0⟩) rfl (aF.single _) λb2 w3 hb2 hz3 hn3=>?_
 have hz13:=New.blk hn3 hz1
 have hn03:=hn1.new hn3
 have hs1:=hn1.size
 have hs1':=hz1.lt
 have hne:b1≠b2:=by omega
 have hb20:w.heap.size≤b2:=by omega
 obtain ⟨inf,hi,hz,hsz,hby⟩:=p7 (T:=TMb) (z:=.agg #[.int .i64 0,.int .i64 0,.bool false]) (n:=3) (m:=24) (by kernel_rfl)
 refine aS mix (λm env u=>∃ (i:Nat) (ma:Option Addr) (mc:Nat) (jj:List Value),m=5 - i∧i≤5∧env=dO value nodes ⟨b1,0,none⟩ ⟨b2,0,none⟩ i jj∧New w u∧Blk u b1 (aF.cells ⟨0,none,0,0⟩) TVw∧Blk u b2 (aF.cells ⟨number,ma,(eF value i).length,mc⟩) TVw∧Owns u TMb 3 ma (eF value i).length mc (jV (eF value i)).flatten∧∀ k,isB ma k→b2<k) 5
  ⟨0,none,0,_,rfl,by omega,rfl,hn03,hz13,hz3,Owns.nil _ _ _,λk hk=>by obtain ⟨o,ho⟩:=hk;cases ho⟩ ?_
 rintro m env u ⟨i,ma,mc,jj,rfl,hi5,rfl,hnu,hu1,hu2,hown,hfr⟩
 have hpl:=tG value i
 rw [kW]
 refine aE (λhq=>?_) (λhq=>?_)
 ·have hi5:i<5:=by omega
  have ea:=Hb hU i
  have eb:=Hd hU i
  have ec:=He hU i
  refine ⟨fC _,bC (λhb=>?_) (λhb=>?_)⟩
  ·have hb1':band .u64 (iY value i) 1=1:=by rw [←ea];exact hb
   have hpm:eF value (i+1)=eF value i++[⟨i,IntKind.i64.wrap (band .u64 (bshr .u64 (iY value i) 2) 31),band .u64 (iY value i) 2 != 0⟩]:=by
    show eF value i++pmem value i=_
    unfold pmem
    rw [if_pos (by rw [hb1'];decide)]
   refine ⟨_,_,_,hu2.cell (i:=1) rfl,?_⟩
   have hown':Owns u TMb inf.size ma (eF value i).length mc (jV (eF value i)).flatten:=by rw [hsz];exact hown
   have ecell:∀ (K:List Value→Prop),K (aC.cells ⟨i,IntKind.i64.wrap (band .u64 (bshr .u64 (iY value i) 2) 31),band .u64 (iY value i) 2 != 0⟩)→K [.int .i64 (i:Int),.int .i64 (IntKind.i64.wrap (bshr .u64 (band .u64 (bshr .u64 value (IntKind.u64.wrap (IntKind.i64.wrap (7 * (i:Int))))) 127) 2)),.bool (band .u64 (band .u64 (bshr .u64 value (IntKind.u64.wrap (IntKind.i64.wrap (7 * (i:Int))))) 127) 2 == 2)]:=by
    intro K hK
    have e1:bshr .u64 (band .u64 (bshr .u64 value (IntKind.u64.wrap (IntKind.i64.wrap (7 * (i:Int))))) 127) 2=band .u64 (bshr .u64 (iY value i) 2) 31:=eb
    have e2:(band .u64 (band .u64 (bshr .u64 value (IntKind.u64.wrap (IntKind.i64.wrap (7 * (i:Int))))) 127) 2 == 2)=(band .u64 (iY value i) 2 != 0):=ec
    rw [e1,e2]
    exact hK
   refine Cz Tryz.underlying29 hi hz (by rw [hsz];rfl) (by omega) hown' (vs:=[.int .i64 (i:Int),.int .i64 (IntKind.i64.wrap (bshr .u64 (band .u64 (bshr .u64 value (IntKind.u64.wrap (IntKind.i64.wrap (7 * (i:Int))))) 127) 2)),.bool (band .u64 (band .u64 (bshr .u64 value (IntKind.u64.wrap (IntKind.i64.wrap (7 * (i:Int))))) 127) 2 == 2)]) (by rw [hsz];rfl) (by intro v hv;simp only [List.mem_cons,List.not_mem_nil,or_false] at hv;rcases hv with rfl | rfl | rfl<;>rfl) (by omega) (by omega) ?_
   intro b3 ap cap u3 hb3 ho3 hk3 hap
   rw [hsz] at ho3
   have ho3:Owns u3 TMb 3 ap ((eF value i).length+1) cap ((jV (eF value i)).flatten++aC.cells ⟨i,IntKind.i64.wrap (band .u64 (bshr .u64 (iY value i) 2) 31),band .u64 (iY value i) 2 != 0⟩):=by
    have e1:bshr .u64 (band .u64 (bshr .u64 value (IntKind.u64.wrap (IntKind.i64.wrap (7 * (i:Int))))) 127) 2=band .u64 (bshr .u64 (iY value i) 2) 31:=eb
    have e2:(band .u64 (band .u64 (bshr .u64 value (IntKind.u64.wrap (IntKind.i64.wrap (7 * (i:Int))))) 127) 2 == 2)=(band .u64 (iY value i) 2 != 0):=ec
    rw [e1,e2] at ho3
    exact ho3
   have hu13:=hk3.blk hu1 λe=>by have:=hfr b1 e;omega
   have hu23:=hk3.blk hu2 λe=>by have:=hfr b2 e;omega
   have hus:=hu2.lt
   refine ⟨⟨_,hu23.cell (i:=1) rfl⟩,hu23.frozen,?_⟩
   rintro u4 rfl
   rw [w64 (x:=(i:Int)+1) (by omega) (by omega)]
   have hk4:Keep (λk=>k=b2) u3 (u3.setCell ⟨b2,0+1,none⟩ (.slice ap ((eF value i).length+1) cap)):=aN _ _ _ _
   have hfr3:∀ k,isB ap k→b2<k:=λk hk=>by
    rcases hap k hk with h1 | h1
    ·exact hfr k h1
    ·omega
   refine ⟨5 - (i+1),by omega,i+1,ap,cap,_,rfl,by omega,rfl,?_,hk4.blk hu13 (λe=>hne e),?_,?_,hfr3⟩
   ·have h1:New w u3:=vF hnu hk3 λk hk=>by have:=hfr k hk;omega
    exact h1.trans hk4 λk hlt e=>by omega
   ·rw [hpm,List.length_append]
    exact hu23.setCell (i:=1) _
   ·rw [hpm,um,List.length_append]
    exact Owns.keep hk4 ho3 λk hk e=>by have:=hfr3 k hk;omega
  ·have hb0:band .u64 (iY value i) 1=0:=by
    obtain ⟨g0,g1⟩:=vn hU i
    have hb':¬ band .u64 (iY value i) 1=1:=by rw [←ea];exact hb
    rw [F2 g0 g1] at hb' ⊢
    omega
   have hpm:eF value (i+1)=eF value i:=by
    show eF value i++pmem value i=_
    unfold pmem
    rw [if_neg (λe=>e hb0),List.append_nil]
   rw [w64 (x:=(i:Int)+1) (by omega) (by omega)]
   exact ⟨5 - (i+1),by omega,i+1,ma,mc,_,rfl,by omega,rfl,hnu,hu1,by rw [hpm];exact hu2,by rw [hpm];exact hown,hfr⟩
 ·have hi5':i=5:=by omega
  subst hi5'
  rw [mv]
  have hva:∀ z,New u z→eX (λk=>k<w.heap.size) z ⟨number,ma,(eF value 5).length,mc⟩ ⟨number,eF value 5⟩:=λz hz=>by
   refine ⟨rfl,rfl,hown.le,(Owns.new hz hown).rd,yw hown.rd λk hk e=>?_,by show (eF value 5).length≤_;omega⟩
   have:=hfr k hk
   omega
  have hbad:∀ z,New u z→fW number value nodes=(⟨0,[]⟩,14)→wrAt z ⟨b1,0,none⟩ 0 [.int .i64 0,.slice none 0 0]∧∀ z2,z2=puts z ⟨b1,0,none⟩ 0 [.int .i64 0,.slice none 0 0]→aF.ex λres=>aH z2 ⟨b1,0,none⟩ 0 res.cells∧z2=z2∧∃ r,Value.tuple #[res.val,.int .i64 14]=.tuple #[aF.val r,.int .i64 (fW number value nodes).2]∧vM w z2 r (fW number value nodes).1∧New w z2:=by
   intro z hz he
   refine qL (vs:=aF.cells ⟨0,none,0,0⟩) (New.blk hz hu1) rfl (aF.single _) λz2 hb' hk'=>?_
   refine aF.mk_ex ⟨0,none,0,0⟩ ⟨aK hb' rfl,rfl,⟨0,none,0,0⟩,by rw [he],by rw [he];exact Fr _ _,(hnu.new hz).trans hk' λk hlt e=>by omega⟩
  refine aF.mk_ex ⟨number,ma,(eF value 5).length,mc⟩ ⟨aK hu2 rfl,?_⟩
  refine aG (xF (hva u (Keep.refl _ _)) nodes) ?_
  rintro x u3 ⟨rfl,hn3⟩
  refine ⟨_,rfl,bE (λhv=>?_) (λhv=>?_)⟩
  ·exact hbad u3 hn3 (by unfold fW;rw [if_pos (.inr (.inr hv))])
  have hv5:=BI hv
  refine aF.mk_ex ⟨number,ma,(eF value 5).length,mc⟩ ⟨aK (New.blk hn3 hu2) rfl,?_⟩
  refine aG (Ei (hva u3 hn3) hv5) ?_
  rintro x u4 ⟨rfl,hn4⟩
  have hn34:=hn3.new hn4
  refine ⟨_,_,rfl,bE (λhv3=>?_) (λhv3=>?_)⟩
  ·exact hbad u4 hn34 (by unfold fW;rw [if_pos (.inr (.inl hv3))])
  ·have hv2:(Vw.value ⟨number,eF value 5⟩).2=0:=by
    unfold Vw.value
    rw [if_neg (λe=>e hv5)]
   have he:fW number value nodes=(⟨number,eF value 5⟩,0):=by
    unfold fW
    rw [if_neg]
    rintro (e | e | e)
    ·exact e hv2
    ·exact e hv3
    ·exact e hv
   refine aF.mk_ex ⟨number,ma,(eF value 5).length,mc⟩ ⟨aK (New.blk hn34 hu2) rfl,?_⟩
   refine qL (vs:=aF.cells ⟨number,ma,(eF value 5).length,mc⟩) (New.blk hn34 hu1) rfl (aF.single _) λz2 hb' hk'=>?_
   refine aF.mk_ex ⟨number,ma,(eF value 5).length,mc⟩ ⟨aK hb' rfl,rfl,⟨number,ma,(eF value 5).length,mc⟩,by rw [he],?_,(hnu.new hn34).trans hk' λk hlt e=>by omega⟩
   rw [he]
   have hv4:=hva u4 hn34
   refine ⟨hv4.num,hv4.len,hv4.cap,hv4.rd.keep hk' (yw hv4.rd λk hk e=>?_),hv4.off,hv4.small⟩
   have:=hfr k hk
   omega
end Go.Proofs.YtafopfaomkklpaaGreat
namespace Go.Proofs.YtafopfaomkklpaaGreat
open Go.Eng
def tM:List Int→Int×Int→Int×Int
 | [],b=>b
 |w::ws,b=>tM ws (if b.1<cwA w then (cwA w,cwV w) else b)
def cntW (ballot:Int) (ws:List Int):Nat:=(ws.filter λw=>decide (cwA w=ballot)).length
def majW (n:Int) (A:List Int) (w:Int):Bool:=decide (cwA w≠0) && decide (j3 n≤(cntW (cwA w) A:Int))
def dT (number:Int):Ctl→List Int
 | []=>[]
 |none::L=>dT number L
 |some ws::L=>conW number ws::dT number L
def fndW (n:Int) (A ws:List Int):Option Int:=(ws.find? (majW n A)).map cwV
theorem xK (number:Int):∀ (L:Ctl) (b:Int×Int),j4 number L b=tM (dT number L) b
 | [],_=>rfl
 |none::L,b=>xK number L b
 |some ws::L,b=>xK number L _
theorem zH (number ballot:Int):∀ (L:Ctl),cntB number ballot L=cntW ballot (dT number L)
 | []=>rfl
 |none::L=>by
  have h:=zH number ballot L
  unfold cntB cntW at h ⊢
  rw [List.filter_cons,if_neg (by simp [hasB])]
  exact h
 |some ws::L=>by
  have h:=zH number ballot L
  unfold cntB cntW at h ⊢
  unfold dT
  rw [List.filter_cons,List.filter_cons]
  by_cases e:cwA (conW number ws)=ballot
  ·rw [if_pos (by simp [hasB,e]),if_pos (by simp [e]),List.length_cons,List.length_cons,h]
  ·rw [if_neg (by simp [hasB,e]),if_neg (by simp [e]),h]
theorem CU (number:Int) (A:Ctl) (ws:List Int):ut number A (some ws)=majW A.length (dT number A) (conW number ws):=by
 show (decide (cwA (conW number ws)≠0) && decide (j3 A.length≤(cntB number (cwA (conW number ws)) A:Int)))=_
 rw [zH]
 rfl
theorem zI (number:Int) (A:Ctl):∀ (L:Ctl),(L.find? (ut number A)).map (valW number)=fndW A.length (dT number A) (dT number L)
 | []=>rfl
 |none::L=>by
  rw [List.find?_cons_of_neg (by simp [ut])]
  exact zI number A L
 |some ws::L=>by
  have h:=zI number A L
  show _=fndW A.length (dT number A) (conW number ws::dT number L)
  unfold fndW at h ⊢
  cases e:majW A.length (dT number A) (conW number ws) with
  |true=>rw [List.find?_cons_of_pos (by rw [CU];exact e),List.find?_cons_of_pos e];rfl
  |false=>rw [List.find?_cons_of_neg (by rw [CU,e];simp),List.find?_cons_of_neg (by rw [e];simp)];exact h
theorem Hg (number:Int) (L:Ctl):kV number L=match fndW L.length (dT number L) (dT number L) with
 |some v=>(v,true)
 |none=>((tM (dT number L) (0,0)).2,false):=by
 rw [←zI]
 unfold kV
 cases L.find? (ut number L) with
 |none=>rw [xK];rfl
 |some x=>rfl
theorem wT:∀ (l:List Int) (b:Int×Int) (w:Int),tM (l++[w]) b=if (tM l b).1<cwA w then (cwA w,cwV w) else tM l b
 | [],_,_=>rfl
 | _::l,_,w=>wT l _ w
theorem CV (b:Int) (l:List Int) (w:Int):cntW b (l++[w])=cntW b l+(if cwA w=b then 1 else 0):=by
 unfold cntW
 rw [List.filter_append,List.length_append]
 congr 1
 rw [List.filter_cons]
 by_cases h:cwA w=b
 ·simp [h]
 ·simp [h]
theorem F3 (b:Int) (l:List Int):cntW b l≤l.length:=List.length_filter_le _ _
theorem CW (n:Int) (A l:List Int) (w:Int):fndW n A (l++[w])=match fndW n A l with
 |some v=>some v
 |none=>if majW n A w=true then some (cwV w) else none:=by
 unfold fndW
 rw [List.find?_append]
 cases h:l.find? (majW n A) with
 |some v=>rfl
 |none=>
  show Option.map cwV ([w].find? (majW n A))=_
  cases e:majW n A w with
  |true=>rw [List.find?_cons_of_pos e];rfl
  |false=>rw [List.find?_cons_of_neg (by rw [e];simp)];rfl
theorem rd_w {u:World} {a:Option Addr} {l:List Int} (h:Rd u a (us l)) {i:Nat} {x:Int} (hx:l[i]?=some x) {z:Int} (hz:z=i) {n:Nat} (hn:n=l.length) {K:Addr→Prop}
  (hk:∀ b o,(∀ y,New u y→y.cell? ⟨b,o,none⟩=some (.int .u64 x))→K ⟨b,o,none⟩):idxS a n z 1 K:=by
 subst hz hn
 have hlt:=dF hx
 have hxx:(us l)[i]?=some (.int .u64 x):=Fl hx
 rcases h with he | ⟨b,o,rfl,hc⟩
 ·rw [he] at hxx;cases hxx
 ·refine bG (by omega) (by omega) ?_
  have:=hk b (o+i) λy hy=>(Rd.new hy (.inr ⟨b,o,rfl,hc⟩)).cell hxx
  simpa using this
def decR (n:Int) (ws:List Int):Int×Int×Bool:=((fndW n ws ws).getD 0,(tM ws (0,0)).2,(fndW n ws ws).isSome)
set_option maxHeartbeats 1000000 in
theorem BJ {w:World} {a:Option Addr} {c:Nat} {ws:List Int} (hr:Rd w a (us ws)) (hU:∀ x ∈ ws,U64 x) (hl:ws.length≤5) {n:Int} (hn:n≤1000000000) :
  Does 53 [.int .i64 n,.slice a ws.length c] w λv w'=>v=.tuple #[.int .u64 (decR n ws).1,.int .u64 (decR n ws).2.1,.bool (decR n ws).2.2]∧w'=w:=by
 refine does Tryz.func53 ?_
 rw [rE]
 refine aS mix (λm env u=>∃ (i:Nat) (hint best:Int) (jj:List Value),m=ws.length - i∧i≤ws.length∧env=bJ n a ws.length c ((fndW n ws (ws.take i)).getD 0) hint (fndW n ws (ws.take i)).isSome best i jj∧u=w∧tM (ws.take i) (0,0)=(best,hint)) ws.length
  ⟨0,0,0,_,by omega,by omega,rfl,rfl,rfl⟩ ?_
 rintro m env u ⟨i,hint,best,jj,rfl,hi,rfl,rfl,hbe⟩
 rw [lO]
 refine aE (λhp=>?_) (λhp=>?_)
 ·have hlt:i<ws.length:=by omega
  have hg:ws[i]?=some ws[i]:=List.getElem?_eq_getElem hlt
  have hst:ws.take (i+1)=ws.take i++[ws[i]]:=by rw [List.take_add_one,hg];rfl
  have hx:=hU _ (List.getElem_mem hlt)
  generalize ws[i]=x at hg hst hx
  have hbs:=wT (ws.take i) (0,0) x
  rw [←hst,hbe] at hbs
  have hfs:=CW n ws (ws.take i) x
  rw [←hst] at hfs
  refine rd_w hr hg rfl rfl λb o hc=>⟨_,hc u (Keep.refl _ _),?_⟩
  refine aG (AR u hx.1 hx.2) ?_
  rintro v u2 ⟨rfl,rfl⟩
  refine ⟨_,_,_,rfl,aE (λhe=>?g1) (λhe=>?g2)⟩
  case' g1=>have hb2:tM (ws.take (i+1)) (0,0)=(cwA x,cwV x):=by rw [hbs];exact if_pos he
  case' g2=>have hb2:tM (ws.take (i+1)) (0,0)=(best,hint):=by rw [hbs];exact if_neg he
  all_goals
   clear hbs hc
   refine aS mix (λm env z=>∃ (k:Nat) (hint best:Int) (jj:List Value),m=ws.length - k∧k≤ws.length∧env=dD n a ws.length c ((fndW n ws (ws.take i)).getD 0) hint (fndW n ws (ws.take i)).isSome best i (cwA x) (cwV x) (cntW (cwA x) (ws.take k)) k jj∧z=u2∧tM (ws.take (i+1)) (0,0)=(best,hint)) ws.length
    ⟨0,_,_,_,by omega,by omega,rfl,rfl,hb2⟩ ?_
   rintro m env z ⟨k,hint',best',jj2,rfl,hk,rfl,rfl,hb3⟩
   rw [lP]
   refine aE (λhq=>?_) (λhq=>?_)
   ·have hltk:k<ws.length:=by omega
    have hgk:ws[k]?=some ws[k]:=List.getElem?_eq_getElem hltk
    have hstk:ws.take (k+1)=ws.take k++[ws[k]]:=by rw [List.take_add_one,hgk];rfl
    have hcs:=CV (cwA x) (ws.take k) ws[k]
    rw [←hstk] at hcs
    have hcl:=F3 (cwA x) (ws.take k)
    rw [List.length_take] at hcl
    have hy:=hU _ (List.getElem_mem hltk)
    refine rd_w hr hgk rfl rfl λb o hc=>⟨_,hc z (Keep.refl _ _),?_⟩
    refine aG (AR z hy.1 hy.2) ?_
    rintro v u3 ⟨rfl,rfl⟩
    rw [w64 (x:=(cntW (cwA x) (ws.take k):Int)+1) (by omega) (by omega),w64 (x:=(k:Int)+1) (by omega) (by omega)]
    refine ⟨_,_,_,rfl,bC (λhe=>?_) (λhe=>?_)⟩
    ·rw [show (cntW (cwA x) (ws.take k):Int)+1=(cntW (cwA x) (ws.take (k+1)):Nat) by rw [hcs,if_pos he];omega]
     exact ⟨ws.length - (k+1),by omega,k+1,_,_,_,rfl,by omega,rfl,rfl,hb3⟩
    ·rw [show cntW (cwA x) (ws.take k)=cntW (cwA x) (ws.take (k+1)) by rw [hcs,if_neg he];rfl]
     exact ⟨ws.length - (k+1),by omega,k+1,_,_,_,rfl,by omega,rfl,rfl,hb3⟩
   ·rw [nL,show ws.take k=ws from List.take_of_length_le (by omega),w64 (x:=(i:Int)+1) (by omega) (by omega)]
    have hA:=G2 x
    have go:∀ (v:Int) (ok:Bool),fndW n ws (ws.take (i+1))=(if ok=true then some v else none)→(ok=false→v=0)→∀ jj':List Value,∃ m',m'<ws.length - i∧∃ (i':Nat) (hint best:Int) (jj:List Value),m'=ws.length - i'∧i'≤ws.length∧bJ n a ws.length c v hint' ok best' ((i:Int)+1) jj'=bJ n a ws.length c ((fndW n ws (ws.take i')).getD 0) hint (fndW n ws (ws.take i')).isSome best i' jj∧z=z∧tM (ws.take i') (0,0)=(best,hint):=by
     intro v ok e e0 jj'
     refine ⟨ws.length - (i+1),by omega,i+1,hint',best',jj',rfl,by omega,?_,rfl,hb3⟩
     rw [e]
     cases ok with
     |true=>rfl
     |false=>rw [e0 rfl];rfl
    have same:majW n ws x=false→∀ jj':List Value,∃ m',m'<ws.length - i∧∃ (i':Nat) (hint best:Int) (jj:List Value),m'=ws.length - i'∧i'≤ws.length∧bJ n a ws.length c ((fndW n ws (ws.take i)).getD 0) hint' (fndW n ws (ws.take i)).isSome best' ((i:Int)+1) jj'=bJ n a ws.length c ((fndW n ws (ws.take i')).getD 0) hint (fndW n ws (ws.take i')).isSome best i' jj∧z=z∧tM (ws.take i') (0,0)=(best,hint):=by
     intro e
     refine go _ _ ?_ ?_
     ·rw [hfs,e]
      cases fndW n ws (ws.take i)<;>rfl
     ·cases fndW n ws (ws.take i) with
      |none=>intro _;rfl
      |some v=>intro h;cases h
    refine aE (λh0=>?_) (λh0=>same (by unfold majW;rw [decide_eq_false (by omega:¬ cwA x≠0)];rfl) _)
    refine aG (vS z n hn) ?_
    rintro v u4 ⟨rfl,rfl⟩
    refine ⟨_,rfl,aE (λhm=>?_) (λhm=>same (by unfold majW;rw [decide_eq_false (show ¬ (j3 n≤(cntW (cwA x) ws:Int)) from hm),Bool.and_false]) _)⟩
    have hmj:majW n ws x=true:=by
     unfold majW
     rw [decide_eq_true (show cwA x≠0 by omega),decide_eq_true (show j3 n≤(cntW (cwA x) ws:Int) from hm)]
     rfl
    cases hf:fndW n ws (ws.take i) with
    |none=>
     rw [hf] at hfs
     exact cG rfl (go _ true (by rw [hfs];simp [hmj]) (by simp) _)
    |some v=>
     rw [hf] at hfs
     exact dM rfl (go _ true (by rw [hfs];simp) (by simp) _)
 ·rw [nJ,show ws.take i=ws from List.take_of_length_le (by omega)]
  rw [show ws.take i=ws from List.take_of_length_le (by omega)] at hbe
  unfold decR
  rw [hbe]
  exact ⟨rfl,rfl⟩
end Go.Proofs.YtafopfaomkklpaaGreat
namespace Go.Proofs.YtafopfaomkklpaaGreat
open Go.Eng
set_option maxHeartbeats 2000000 in
theorem BK {M:Nat→Prop} {w:World} {a:Option Addr} {c:Nat} {raw:List aY} {ds:List Done} (hr:Rd w a (gS raw).flatten) (hd:Ds w raw ds) (hok:ds.all qO=true) {bb:Option Addr} {bl bc:Nat} (hbb:Rd w bb (is ((ds.map ans1).map gI))) (hbl:bl=ds.length) {r:aF} {v:Vw} (hv:eX M w r v)
  (hm:∀ m ∈ v.mem,(0≤m.Node∧m.Node<ds.length)∧1≤m.Boot∧m.Boot≤31) :
  Does 55 [r.val,.slice bb bl bc,.slice a raw.length c] w (yB w (fO (ds.map ans1) v.mem (List.replicate 6 0))):=by
 refine does Tryz.func55 ?_
 rw [rF]
 rintro b1 w1 hb1 hw1
 obtain ⟨hz,hn⟩:=aR hb1 hw1
 have hz:Blk w1 b1 r.cells TVw:=hz
 clear hw1
 refine ⟨by omega,by omega,by omega,by omega,?_⟩
 rintro b2 w2 hb2 hw2
 obtain ⟨hz2,hn2⟩:=aR hb2 hw2
 have hz2:Blk w2 b2 (is (List.replicate 6 0)) TI:=hz2
 clear hw2
 have hsz:=hn.size
 have hb20:w.heap.size≤b2:=by omega
 have hb12:b1≠b2:=by have:=hz.lt;omega
 have hlen:=hv.len
 have hsm:=hv.small
 have hrl:=hd.1
 generalize hD:fO (ds.map ans1) v.mem (List.replicate 6 0)=D
 refine aS mix (λm env u=>∃ (i:Nat) (acc:List Int) (jj:List Value),m=v.mem.length - i∧i≤v.mem.length∧env=cD bb bl bc a raw.length c ⟨b1,0,none⟩ (some ⟨b2,0,none⟩) 6 6 i jj∧New w u∧acc.length=6∧Blk u b1 r.cells TVw∧Blk u b2 (is acc) TI∧fO (ds.map ans1) (v.mem.drop i) acc=D) v.mem.length
  ⟨0,List.replicate 6 0,_,by omega,by omega,rfl,hn.new hn2,rfl,New.blk hn2 hz,hz2,hD⟩ ?_
 clear hz2 hz hn hn2
 rintro m env u ⟨i,acc,jj,rfl,hi,rfl,hnu,hal,hz,hba,hgo⟩
 rw [lQ]
 refine ⟨_,_,_,hz.cell (i:=1) rfl,aE (λhp=>⟨_,_,_,hz.cell (i:=1) rfl,?_⟩) (λhp=>?_)⟩
 ·have hlt:i<v.mem.length:=by omega
  have hg:v.mem[i]?=some v.mem[i]:=List.getElem?_eq_getElem hlt
  have hmi:=hm _ (List.getElem_mem hlt)
  rw [List.drop_eq_getElem_cons hlt] at hgo
  generalize v.mem[i]=mb at hg hmi hgo
  refine fY (cells:=aC.cells) aC.len (by omega) (hv.rd.new hnu) hg rfl hlen λb o hc _=>aC.mk_ex mb ⟨hc,?_⟩
  refine kE (vs:=mb.cells) rfl (aC.single _) λb3 u3 hb3 hz3 hn3=>?_
  rintro u4 hu4
  have hn4:New u3 u4:=by rw [hu4];exact aW _
  clear hu4
  have hnu3:=hnu.new hn3
  have hnu4:=hnu3.new hn4
  have hba4:=New.blk hn4 (New.blk hn3 hba)
  have hz4:=New.blk hn4 (New.blk hn3 hz)
  have hz34:=New.blk hn4 hz3
  have hb32:b3≠b2:=by have:=hba.lt;omega
  refine ⟨λy=>New u4 y,Keep.refl _ _,_,λy hy=>(New.blk hy hz34).cell (i:=0) rfl,?_⟩
  obtain ⟨q,hq⟩:=Int.eq_ofNat_of_zero_le hmi.1.1
  have hql:q<ds.length:=by omega
  have hgr:raw[q]?=some raw[q]:=List.getElem?_eq_getElem (by omega)
  have hgd:ds[q]?=some ds[q]:=List.getElem?_eq_getElem hql
  have hda:=hd.2 q _ _ hgr hgd
  have hcode:=hda.code
  have hwl:=hda.len
  have hLq:(ds.map ans1)[q]?=some (ans1 ds[q]):=by rw [List.getElem?_map,hgd];rfl
  have hgD:(ds.map ans1).getD mb.Node.toNat none=ans1 ds[q]:=by rw [hq,Int.toNat_natCast];exact oJ hLq
  unfold fO at hgo
  rw [hgD] at hgo
  have hnext:fO (ds.map ans1) (v.mem.drop (i+1)) acc=D→∀ jj',∃ m',m'<v.mem.length - i∧∃ (i':Nat) (acc:List Int) (jj:List Value),m'=v.mem.length - i'∧i'≤v.mem.length∧cD bb bl bc a raw.length c ⟨b1,0,none⟩ (some ⟨b2,0,none⟩) 6 6 (IntKind.i64.wrap ((i:Int)+1)) jj'=cD bb bl bc a raw.length c ⟨b1,0,none⟩ (some ⟨b2,0,none⟩) 6 6 i' jj∧New w u4∧acc.length=6∧Blk u4 b1 r.cells TVw∧Blk u4 b2 (is acc) TI∧fO (ds.map ans1) (v.mem.drop i') acc=D:=by
   intro e jj'
   rw [w64 (by omega) (by omega)]
   exact ⟨v.mem.length - (i+1),by omega,i+1,acc,jj',rfl,by omega,rfl,hnu4,hal,hz4,hba4,e⟩
  refine iN (cells:=aY.cells) aY.len (by omega) (hr.new hnu4) hgr hq rfl λb' o' hcD=>⟨_,λy hy=>hcD y hy 0 _ rfl,bE (λhc0=>?_) (λhc0=>?_)⟩
  ·refine hnext ?_ _
   have:ans1 ds[q]=none:=by unfold ans1;rw [if_pos (by omega)]
   rw [this] at hgo
   exact hgo
  have hcd:ds[q].code=0:=by omega
  have hans:ans1 ds[q]=some ds[q].words:=by unfold ans1;rw [if_neg (λe=>e hcd)]
  rw [hans] at hgo
  have hw32:ds[q].words.length=32:=by
   have h1:=List.all_eq_true.1 hok _ (List.getElem_mem hql)
   unfold qO at h1
   rw [hcd] at h1
   simpa using h1
  have hbw:((ds.map ans1).map gI)[q]?=some (ds[q].words.getD 1 0):=by rw [List.getElem?_map,hLq,hans];rfl
  refine ⟨_,λy hy=>(New.blk hy hz34).cell (i:=0) rfl,rd_i (hbb.new hnu4) hbw hq (by rw [List.length_map,List.length_map];exact hbl) λb5 o5 hc5=>⟨_,hc5,_,λy hy=>(New.blk hy hz34).cell (i:=1) rfl,bE (λhe=>?_) (λhe=>?_)⟩⟩
  ·refine hnext ?_ _
   dsimp only at hgo
   rw [if_pos he] at hgo
   exact hgo
  dsimp only at hgo
  rw [if_neg (λe=>e he)] at hgo
  have hwf:=hda.wf
  have hwrd:=hda.rd
  generalize ds[q].words=ws at hgo hw32 hwf hwrd hwl
  generalize hDF:i5 ws 6 0 acc=DF at hgo
  clear hnext hbw hans hgD hLq hcD hc5 hc
  refine aS mix (λm env z=>∃ (k:Nat) (ac:List Int) (jj:List Value),m=6 - k∧k≤6∧env=fE bb bl bc a raw.length c ⟨b1,0,none⟩ (some ⟨b2,0,none⟩) 6 6 i ⟨b3,0,none⟩ k jj∧New w z∧ac.length=6∧Blk z b1 r.cells TVw∧Blk z b3 mb.cells TMb∧Blk z b2 (is ac) TI∧i5 ws (6 - k) k ac=DF) 6
   ⟨0,acc,_,by omega,by omega,rfl,hnu4,hal,hz4,hz34,hba4,hDF⟩ ?_
  clear hba4 hz4 hz34 hn4 hn3 hDF hz3 hba hz hal
  rintro m env z ⟨k,ac,jj2,rfl,hk6,rfl,hnz,hacl,hzz,hz3,hbz,hdf⟩
  rw [lR]
  refine aE (λhpk=>?_) (λhpk=>?_)
  ·have hk:k<6:=by omega
   have he6:6 - k=(6 - (k+1))+1:=by omega
   rw [he6,i5] at hdf
   rintro z1 hz1'
   have hn1:New z z1:=by rw [hz1'];exact aW _
   clear hz1'
   have hnz1:=hnz.new hn1
   have hz31:=New.blk hn1 hz3
   have hbz1:=New.blk hn1 hbz
   have hzz1:=New.blk hn1 hzz
   refine ⟨λy=>New z1 y,Keep.refl _ _,_,λy hy=>(New.blk hy hz31).cell (i:=0) rfl,?_⟩
   refine iN (cells:=aY.cells) aY.len (by omega) (hr.new hnz1) hgr hq rfl λb' o' hcD=>⟨_,_,_,λy hy=>hcD y hy 1 _ rfl,?_⟩
   refine aG (zF z1 (by omega) (by omega)) ?_
   rintro x z2 ⟨rfl,rfl⟩
   have hwk:ws[24+k]?=some (ws.getD (24+k) 0):=by rw [List.getD_eq_getElem?_getD,List.getElem?_eq_getElem (by omega)];rfl
   have hu:=hwf _ (List.mem_of_getElem? hwk)
   have hu1:=hu.1
   refine ⟨_,rfl,Keep.refl _ _,rd_w (hwrd.new hnz1) hwk (by omega) hwl λb5 o5 hc5=>⟨_,hc5,aE (λhx6=>?_) (λhx6=>?_)⟩⟩
   ·rw [if_pos hx6] at hdf
    rw [←hdf] at hgo
    dsimp only at hgo
    rw [←hgo]
    exact ⟨hnz1,rfl⟩
   ·rw [if_neg hx6] at hdf
    have hgk:=CM (l:=ac) (i:=k) (by omega)
    have hat:0+(k:Int).toNat * 1=k:=by omega
    refine bG (by omega) (by omega) ⟨ac.getD k 0,by rw [hat];exact hbz1.cell hgk,bG (by omega) (by omega) ⟨⟨_,by rw [hat];exact hbz1.cell hgk⟩,by rw [hat];exact hbz1.frozen,?_⟩⟩
    rintro z3 hz3'
    rw [hat] at hz3'
    rw [w64 (x:=ws.getD (24+k) 0) (by omega) (by omega)] at hz3'
    have hmx:(if ac.getD k 0<ws.getD (24+k) 0 then ws.getD (24+k) 0 else ac.getD k 0)=max (ac.getD k 0) (ws.getD (24+k) 0):=by split<;>omega
    rw [hmx] at hz3'
    rw [w64 (x:=(k:Int)+1) (by omega) (by omega)]
    have hb2':=hbz1.setCell (i:=k) (.int .i64 (max (ac.getD k 0) (ws.getD (24+k) 0)))
    rw [CN,←hz3'] at hb2'
    have hkz:Keep (λq=>q=b2) z2 z3:=by rw [hz3'];exact aN _ _ _ _
    exact ⟨6 - (k+1),by omega,k+1,_,_,rfl,by omega,rfl,hnz1.trans hkz λq hlt e=>by omega,by rw [List.length_set];exact hacl,hkz.blk hzz1 hb12,hkz.blk hz31 hb32,hb2',hdf⟩
  ·have hk6':k=6:=by omega
   subst hk6'
   rw [nN]
   rw [show 6 - 6=0 from rfl,i5] at hdf
   rw [←hdf] at hgo
   dsimp only at hgo
   rw [w64 (by omega) (by omega)]
   exact ⟨v.mem.length - (i+1),by omega,i+1,ac,_,rfl,by omega,rfl,hnz,hacl,hzz,hbz,hgo⟩
 ·rw [nM]
  have hin:v.mem.drop i=[]:=List.drop_eq_nil_of_le (by omega)
  rw [hin] at hgo
  unfold fO at hgo
  rw [←hgo]
  exact ⟨hnu,b2,rfl,hb20,hba,hal⟩
end Go.Proofs.YtafopfaomkklpaaGreat
