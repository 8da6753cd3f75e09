/- A part of the proof. -/
import Derived.Test.YtafopfaomkklpaaGreatp11
set_option linter.unusedVariables false
namespace Go.Proofs.YtafopfaomkklpaaGreat
open Go.Proofs.Tryz
open Go.Eng
theorem Fs {u:World} {a:Option Addr} {n cap b1:Nat} {L:List Int} {T:TypeId} (ho:Owns u 3 1 a n cap (is L)) {x:Int} (hb:Blk u b1 [.int .i64 x] T) (hb1:n≤1000000) {K:Option Addr→Nat→Nat→World→Prop}
  (hk:∀ ap cap' w3,Owns w3 3 1 ap (n+1) cap' (is (L++[x]))→Keep (isB a) u w3→(∀ k,isB ap k→isB a k∨u.heap.size≤k)→K ap (n+1) cap' w3) :
  ∃ (ap:Option Addr) (ap_len ap_cap:Nat),∃ w3,(Builtin.append_ #[33,33] 33 #[(.slice a n cap),(.slice (some ⟨b1,0,none⟩) 1 1)]).run prog u=.ok (.slice ap ap_len ap_cap) w3∧K ap ap_len ap_cap w3:=by
 obtain ⟨inf,hi,hz,hsz,hby⟩:=p7 (T:=3) (z:=.int .i64 0) (n:=1) (m:=8) (by kernel_rfl)
 rw [←hsz] at ho
 obtain ⟨ap,cap',w7,hrun,hown,hkp,hap⟩:=Owns.append (P:=prog) (t:=33) (ty:=33) Tryz.underlying33 hi hz (by rw [hsz];rfl) (by omega) ho (s:=some ⟨b1,0,none⟩) (m:=1) (c:=1) (news:=[.int .i64 x]) (by rw [hsz];rfl) (eV hb (by simp)) (by intro v hv;simp at hv;subst hv;rfl) (by omega) (by rw [hby];omega)
 rw [hsz] at hown
 refine ⟨ap,n+1,cap',w7,hrun,hk ap cap' w7 (by simpa [is] using hown) hkp λk hk=>?_⟩
 rcases hap with e | e
 ·exact .inl (e▸hk)
 ·obtain ⟨o,ho⟩:=hk
  rw [e] at ho
  simp at ho
  exact .inr (by omega)
theorem CQ {u:World} {a:Option Addr} {n cap b1:Nat} {L:List Int} {T:TypeId} (ho:Owns u 32 1 a n cap (us L)) {x:Int} (hb:Blk u b1 [.int .u64 x] T) (hb1:n≤1000000) {K:Option Addr→Nat→Nat→World→Prop}
  (hk:∀ ap cap' w3,Owns w3 32 1 ap (n+1) cap' (us (L++[x]))→Keep (isB a) u w3→(∀ k,isB ap k→isB a k∨u.heap.size≤k)→K ap (n+1) cap' w3) :
  ∃ (ap:Option Addr) (ap_len ap_cap:Nat),∃ w3,(Builtin.append_ #[34,34] 34 #[(.slice a n cap),(.slice (some ⟨b1,0,none⟩) 1 1)]).run prog u=.ok (.slice ap ap_len ap_cap) w3∧K ap ap_len ap_cap w3:=by
 obtain ⟨inf,hi,hz,hsz,hby⟩:=p7 (T:=32) (z:=.int .u64 0) (n:=1) (m:=8) (by kernel_rfl)
 rw [←hsz] at ho
 obtain ⟨ap,cap',w7,hrun,hown,hkp,hap⟩:=Owns.append (P:=prog) (t:=34) (ty:=34) Tryz.underlying34 hi hz (by rw [hsz];rfl) (by omega) ho (s:=some ⟨b1,0,none⟩) (m:=1) (c:=1) (news:=[.int .u64 x]) (by rw [hsz];rfl) (eV hb (by simp)) (by intro v hv;simp at hv;subst hv;rfl) (by omega) (by rw [hby];omega)
 rw [hsz] at hown
 refine ⟨ap,n+1,cap',w7,hrun,hk ap cap' w7 (by simpa [us] using hown) hkp λk hk=>?_⟩
 rcases hap with e | e
 ·exact .inl (e▸hk)
 ·obtain ⟨o,ho⟩:=hk
  rw [e] at ho
  simp at ho
  exact .inr (by omega)
abbrev TOut:TypeId:=36
structure rD (w0 u:World) (bo:Nat) (num:Int) (ba:Option Addr) (cb:Nat) (B:List Int) (ka:Option Addr) (ck:Nat) (K:List Int):Prop where
 blk:Blk u bo (aB.cells ⟨0,num,⟨0,none,0,0⟩,0,false,0,ba,B.length,cb,ka,K.length,ck,none,0,0⟩) TOut
 B:Owns u 3 1 ba B.length cb (is B)
 K:Owns u 32 1 ka K.length ck (us K)
 fB:∀ k,isB ba k→w0.heap.size≤k∧k≠bo
 fK:∀ k,isB ka k→w0.heap.size≤k∧k≠bo
 new:New w0 u
 old:w0.heap.size≤bo
theorem Eh {u:World} {a b:Option Addr} {n c n' c':Nat} {X Y:List Value} (h1:Owns u 3 1 a n c X) (h2:Owns u 32 1 b n' c' Y):∀ k,isB b k→¬ isB a k:=by
 rintro k ⟨o,hk⟩ ⟨o',hk'⟩
 rcases h1.2 with ⟨e,_⟩ | ⟨g,cur,e,hg1,_⟩
 ·rw [e] at hk';cases hk'
 ·rcases h2.2 with ⟨e2,_⟩ | ⟨g2,cur2,e2,hg2,_⟩
  ·rw [e2] at hk;cases hk
  ·rw [e] at hk'
   rw [e2] at hk
   simp at hk hk'
   have e3:g=k:=hk'.1
   have e4:g2=k:=hk.1
   subst e3
   rw [e4] at hg2
   exact absurd (hg1.uniq hg2).2 (by decide)
theorem xI {w0 u:World} {bo:Nat} {num rk:Int} {ba:Option Addr} {nb cb:Nat} {ka:Option Addr} {nk ck:Nat} {ap:Option Addr} {nB apc:Nat} {B:List Int} {ap1:Option Addr} {nK ap1c:Nat} {K:List Int}
  (hb:Blk u bo (aB.cells ⟨0,num,⟨0,none,0,0⟩,0,false,0,ba,nb,cb,ka,nk,ck,none,0,0⟩) TOut) (hB:Owns u 3 1 ap nB apc (is B)) (hK:Owns u 32 1 ap1 nK ap1c (us K)) (hnB:nB=B.length) (hnK:nK=K.length)
  (fB:∀ k,isB ap k→w0.heap.size≤k∧k≠bo) (fK:∀ k,isB ap1 k→w0.heap.size≤k∧k≠bo) (hn:New w0 u) (ho:w0.heap.size≤bo) {Kf:Int→World→Prop}
  (hk:∀ w',rD w0 w' bo (max num rk) ap apc B ap1 ap1c K→Kf num w') :
  (∃ v,u.cell? ⟨bo,0+7,none⟩=some v)∧u.frozen? ⟨bo,0+7,none⟩=false∧∀ w30,w30=u.setCell ⟨bo,0+7,none⟩ (.slice ap nB apc)→(∃ v,w30.cell? ⟨bo,0+8,none⟩=some v)∧w30.frozen? ⟨bo,0+8,none⟩=false∧∀ w31,w31=w30.setCell ⟨bo,0+8,none⟩ (.slice ap1 nK ap1c)→∃ (Number:Int),w31.cell? ⟨bo,0+1,none⟩=some (.int .i64 Number)∧(∃ v,w31.cell? ⟨bo,0+1,none⟩=some v)∧w31.frozen? ⟨bo,0+1,none⟩=false∧∀ w32,w32=w31.setCell ⟨bo,0+1,none⟩ (.int .i64 (if (Number:Int)<rk then (rk:Int) else Number))→Kf Number w32:=by
 subst hnB hnK
 refine ⟨⟨_,hb.cell (i:=7) rfl⟩,hb.frozen,?_⟩
 rintro w30 rfl
 have hb1:=hb.setCell (i:=7) (.slice ap B.length apc)
 have k1:=aN u bo 7 (.slice ap B.length apc)
 refine ⟨⟨_,hb1.cell (i:=8) rfl⟩,hb1.frozen,?_⟩
 rintro w31 rfl
 have hb2:=hb1.setCell (i:=8) (.slice ap1 K.length ap1c)
 have k2:=aN (u.setCell ⟨bo,7,none⟩ (.slice ap B.length apc)) bo 8 (.slice ap1 K.length ap1c)
 refine ⟨num,hb2.cell (i:=1) rfl,⟨_,hb2.cell (i:=1) rfl⟩,hb2.frozen,?_⟩
 rintro w32 rfl
 have hmx:(if num<rk then rk else num)=max num rk:=by split<;>omega
 have hb3:=hb2.setCell (i:=1) (.int .i64 (if num<rk then rk else num))
 have k3:=aN ((u.setCell ⟨bo,7,none⟩ (.slice ap B.length apc)).setCell ⟨bo,8,none⟩ (.slice ap1 K.length ap1c)) bo 1 (.int .i64 (if num<rk then rk else num))
 have kk:=(k1.trans k2 λ_ _ h=>h).trans k3 λ_ _ h=>h
 rw [hmx] at hb3 kk ⊢
 refine hk _ ⟨hb3,hB.keep kk λk h=>(fB k h).2,hK.keep kk λk h=>(fK k h).2,fB,fK,hn.trans kk λk hlt e=>by omega,ho⟩
set_option maxHeartbeats 1000000 in
theorem Ft {w0 u:World} {bo:Nat} {num:Int} {ba ka:Option Addr} {cb ck:Nat} {B K:List Int} (hs:rD w0 u bo num ba cb B ka ck K) (hlB:B.length≤100) (hlK:K.length≤100) {x y rk:Int}
  {K1 K2 K3:Option Addr→Nat→Nat→Option Addr→Nat→Nat→Nat→Nat→Option Addr→Nat→Nat→Option Addr→Nat→Nat→Int→World→Prop}
  (h1:∀ b b' ap apc ap1 ap1c w',rD w0 w' bo (max num rk) ap apc (B++[x]) ap1 ap1c (K++[y])→K1 ba B.length cb ka K.length ck b b' ap (B.length+1) apc ap1 (K.length+1) ap1c num w')
  (h2:∀ b b' ap apc ap1 ap1c w',rD w0 w' bo (max num rk) ap apc (B++[x]) ap1 ap1c (K++[y])→K2 ba B.length cb ka K.length ck b b' ap (B.length+1) apc ap1 (K.length+1) ap1c num w')
  (h3:∀ b b' ap apc ap1 ap1c w',rD w0 w' bo (max num rk) ap apc (B++[x]) ap1 ap1c (K++[y])→K3 ba B.length cb ka K.length ck b b' ap (B.length+1) apc ap1 (K.length+1) ap1c num w') :
  ∀ w25,w25=u.drew→∃ Sx2:World→Prop,Sx2 w25∧∃ (Boots1:Option Addr) (Boots1_len:Nat) (Boots1_cap:Nat),(∀ z,Sx2 z→z.cell? ⟨bo,0+7,none⟩=some (.slice Boots1 Boots1_len Boots1_cap))∧∃ (Keys1:Option Addr) (Keys1_len:Nat) (Keys1_cap:Nat),(∀ z,Sx2 z→z.cell? ⟨bo,0+8,none⟩=some (.slice Keys1 Keys1_len Keys1_cap))∧(∀ b6 w26,b6=w25.heap.size→w26=w25.alloc (.cells #[(.int .i64 x)] 3)→Sx2 w26∧(∃ (ap6:Option Addr) (ap6_len:Nat) (ap6_cap:Nat),∃ w27,(Builtin.append_ #[33,33] 33 #[(.slice Boots1 Boots1_len Boots1_cap),(.slice (some ⟨b6,0,none⟩) 1 1)]).run prog w26=.ok (.slice ap6 ap6_len ap6_cap) w27∧Sx2 w27∧∀ b7 w28,b7=w27.heap.size→w28=w27.alloc (.cells #[(.int .u64 y)] 32)→Sx2 w28∧∃ (ap7:Option Addr) (ap7_len:Nat) (ap7_cap:Nat),∃ w29,(Builtin.append_ #[34,34] 34 #[(.slice Keys1 Keys1_len Keys1_cap),(.slice (some ⟨b7,0,none⟩) 1 1)]).run prog w28=.ok (.slice ap7 ap7_len ap7_cap) w29∧Sx2 w29∧(∃ v,w29.cell? ⟨bo,0+7,none⟩=some v)∧w29.frozen? ⟨bo,0+7,none⟩=false∧∀ w30,w30=w29.setCell ⟨bo,0+7,none⟩ (.slice ap6 ap6_len ap6_cap)→(∃ v,w30.cell? ⟨bo,0+8,none⟩=some v)∧w30.frozen? ⟨bo,0+8,none⟩=false∧∀ w31,w31=w30.setCell ⟨bo,0+8,none⟩ (.slice ap7 ap7_len ap7_cap)→∃ (Number3:Int),w31.cell? ⟨bo,0+1,none⟩=some (.int .i64 Number3)∧(∃ v,w31.cell? ⟨bo,0+1,none⟩=some v)∧w31.frozen? ⟨bo,0+1,none⟩=false∧∀ w32,w32=w31.setCell ⟨bo,0+1,none⟩ (.int .i64 (if (Number3:Int)<rk then (rk:Int) else Number3))→K1 Boots1 Boots1_len Boots1_cap Keys1 Keys1_len Keys1_cap b6 b7 ap6 ap6_len ap6_cap ap7 ap7_len ap7_cap Number3 w32)∧(∀ b8 w33,b8=w26.heap.size→w33=w26.alloc (.cells #[(.int .u64 y)] 32)→Sx2 w33∧∃ (ap8:Option Addr) (ap8_len:Nat) (ap8_cap:Nat),∃ w34,(Builtin.append_ #[33,33] 33 #[(.slice Boots1 Boots1_len Boots1_cap),(.slice (some ⟨b6,0,none⟩) 1 1)]).run prog w33=.ok (.slice ap8 ap8_len ap8_cap) w34∧Sx2 w34∧∃ (ap9:Option Addr) (ap9_len:Nat) (ap9_cap:Nat),∃ w35,(Builtin.append_ #[34,34] 34 #[(.slice Keys1 Keys1_len Keys1_cap),(.slice (some ⟨b8,0,none⟩) 1 1)]).run prog w34=.ok (.slice ap9 ap9_len ap9_cap) w35∧Sx2 w35∧(∃ v,w35.cell? ⟨bo,0+7,none⟩=some v)∧w35.frozen? ⟨bo,0+7,none⟩=false∧∀ w36,w36=w35.setCell ⟨bo,0+7,none⟩ (.slice ap8 ap8_len ap8_cap)→(∃ v,w36.cell? ⟨bo,0+8,none⟩=some v)∧w36.frozen? ⟨bo,0+8,none⟩=false∧∀ w37,w37=w36.setCell ⟨bo,0+8,none⟩ (.slice ap9 ap9_len ap9_cap)→∃ (Number4:Int),w37.cell? ⟨bo,0+1,none⟩=some (.int .i64 Number4)∧(∃ v,w37.cell? ⟨bo,0+1,none⟩=some v)∧w37.frozen? ⟨bo,0+1,none⟩=false∧∀ w38,w38=w37.setCell ⟨bo,0+1,none⟩ (.int .i64 (if (Number4:Int)<rk then (rk:Int) else Number4))→K2 Boots1 Boots1_len Boots1_cap Keys1 Keys1_len Keys1_cap b6 b8 ap8 ap8_len ap8_cap ap9 ap9_len ap9_cap Number4 w38))∧(∀ b9 w39,b9=w25.heap.size→w39=w25.alloc (.cells #[(.int .u64 y)] 32)→Sx2 w39∧∀ b10 w40,b10=w39.heap.size→w40=w39.alloc (.cells #[(.int .i64 x)] 3)→Sx2 w40∧∃ (ap10:Option Addr) (ap10_len:Nat) (ap10_cap:Nat),∃ w41,(Builtin.append_ #[33,33] 33 #[(.slice Boots1 Boots1_len Boots1_cap),(.slice (some ⟨b10,0,none⟩) 1 1)]).run prog w40=.ok (.slice ap10 ap10_len ap10_cap) w41∧Sx2 w41∧∃ (ap11:Option Addr) (ap11_len:Nat) (ap11_cap:Nat),∃ w42,(Builtin.append_ #[34,34] 34 #[(.slice Keys1 Keys1_len Keys1_cap),(.slice (some ⟨b9,0,none⟩) 1 1)]).run prog w41=.ok (.slice ap11 ap11_len ap11_cap) w42∧Sx2 w42∧(∃ v,w42.cell? ⟨bo,0+7,none⟩=some v)∧w42.frozen? ⟨bo,0+7,none⟩=false∧∀ w43,w43=w42.setCell ⟨bo,0+7,none⟩ (.slice ap10 ap10_len ap10_cap)→(∃ v,w43.cell? ⟨bo,0+8,none⟩=some v)∧w43.frozen? ⟨bo,0+8,none⟩=false∧∀ w44,w44=w43.setCell ⟨bo,0+8,none⟩ (.slice ap11 ap11_len ap11_cap)→∃ (Number5:Int),w44.cell? ⟨bo,0+1,none⟩=some (.int .i64 Number5)∧(∃ v,w44.cell? ⟨bo,0+1,none⟩=some v)∧w44.frozen? ⟨bo,0+1,none⟩=false∧∀ w45,w45=w44.setCell ⟨bo,0+1,none⟩ (.int .i64 (if (Number5:Int)<rk then (rk:Int) else Number5))→K3 Boots1 Boots1_len Boots1_cap Keys1 Keys1_len Keys1_cap b10 b9 ap10 ap10_len ap10_cap ap11 ap11_len ap11_cap Number5 w45):=by
 obtain ⟨hb,hB,hK,fB,fK,hn,ho⟩:=hs
 rintro w25 rfl
 have hnd:New u u.drew:=aW _
 have hbd:=New.blk hnd hb
 have hBd:=Owns.new hnd hB
 have hKd:=Owns.new hnd hK
 have hsd:=hnd.size
 have hsn:=hn.size
 have hlt:=hb.lt
 have hltB:∀ k,isB ba k→k<u.heap.size:=λk hk=>Owns.lt hB hk
 have hltK:∀ k,isB ka k→k<u.heap.size:=λk hk=>Owns.lt hK hk
 have hapt:=Eh hB hK
 have fin:∀ (w7:World) (ap ap1:Option Addr),Keep (λk=>isB ba k∨isB ka k) u.drew w7→(∀ k,isB ap k→isB ba k∨u.heap.size≤k)→(∀ k,isB ap1 k→isB ka k∨u.heap.size≤k)→
   Blk w7 bo (aB.cells ⟨0,num,⟨0,none,0,0⟩,0,false,0,ba,B.length,cb,ka,K.length,ck,none,0,0⟩) TOut∧New w0 w7∧(∀ k,isB ap k→w0.heap.size≤k∧k≠bo)∧(∀ k,isB ap1 k→w0.heap.size≤k∧k≠bo):=by
  intro w7 ap ap1 hk hap hap1
  refine ⟨hk.blk hbd λe=>?_,(hn.new hnd).trans hk λk hlt e=>?_,λk h=>?_,λk h=>?_⟩
  ·rcases e with e | e
   ·exact (fB bo e).2 rfl
   ·exact (fK bo e).2 rfl
  ·rcases e with e | e
   ·have:=(fB k e).1;omega
   ·have:=(fK k e).1;omega
  ·rcases hap k h with e | e
   ·exact fB k e
   ·omega
  ·rcases hap1 k h with e | e
   ·exact fK k e
   ·omega
 have hapB:∀ (ap:Option Addr) (z:Nat),u.heap.size≤z→(∀ k,isB ap k→isB ba k∨z≤k)→∀ k,isB ap k→¬ isB ka k:=by
  intro ap z hz hap k h h'
  rcases hap k h with e | e
  ·exact hapt k h' e
  ·have:=hltK k h';omega
 have wk:∀ {a:Option Addr} {ap:Option Addr} {z:Nat},u.heap.size≤z→(∀ k,isB ap k→isB a k∨z≤k)→∀ k,isB ap k→isB a k∨u.heap.size≤k:=by
  intro a ap z hz hap k h
  rcases hap k h with e | e
  ·exact .inl e
  ·exact .inr (by omega)
 have both:∀ (v:World) (p q:Nat) (TX TY:TypeId),New u.drew v→Blk v p [.int .i64 x] TX→Blk v q [.int .u64 y] TY→u.heap.size≤q→∀ (KK:Option Addr→Nat→Nat→World→Option Addr→Nat→Nat→World→Prop),
   (∀ ap apc w27 ap1 ap1c w29,Keep (λk=>isB ba k∨isB ka k) u.drew w27→Keep (λk=>isB ba k∨isB ka k) u.drew w29→Owns w29 3 1 ap (B.length+1) apc (is (B++[x]))→Owns w29 32 1 ap1 (K.length+1) ap1c (us (K++[y]))→(∀ k,isB ap k→isB ba k∨u.heap.size≤k)→(∀ k,isB ap1 k→isB ka k∨u.heap.size≤k)→KK ap (B.length+1) apc w27 ap1 (K.length+1) ap1c w29)→
   ∃ (ap:Option Addr) (ap_len ap_cap:Nat),∃ w27,(Builtin.append_ #[33,33] 33 #[(.slice ba B.length cb),(.slice (some ⟨p,0,none⟩) 1 1)]).run prog v=.ok (.slice ap ap_len ap_cap) w27∧Keep (λk=>isB ba k∨isB ka k) u.drew w27∧
    ∃ (ap1:Option Addr) (ap1_len ap1_cap:Nat),∃ w29,(Builtin.append_ #[34,34] 34 #[(.slice ka K.length ck),(.slice (some ⟨q,0,none⟩) 1 1)]).run prog w27=.ok (.slice ap1 ap1_len ap1_cap) w29∧KK ap ap_len ap_cap w27 ap1 ap1_len ap1_cap w29:=by
  intro v p q TX TY hv hp hq hq0 KK hKK
  have hsv:=hv.size
  refine Fs (Owns.new hv hBd) hp (by omega) ?_
  intro ap apc w27 hO hk hap
  have hqk:¬ isB ba q:=λe=>by have:=hltB q e;omega
  refine ⟨(Keep.of_new hv).trans hk λ_ _ h=>.inl h,?_⟩
  refine CQ (Owns.keep hk (Owns.new hv hKd) hapt) (hk.blk hq hqk) (by omega) ?_
  intro ap1 ap1c w29 hO1 hk1 hap1
  have hs27:=hk.size
  refine hKK ap apc w27 ap1 ap1c w29 ((Keep.of_new hv).trans hk λ_ _ h=>.inl h) (((Keep.of_new hv).trans hk λ_ _ h=>.inl h).trans hk1 λ_ _ h=>.inr h) (Owns.keep hk1 hO (hapB ap _ (by omega) hap)) hO1 (wk (by omega) hap) (wk (by omega) hap1)
 refine ⟨λz=>Keep (λk=>isB ba k∨isB ka k) u.drew z,Keep.refl _ _,ba,B.length,cb,λz hz=>(hz.blk hbd λe=>by rcases e with e | e;exact (fB bo e).2 rfl;exact (fK bo e).2 rfl).cell (i:=7) rfl,
  ka,K.length,ck,λz hz=>(hz.blk hbd λe=>by rcases e with e | e;exact (fB bo e).2 rfl;exact (fK bo e).2 rfl).cell (i:=8) rfl,?_,?_⟩
 ·rintro b6 w26 hb6 hw26
  obtain ⟨hz,hnz⟩:=aR hb6 hw26
  have hz:Blk w26 b6 [.int .i64 x] 3:=hz
  clear hw26
  have hs26:=hnz.size
  refine ⟨Keep.of_new hnz,?_,?_⟩
  ·refine Fs (Owns.new hnz hBd) hz (by omega) ?_
   intro ap apc w27 hO hk hap
   have hk27:Keep (λk=>isB ba k∨isB ka k) u.drew w27:=(Keep.of_new hnz).trans hk λ_ _ h=>.inl h
   have hs27:=hk.size
   refine ⟨hk27,?_⟩
   rintro b7 w28 hb7 hw28
   obtain ⟨hz7,hn7⟩:=aR hb7 hw28
   have hz7:Blk w28 b7 [.int .u64 y] 32:=hz7
   clear hw28
   have hs28:=hn7.size
   refine ⟨hk27.new hn7,?_⟩
   refine CQ (Owns.new hn7 (Owns.keep hk (Owns.new hnz hKd) hapt)) hz7 (by omega) ?_
   intro ap1 ap1c w29 hO1 hk1 hap1
   have hk29:Keep (λk=>isB ba k∨isB ka k) u.drew w29:=(hk27.new hn7).trans hk1 λ_ _ h=>.inr h
   have hap':=wk (a:=ba) (by omega) hap
   have hap1':=wk (a:=ka) (by omega) hap1
   obtain ⟨f1,f2,f3,f4⟩:=fin w29 ap ap1 hk29 hap' hap1'
   exact ⟨hk29,xI f1 (Owns.keep hk1 (Owns.new hn7 hO) (hapB ap _ (Nat.le_refl _) hap')) hO1 (by simp) (by simp) f3 f4 f2 ho λw' h=>h1 _ _ _ _ _ _ _ h⟩
  ·rintro b8 w33 hb8 hw33
   obtain ⟨hz8,hn8⟩:=aR hb8 hw33
   have hz8:Blk w33 b8 [.int .u64 y] 32:=hz8
   clear hw33
   have hn':New u.drew w33:=hnz.new hn8
   refine ⟨Keep.of_new hn',?_⟩
   refine both w33 b6 b8 _ _ hn' (New.blk hn8 hz) hz8 (by omega) _ ?_
   intro ap apc w27 ap1 ap1c w29 hk27 hk29 hO hO1 hap hap1
   obtain ⟨f1,f2,f3,f4⟩:=fin w29 ap ap1 hk29 hap hap1
   exact ⟨hk29,xI f1 hO hO1 (by simp) (by simp) f3 f4 f2 ho λw' h=>h2 _ _ _ _ _ _ _ h⟩
 ·rintro b9 w39 hb9 hw39
  obtain ⟨hz9,hn9⟩:=aR hb9 hw39
  have hz9:Blk w39 b9 [.int .u64 y] 32:=hz9
  clear hw39
  have hs39:=hn9.size
  refine ⟨Keep.of_new hn9,?_⟩
  rintro b10 w40 hb10 hw40
  obtain ⟨hz10,hn10⟩:=aR hb10 hw40
  have hz10:Blk w40 b10 [.int .i64 x] 3:=hz10
  clear hw40
  have hn':New u.drew w40:=hn9.new hn10
  refine ⟨Keep.of_new hn',?_⟩
  refine both w40 b10 b9 _ _ hn' hz10 (New.blk hn10 hz9) (by omega) _ ?_
  intro ap apc w27 ap1 ap1c w29 hk27 hk29 hO hO1 hap hap1
  obtain ⟨f1,f2,f3,f4⟩:=fin w29 ap ap1 hk29 hap hap1
  exact ⟨hk29,xI f1 hO hO1 (by simp) (by simp) f3 f4 f2 ho λw' h=>h3 _ _ _ _ _ _ _ h⟩
def fD (L:Ctl):Int:=L.foldl (λn x=>max n (keyW x / 2)) 0
theorem wS (L:Ctl) (x:Option (List Int)):fD (L++[x])=max (fD L) (keyW x / 2):=by
 unfold fD
 rw [List.foldl_append]
 rfl
theorem G7 {L:Ctl} (hc:L.any dY=false) {ws:List Int} (h:some ws ∈ L):1≤ws.getD 1 0∧ws.getD 1 0≤31∧ws.getD 0 0<32:=by
 have h1:dY (some ws)=false:=by
  cases hb:dY (some ws) with
  |false=>rfl
  |true=>rw [List.any_eq_true.2 ⟨_,h,hb⟩] at hc;cases hc
 have h2:¬ (ws.getD 1 0<1∨31<ws.getD 1 0∨32≤ws.getD 0 0):=λe=>by rw [(gZ ws).2 e] at h1;cases h1
 omega
set_option maxHeartbeats 1000000 in
theorem G8 {w0 w:World} {a:Option Addr} {c:Nat} {L:Ctl} (h:uu w0 a L) (hl:L.length≤5) (hc:L.any dY=false) {bo:Nat} (hs:rD w0 w bo 0 none 0 [] none 0 []) :
  Does 46 [.slice a L.length c,.pointer (some ⟨bo,0,none⟩)] w λx w'=>x=.tuple #[]∧∃ ba cb ka ck,rD w0 w' bo (fD L) ba cb (L.map gI) ka ck (L.map keyW):=by
 refine does Tryz.func46 ?_
 rw [pJ]
 refine aS mix (λm env u=>∃ (i:Nat) (ba:Option Addr) (cb:Nat) (ka:Option Addr) (ck:Nat) (jj:List Value),m=L.length - i∧i≤L.length∧env=bF ⟨bo,0,none⟩ a L.length c L.length i jj∧rD w0 u bo (fD (L.take i)) ba cb ((L.take i).map gI) ka ck ((L.take i).map keyW)) L.length
  ⟨0,none,0,none,0,_,by omega,by omega,rfl,hs⟩ ?_
 clear hs
 rintro m env u ⟨i,ba,cb,ka,ck,jj,rfl,hi,rfl,hs⟩
 rw [kF]
 refine aE (λhp=>?_) (λhp=>?_)
 ·have hlt:i<L.length:=by omega
  have hg:L[i]?=some L[i]:=List.getElem?_eq_getElem hlt
  have hst:L.take (i+1)=L.take i++[L[i]]:=by rw [List.take_add_one,hg];rfl
  have hmem:=List.getElem_mem hlt
  have hlB:((L.take i).map gI).length≤100:=by simp;omega
  have hlK:((L.take i).map keyW).length≤100:=by simp;omega
  refine h.idxW hs.new hg rfl rfl λad r hc' hall=>⟨_,_,_,hc',?_⟩
  rw [w64 (x:=(i:Int)+1) (by omega) (by omega)]
  have hnext:∀ {w':World} {ap ap1:Option Addr} {apc ap1c:Nat} {num:Int} {B K:List Int} (jj':List Value),num=fD (L.take (i+1))→B=(L.take (i+1)).map gI→K=(L.take (i+1)).map keyW→rD w0 w' bo num ap apc B ap1 ap1c K→
    ∃ m',m'<L.length - i∧∃ (i':Nat) (ba:Option Addr) (cb:Nat) (ka:Option Addr) (ck:Nat) (jj:List Value),m'=L.length - i'∧i'≤L.length∧bF ⟨bo,0,none⟩ a L.length c L.length ((i:Int)+1) jj'=bF ⟨bo,0,none⟩ a L.length c L.length i' jj∧rD w0 w' bo (fD (L.take i')) ba cb ((L.take i').map gI) ka ck ((L.take i').map keyW):=by
   rintro w' ap ap1 apc ap1c num B K jj' rfl rfl rfl hs'
   exact ⟨L.length - (i+1),by omega,i+1,ap,apc,ap1,ap1c,jj',rfl,by omega,rfl,hs'⟩
  rw [hst] at hnext
  generalize L[i]=x at hall hmem hnext
  have eN:=wS (L.take i) x
  cases x with
  |none=>
   have hok:r.a=none:=hall u hs.new
   rw [hok]
   refine dM rfl ?_
   refine aG (wR u (k:=0) ⟨by omega,by omega⟩) ?_
   rintro v u1 ⟨rfl,rfl⟩
   refine ⟨_,_,rfl,?_⟩
   rw [w64 (x:=(0:Int) / 2) (by omega) (by omega)]
   refine Ft hs hlB hlK ?_ ?_ ?_
   all_goals
    intro b b' ap apc ap1 ap1c w' hs'
    exact hnext _ (by rw [eN];rfl) (by simp [gI]) (by simp [keyW]) hs'
  |some ws=>
   have hok:=hall u hs.new
   obtain ⟨g1,g2,g3⟩:=G7 hc hmem
   have hu:=hok.u64 0
   have hu1:=hu.1
   have hsome:(!(Option.isNone r.a))=true:=by
    cases ha:r.a with
    |none=>exact absurd ha hok.1
    |some b=>rfl
   refine cG hsome ?_
   rintro u0 hu0
   have hn0:New u u0:=by rw [hu0];exact aW _
   clear hu0
   obtain ⟨ba',oa,hra⟩:∃ b o,r.a=some ⟨b,o,none⟩:=by
    rcases hok.2.2.2.1 with e | ⟨b,o,he,_⟩
    ·have h0:ws=[]:=by simpa [us] using e
     have h1:=hok.2.2.1
     rw [h0] at h1
     simp at h1
    ·exact ⟨b,o,he⟩
   have hrc:∀ y,New u y→∀ (q:Nat),q<32→y.cell? ⟨ba',oa+q,none⟩=some (.int .u64 (ws.getD q 0)):=by
    intro y hy q hq
    obtain ⟨_,_,k3,k4,_⟩:=hall y (hs.new.new hy)
    rw [hra] at k4
    refine k4.cell ?_
    unfold us
    rw [List.getElem?_map,List.getElem?_eq_getElem (by omega),List.getD_eq_getElem?_getD,List.getElem?_eq_getElem (by omega)]
    rfl
   have k2:=hok.2.1
   rw [hra]
   refine ⟨λy=>New u0 y,Keep.refl _ _,bG (by omega) (by omega) ⟨ws.getD 1 0,λy hy=>by simpa using hrc y (hn0.new hy) 1 (by omega),bG (by omega) (by omega) ⟨ws.getD 0 0,λy hy=>by simpa using hrc y (hn0.new hy) 0 (by omega),?_⟩⟩⟩
   refine aG (wR u0 hu) ?_
   rintro v u1 ⟨rfl,rfl⟩
   refine ⟨_,_,rfl,?_⟩
   rw [w64 (x:=ws.getD 0 0 / 2) (by omega) (by omega),w64 (x:=ws.getD 1 0) (by omega) (by omega)]
   have hs1:rD w0 u1 bo (fD (L.take i)) ba cb ((L.take i).map gI) ka ck ((L.take i).map keyW):=⟨New.blk hn0 hs.blk,Owns.new hn0 hs.B,Owns.new hn0 hs.K,hs.fB,hs.fK,hs.new.new hn0,hs.old⟩
   refine Ft hs1 hlB hlK ?_ ?_ ?_
   all_goals
    intro b b' ap apc ap1 ap1c w' hs'
    exact hnext _ (by rw [eN];rfl) (by simp [gI]) (by simp [keyW]) hs'
 ·rw [show L.take i=L from List.take_of_length_le (by omega)] at hs
  exact ⟨rfl,ba,cb,ka,ck,hs⟩
end Go.Proofs.YtafopfaomkklpaaGreat
