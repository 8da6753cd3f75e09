import Derived.Test.YtegepanmkjemjaaGreatt35
import Derived.Test.YtegepanmkjemjaaGreatt36
set_option linter.unusedVariables false
namespace Go.Proofs.YtegepanmkjemjaaGreat
open Go.Proofs.Tryz
open Go.Eng
theorem Gs (p q:aD):Go.Mx.eqvL (us (pgD p)) (us (pgD q))=true↔pgD p=pgD q:=by
 obtain ⟨a0,a1,a2,a3,a4,a5,a6,a7,a8⟩:=p
 obtain ⟨b0,b1,b2,b3,b4,b5,b6,b7,b8⟩:=q
 simp [us,pgD,Go.Mx.eqvL,Go.Mx.eqv1]
abbrev TDa:TypeId:=53
theorem Gt:Go.Mx.vX prog 8 TDa=some [false,false,false,false,false,false,false]:=by kernel_rfl
theorem HA:isAgg? prog TDa=true:=by kernel_rfl
theorem EE:Program.eqGuardType prog (Program.depth prog) TDa=false:=by kernel_rfl
set_option maxRecDepth 20000 in
theorem wz (p q:aD) {K:Bool→Prop} (hk:∀ b,(b=true↔pgD p=pgD q)→K b):yS prog TDa (.agg (us (pgD p)).toArray) (.agg (us (pgD q)).toArray) K:=by
 refine ⟨Go.Mx.eqvL (us (pgD p)) (us (pgD q)),λw=>?_,hk _ (Gs p q)⟩
 have hc:Go.Mx.sN [false,false,false,false,false,false,false] (us (pgD p)) (us (pgD q)):=by
  obtain ⟨a0,a1,a2,a3,a4,a5,a6,a7,a8⟩:=p
  obtain ⟨b0,b1,b2,b3,b4,b5,b6,b7,b8⟩:=q
  exact ⟨rfl,rfl,rfl,rfl,rfl,rfl,rfl,trivial⟩
 have hq:=Go.Mx.CO 8 TDa _ Gt 10000 (by omega) (us (pgD p)) (us (pgD q)) hc w
 unfold Go.Mx.vY at hq
 rw [if_pos HA] at hq
 generalize Go.Mx.eqvL (us (pgD p)) (us (pgD q))=e at hq
 have hq':(Op.equalIn 10000 TDa (.agg (us (pgD p)).toArray) (.agg (us (pgD q)).toArray)).run prog w=.ok e w:=hq
 exact ⟨λop x y=>run_eqGuard_agg w op TDa x y _ _ EE,by rw [run_eql_struct,hq'];rfl,by rw [run_neq_struct,hq'];rfl⟩
def cnt (b:Bool):Int:=if b then 1 else 0
set_option maxHeartbeats 2000000 in
theorem EF {z:World} {s0:Addr} {b1 b3 b4:Nat} {s5:Addr} {n:Int} {s7 s8:Bool} {lk:Int} {i k c:Nat} {job:aM} {F:List Int} {x:Int} {p q:aD} {W:List aD} {R:Value→World→Prop}
  (hj:Blk z b1 job.cells 34) (hf:Blk z b3 (is F) 142) (hp:Blk z b4 p.cells 55) (hFl:F.length=5) (hi:i<5) (hFi:F[i]?=some x) (hx:0≤x∧x<1000) (hlk:0≤lk∧lk<1000) (hne:b3≠b1∧b3≠b4)
  (hW:Rd z job.Writes (dF W).flatten) (hWl:job.Writes_l=W.length) (hq:W[k]?=some q) (hc:job.Client=c) (hc6:c<6) (hok:pgOk c i p q=true)
  {Q:Exit→List Value→World→Prop} (hQ:∀ env z,Q .ret env z=retQ prog f47 R .ret env z)
  (hnext:∀ (z':World) (jj:List Value),Keep (λb=>b=b3) z z'→Blk z' b3 (is (F.set i (x+cnt (rG p q)))) 142→Q .normal (cZ s0 ⟨b1,0,none⟩ s5 n s7 s8 ⟨b3,0,none⟩ (lk+cnt (pgLk p)) i k jj) z') (jj:List Value) :
  Go.Eng.W prog (sub (aB f47) [1,1,1,1,1,1,0,1,0,0,1,0,0,1,1,1,1,1,1,1,0,0,1,0,0,1]) (eh s0 ⟨b1,0,none⟩ s5 n s7 s8 ⟨b3,0,none⟩ lk i k ⟨b4,0,none⟩ true jj) Q z:=by
 have hok1:=hok
 unfold pgOk at hok1
 simp only [Bool.and_eq_true,Bool.or_eq_true,Bool.not_eq_true',beq_iff_eq,decide_eq_true_eq] at hok1
 obtain ⟨hon,hold1,hlk1⟩:=hok1
 rw [j5]
 refine gx (P:=prog) (fn:=f47) (R:=R) (λ_ _=>by first | rfl | exact hQ _ _) ?_
 rw [lU]
 have h17:∀ (old:Bool) (jj:List Value),old=CX p→Go.Eng.W prog (sub (aB f47) [1,1,1,1,1,1,0,1,0,0,1,0,0,1,1,1,1,1,1,1,0,0,1,0,0,1,1]) (cX s0 ⟨b1,0,none⟩ s5 n s7 s8 ⟨b3,0,none⟩ lk i k ⟨b4,0,none⟩ true old jj) Q z:=by
  intro old jj hold
  rw [j6]
  refine gx (P:=prog) (fn:=f47) (R:=R) (λ_ _=>by first | rfl | exact hQ _ _) ?_
  rw [lW]
  rintro w1 hw1
  have hn1:New z w1:=by rw [hw1];exact aW _
  clear hw1
  have hj1:=New.blk hn1 hj
  have hf1:=New.blk hn1 hf
  have hp1:=New.blk hn1 hp
  have h18:∀ (now:Bool) (jj:List Value),now=rG p q→Go.Eng.W prog (sub (aB f47) [1,1,1,1,1,1,0,1,0,0,1,0,0,1,1,1,1,1,1,1,0,0,1,0,0,1,1,1]) (bP s0 ⟨b1,0,none⟩ s5 n s7 s8 ⟨b3,0,none⟩ lk i k ⟨b4,0,none⟩ old now jj) Q w1:=by
   intro now jj hnow
   rw [j7]
   have h23:∀ (z2:World) (jj:List Value),Keep (λb=>b=b3) z z2→Blk z2 b4 p.cells 55→Blk z2 b3 (is (F.set i (x+cnt (rG p q)))) 142→Go.Eng.W prog (sub (aB f47) [1,1,1,1,1,1,0,1,0,0,1,0,0,1,1,1,1,1,1,1,0,0,1,0,0,1,1,1,1,1]) (ei s0 ⟨b1,0,none⟩ s5 n s7 s8 ⟨b3,0,none⟩ lk i k ⟨b4,0,none⟩ jj) Q z2:=by
    intro z2 jj hk2 hp2 hf2
    refine gx (P:=prog) (fn:=f47) (R:=R) (λ_ _=>by first | rfl | exact hQ _ _) ?_
    rw [l6]
    refine ⟨_,hp2.cell (i:=1) rfl,bY (λh1=>?_) (λh1=>?_)⟩
    ·have e:lk+cnt (pgLk p)=lk+1:=by
      have:pgLk p=true:=by unfold pgLk;simpa using h1
      rw [this]
      rfl
     rw [w64 (by omega) (by omega),←e]
     exact hnext _ _ hk2 hf2
    ·have e:lk+cnt (pgLk p)=lk:=by
      have:pgLk p=false:=by unfold pgLk;simpa using h1
      rw [this]
      simp [cnt]
     have h:∀ jj:List Value,Q .normal (cZ s0 ⟨b1,0,none⟩ s5 n s7 s8 ⟨b3,0,none⟩ lk i k jj) z2:=λjj=>by
      have:=hnext z2 jj hk2 hf2
      rw [e] at this
      exact this
     exact h _
   have h22:∀ (jj:List Value),Go.Eng.W prog (sub (aB f47) [1,1,1,1,1,1,0,1,0,0,1,0,0,1,1,1,1,1,1,1,0,0,1,0,0,1,1,1,1]) (fO s0 ⟨b1,0,none⟩ s5 n s7 s8 ⟨b3,0,none⟩ lk i k ⟨b4,0,none⟩ now jj) Q w1:=by
    intro jj
    rw [j8]
    refine gx (P:=prog) (fn:=f47) (R:=R) (λ_ _=>by first | rfl | exact hQ _ _) ?_
    rw [l5]
    refine jP (λh=>?_) (λh=>?_)
    ·refine eG (by omega) (by omega) ⟨x,?_,eG (by omega) (by omega) ?_⟩
     ·refine hf1.cell ?_
      have:(is F)[i]?=some (.int .i64 x):=by simp [is,hFi]
      simpa using this
     have hset:0+Int.toNat (i:Int) * 1=i:=by simp
     rw [hset,w64 (by omega) (by omega)]
     refine mb (cs:=is F) hf1 (by rw [GN];omega) λw2 hb2 hk2=>?_
     refine bI (h23 w2 _ ((Keep.of_new hn1).trans hk2 λ_ _ h=>h) (hk2.blk hp1 (λe=>hne.2 e.symm)) ?_)
     have e:is (F.set i (x+cnt (rG p q)))=(is F).set i (.int .i64 (x+1)):=by
      rw [←hnow,h]
      simp [is,List.map_set,cnt]
     rw [e]
     exact hb2
    ·refine bI (h23 w1 _ (Keep.of_new hn1) hp1 ?_)
     have e:F.set i (x+cnt (rG p q))=F:=by
      rw [←hnow,h]
      simp only [cnt,Bool.false_eq_true,if_false,Int.add_zero]
      apply List.ext_getElem?
      intro j
      by_cases e:i=j
      ·subst e
       rw [List.getElem?_set_self (by omega),hFi]
      ·rw [List.getElem?_set_ne e]
     rw [e]
     exact hf1
   rw [jy]
   refine gx (P:=prog) (fn:=f47) (R:=R) (λ_ _=>by first | rfl | exact hQ _ _) ?_
   rw [lX]
   have h21:∀ (jj:List Value),seqQ (λenv w=>Go.Eng.W prog (sub (aB f47) [1,1,1,1,1,1,0,1,0,0,1,0,0,1,1,1,1,1,1,1,0,0,1,0,0,1,1,1,0,1]) env (seqQ (λenv w=>Go.Eng.W prog (sub (aB f47) [1,1,1,1,1,1,0,1,0,0,1,0,0,1,1,1,1,1,1,1,0,0,1,0,0,1,1,1,1]) env Q w) Q) w) (seqQ (λenv w=>Go.Eng.W prog (sub (aB f47) [1,1,1,1,1,1,0,1,0,0,1,0,0,1,1,1,1,1,1,1,0,0,1,0,0,1,1,1,1]) env Q w) Q) .normal (cY s0 ⟨b1,0,none⟩ s5 n s7 s8 ⟨b3,0,none⟩ lk i k ⟨b4,0,none⟩ now false jj) w1:=by
    intro jj
    refine bI ?_
    refine gx (P:=prog) (fn:=f47) (R:=R) (λ_ _=>by first | rfl | exact hQ _ _) ?_
    rw [l4]
    exact eC rfl (bI (h22 _))
   have h20:∀ (jj:List Value),opsW prog (rops (sub (aB f47) [1,1,1,1,1,1,0,1,0,0,1,0,0,1,1,1,1,1,1,1,0,0,1,0,0,1,1,1,0,0])) ((rops (sub (aB f47) [1,1,1,1,1,1,0,1,0,0,1,0,0,1,1,1,1,1,1,1,0,0,1,0,0,1,1,1,0,0])).drop 23) (aY s0 ⟨b1,0,none⟩ s5 n s7 s8 ⟨b3,0,none⟩ lk i k ⟨b4,0,none⟩ now false jj) ((Qr prog f47 R (seqQ (λenv w=>Go.Eng.W prog (sub (aB f47) [1,1,1,1,1,1,0,1,0,0,1,0,0,1,1,1,1,1,1,1,0,0,1,0,0,1,1,1,0,1]) env (seqQ (λenv w=>Go.Eng.W prog (sub (aB f47) [1,1,1,1,1,1,0,1,0,0,1,0,0,1,1,1,1,1,1,1,0,0,1,0,0,1,1,1,1]) env Q w) Q) w) (seqQ (λenv w=>Go.Eng.W prog (sub (aB f47) [1,1,1,1,1,1,0,1,0,0,1,0,0,1,1,1,1,1,1,1,0,0,1,0,0,1,1,1,1]) env Q w) Q))) .normal) w1:=by
    intro jj
    rw [lZ]
    refine eC rfl ⟨_,hp1.cell (i:=1) rfl,bY (λh1=>?_) (λh1=>h21 _)⟩
    have hl:pgLk p=true:=by unfold pgLk;simpa using h1
    have hi0:i=0:=hlk1.resolve_left (by rw [hl];simp)
    have e:decide (((i:Nat):Int)>0)=false:=by rw [hi0];rfl
    rw [e]
    exact h21 _
   have h19:∀ (jj:List Value),opsW prog (rops (sub (aB f47) [1,1,1,1,1,1,0,1,0,0,1,0,0,1,1,1,1,1,1,1,0,0,1,0,0,1,1,1,0,0])) ((rops (sub (aB f47) [1,1,1,1,1,1,0,1,0,0,1,0,0,1,1,1,1,1,1,1,0,0,1,0,0,1,1,1,0,0])).drop 6) (bK s0 ⟨b1,0,none⟩ s5 n s7 s8 ⟨b3,0,none⟩ lk i k ⟨b4,0,none⟩ old now false jj) ((Qr prog f47 R (seqQ (λenv w=>Go.Eng.W prog (sub (aB f47) [1,1,1,1,1,1,0,1,0,0,1,0,0,1,1,1,1,1,1,1,0,0,1,0,0,1,1,1,0,1]) env (seqQ (λenv w=>Go.Eng.W prog (sub (aB f47) [1,1,1,1,1,1,0,1,0,0,1,0,0,1,1,1,1,1,1,1,0,0,1,0,0,1,1,1,1]) env Q w) Q) w) (seqQ (λenv w=>Go.Eng.W prog (sub (aB f47) [1,1,1,1,1,1,0,1,0,0,1,0,0,1,1,1,1,1,1,1,0,0,1,0,0,1,1,1,1]) env Q w) Q))) .normal) w1:=by
    intro jj
    rw [lY]
    refine eC rfl (jP (λho=>⟨_,hp1.cell (i:=1) rfl,bY (λh1=>?_) (λh1=>h20 _)⟩) (λho=>h20 _))
    refine ⟨_,hp1.cell (i:=1) rfl,job.Client,hj1.cell (i:=0) rfl,?_⟩
    have hh:p.Head=257+(c:Int):=by
     rcases hold1 with h | h | h
     ·rw [←hold,ho] at h;cases h
     ·exact absurd h h1
     ·exact h
    have e:(p.Head != IntKind.u64.wrap (IntKind.i64.wrap (257+job.Client)))=false:=by
     rw [hc,w64 (by omega) (by omega),wu64 (by omega) (by omega),hh]
     simp
    rw [e]
    exact h20 _
   refine jP (λho=>?_) (λho=>h19 _)
   have hnw:now=true:=by
    have ho':old=false:=by simpa using ho
    rw [hnow]
    exact hon.resolve_left (by rw [←hold,ho'];simp)
   have hnf:(!now)=false:=by rw [hnw];rfl
   rw [hnf]
   exact h19 _
  refine ⟨λy=>New w1 y,Keep.refl _ _,ig rfl ⟨_,λu hu=>(New.blk hu hp1).cell (i:=1) rfl,bG (λh1=>?_) (λh1=>?_)⟩⟩
  ·refine ⟨_,_,_,_,_,_,_,λu hu=>aK (o:=2) (New.blk hu hp1) rfl,_,_,_,λu hu=>(New.blk hu hj1).cell (i:=6) rfl,?_⟩
   refine iI (cells:=aD.cells) aD.len (by omega) (hW.new hn1) hq rfl hWl λb o hc2=>?_
   refine ⟨q.Data0,q.Data1,q.Data2,q.Data3,q.Data4,q.Data5,q.Data6,λu hu=>gG (vs:=us (pgD q)) λj v hv=>?_,?_⟩
   ·have hv2:q.cells[2+j]?=some v:=by
     have:q.cells=[.int .i64 q.Line,.int .u64 q.Head]++us (pgD q):=rfl
     rw [this,List.getElem?_append_right (by simp)]
     simpa using hv
    have:=hc2 u hu (2+j) v hv2
    show u.cell? ⟨b,o+2+0+j,none⟩=some v
    rw [←this]
    congr 2
    omega
   ·refine wz p q λb hb=>bI (h18 _ _ ?_)
    unfold rG
    rw [show (p.Head == 512)=true by rw [h1];rfl,Bool.true_and,Bool.eq_iff_iff,hb,beq_iff_eq]
  ·refine bI (h18 _ _ ?_)
   unfold rG
   rw [beq_eq_false_iff_ne.2 h1]
   rfl
 refine ig rfl ⟨_,hp.cell (i:=1) rfl,bG (λh1=>?_) (λh1=>?_)⟩
 ·refine ⟨_,_,_,_,_,_,_,aK (o:=2) hp rfl,?_⟩
  refine wz p ⟨0,0,0,0,0,0,0,0,0⟩ λb hb=>bI (h17 _ _ ?_)
  unfold CX
  rw [show (bshr .u64 p.Head 8 == 1)=true by rw [h1];rfl,Bool.true_and,Bool.eq_iff_iff,hb,beq_iff_eq]
  rfl
 ·refine bI (h17 _ _ ?_)
  unfold CX
  rw [beq_eq_false_iff_ne.2 h1]
  rfl
end Go.Proofs.YtegepanmkjemjaaGreat
namespace Go.Proofs.YtegepanmkjemjaaGreat
open Go.Proofs.Tryz
open Go.Eng
def frK (W:List aD) (x:aP) (k:Nat):Nat:=iu (W.take k) x
def lkK (W:List aD) (x:aP) (k:Nat):Nat:=jd (W.take k) x
theorem EG {W:List aD} {x:aP} {k:Nat} {q:aD} (h:W[k]?=some q):(frK W x (k+1):Int)=frK W x k+cnt (rG (ul x q) q):=by
 unfold frK iu
 rw [List.take_add_one,h]
 simp only [Option.toList,List.filter_append,List.length_append,List.filter_cons,List.filter_nil]
 cases rG (ul x q) q<;>simp [cnt]
theorem EH {W:List aD} {x:aP} {k:Nat} {q:aD} (h:W[k]?=some q):(lkK W x (k+1):Int)=lkK W x k+cnt (pgLk (ul x q)):=by
 unfold lkK jd
 rw [List.take_add_one,h]
 simp only [Option.toList,List.filter_append,List.length_append,List.filter_cons,List.filter_nil]
 cases pgLk (ul x q)<;>simp [cnt]
theorem HB (W:List aD) (x:aP) (k:Nat):frK W x k≤W.length:=Nat.le_trans (List.length_filter_le _ _) (by simp;omega)
theorem HC (W:List aD) (x:aP) (k:Nat):lkK W x k≤W.length:=Nat.le_trans (List.length_filter_le _ _) (by simp;omega)
theorem Keep.newOf {w z z':World} {b3:Nat} (hn:New w z) (hk:Keep (λb=>b=b3) z z') (h3:w.heap.size≤b3):New w z':=hn.trans hk λi hi e=>by have e:i=b3:=e;omega
set_option maxHeartbeats 2000000 in
theorem CY {A:Nat→Prop} {χ:Nat→Tag} {w z:World} {fb:Nat} {X:FabX} (h:aZ A χ w fb X) (hnz:New w z) {b1 b3:Nat} {s5:Addr} {n:Int} {s7 s8:Bool} {lk:Nat} {i c:Nat} {x:ep} {job:aM} {F:List Int} {W:List aD} {R:Value→World→Prop}
  (hx:X.nodes[i]?=some x) (hd:x.n.down=false) (hj:Blk z b1 job.cells 34) (hf:Blk z b3 (is F) 142) (hb3:w.heap.size≤b3) (hFl:F.length=5) (hi:i<5) (hFi:F[i]?=some 0) (hlk:lk+W.length<1000) (hne:b3≠b1)
  (hW:Rd w job.Writes (dF W).flatten) (hWl:job.Writes_l=W.length) (hc:job.Client=c) (hc6:c<6) (hlines:∀ q ∈ W,96≤q.Line∧q.Line<256∧q.Line.toNat * 8+8≤x.n.words.length) (hok:∀ q ∈ W,pgOk c i (ul x.n q) q=true)
  {QX:Exit→List Value→World→Prop}
  (hnext:∀ (z':World) (jj:List Value),Keep (λb=>b=b3) z z'→Blk z' b3 (is (F.set i (iu W x.n))) 142→QX .normal (cW ⟨fb,0,none⟩ ⟨b1,0,none⟩ s5 n s7 s8 ⟨b3,0,none⟩ ((lk+jd W x.n:Nat):Int) i jj) z') (jj:List Value) :
  Go.Eng.W prog (sub (aB f47) [1,1,1,1,1,1,0,1,0,0,1,0,0,1,1,1,1,1,1]) (cG ⟨fb,0,none⟩ ⟨b1,0,none⟩ s5 n s7 s8 ⟨b3,0,none⟩ lk i jj) (Qr prog f47 R QX) z:=by
 rw [mA]
 refine aR mix (λm env z'=>∃ (k:Nat) (lk':Int) (F':List Int) (jj:List Value),m=W.length - k∧k≤W.length∧lk'=((lk+lkK W x.n k:Nat):Int)∧F'=F.set i (frK W x.n k)∧env=cJ ⟨fb,0,none⟩ ⟨b1,0,none⟩ s5 n s7 s8 ⟨b3,0,none⟩ lk' i k jj∧Keep (λb=>b=b3) z z'∧Blk z' b3 (is F') 142) W.length
  ⟨0,_,F,_,rfl,by omega,by simp [lkK,jd],?_,rfl,Keep.refl _ _,hf⟩ ?_
 ·apply List.ext_getElem?
  intro j
  by_cases e:i=j
  ·subst e
   rw [List.getElem?_set_self (by omega),hFi]
   simp [frK,iu]
  ·rw [List.getElem?_set_ne e]
 rintro m env z' ⟨k,lk',F',jj,rfl,hkle,hlk',hF',rfl,hkz,hf'⟩
 refine gx (P:=prog) (fn:=f47) (R:=R) (λ_ _=>rfl) ?_
 rw [kK]
 have hj':=hkz.blk hj (λe=>hne e.symm)
 have hnw:New w z':=Keep.newOf hnz hkz hb3
 refine ⟨_,_,_,hj'.cell (i:=6) rfl,aI (λhp=>?_) (λhp=>?_)⟩
 ·have hlt:k<W.length:=by rw [hWl] at hp;omega
  obtain ⟨q,hq⟩:∃ q,W[k]?=some q:=⟨_,List.getElem?_eq_getElem hlt⟩
  have hqm:=List.mem_of_getElem? hq
  obtain ⟨l1,l2,l3⟩:=hlines q hqm
  refine ⟨_,_,_,hj'.cell (i:=6) rfl,?_⟩
  refine gJ (cells:=aD.cells) aD.len (by omega) (hW.new hnw) hq rfl hWl λb o _ hc2=>⟨q.Line,hc2 0 _ rfl,?_⟩
  have hql:q.Line=((q.Line.toNat:Nat):Int):=by omega
  have hh:=zZ (h.new hnw) (i:=i) hx (l:=q.Line.toNat) (by omega) l3 hd
  rw [←hql] at hh
  refine aG hh ?_
  rintro v u1 ⟨rfl,hn1⟩
  refine aD.mk_ex _ ⟨_,rfl,?_⟩
  refine ii (vs:=(x.n.page q.Line.toNat).cells) rfl (aD.single _) λb4 u2 hb4 hz4 hn2=>?_
  have hn12:=hn1.new hn2
  have hf2:=New.blk hn12 hf'
  have hlt3:=hf'.lt
  have hs1:=hn1.size
  have hF'l:F'.length=5:=by rw [hF'];simpa using hFl
  have hF'i:F'[i]?=some (frK W x.n k:Int):=by rw [hF',List.getElem?_set_self (by omega)]
  have hfle:=HB W x.n k
  have hlle:=HC W x.n k
  refine EF (R:=R) (x:=(frK W x.n k:Int)) (lk:=lk') (New.blk hn12 hj') hf2 hz4 hF'l hi hF'i (by omega) (by omega) ⟨hne,by omega⟩ (hW.new (hnw.new hn12)) hWl hq hc hc6 (hok q hqm) ?_ (λz3 jj3 hk3 hf3=>?_) _
  ·exact λ_ _=>rfl
  refine qe (bI ?_)
  rw [l7]
  refine bI ?_
  rw [w64 (x:=(k:Int)+1) (by omega) (by omega)]
  refine ⟨W.length - (k+1),by omega,k+1,_,_,_,rfl,by omega,?_,rfl,rfl,(hkz.new hn12).trans hk3 λ_ _ h=>h,?_⟩
  ·have:=EH (x:=x.n) hq
   rw [hlk']
   show _+cnt (pgLk (ul x.n q))=_
   omega
  ·have:=EG (x:=x.n) hq
   rw [this]
   have e:F.set i (↑(frK W x.n k)+cnt (rG (ul x.n q) q))=F'.set i (↑(frK W x.n k)+cnt (rG (ul x.n q) q)):=by rw [hF',List.set_set]
   rw [e]
   exact hf3
 ·have hke:k=W.length:=by rw [hWl] at hp;omega
  subst hke
  refine uG (oB (Qr_n ?_))
  have e1:lkK W x.n W.length=jd W x.n:=by unfold lkK;rw [List.take_length]
  have e2:frK W x.n W.length=iu W x.n:=by unfold frK;rw [List.take_length]
  rw [hlk',e1]
  rw [hF',e2] at hf'
  exact hnext z' _ hkz hf'
end Go.Proofs.YtegepanmkjemjaaGreat
namespace Go.Proofs.YtegepanmkjemjaaGreat
open Go.Proofs.Tryz
open Go.Eng IntKind
variable (w:World) (R:Value→World→Prop)
theorem k5 (a b:Addr) (s6:Int) (s8:Bool) (c:Addr) (j:LV) (QX:Exit→LV→World→Prop):W prog (sub (aB f47) [1,1,1,1,1,1,1,1,0,1,0,0,1,0,0,1,1,0]) (aX a b s6 s8 c 0 0 j) (Qr prog f47 R QX) w=((∀ w1,w1=w.drew→∃ Sx:World→Prop,Sx w1∧(idxA c 5 0 1 λaa=>∃ x8,(∀ u,Sx u→u.cell? aa=some (.int .i64 x8))∧(bif (decide ((x8:Int)>0)) then (QX .normal (aL a b s6 s8 c 0 ((0:Int) == 0) (jq j 0 16 (ju 0::jq j 16 190 (ji 0::jb (decide ((0:Int)>0))::jb false::uq 25 [jb false,jb false,ji 0,jb ((0:Int) == 0),jb true,jp aa,ji x8,jb (decide ((x8:Int)>0)),jb (decide ((x8:Int)>0)),jb true,ju 0,jb ((0:Int) == 0),jb ((0:Int) == 0)])))) w1) else (QX .normal (aL a b s6 s8 c 0 false (jq j 0 16 (ju 0::jq j 16 190 (ji 0::jb (decide ((0:Int)>0))::jb false::uq 25 [jb false,jb false,ji 0,jb ((0:Int) == 0),jb true,jp aa,ji x8,jb (decide ((x8:Int)>0)),jb (decide ((x8:Int)>0)),jb false,undef,undef,jb false])))) w1))))):=by kernel_rfl
theorem k6 (a b:Addr) (s6:Int) (s8:Bool) (c:Addr) (j:LV) (QX:Exit→LV→World→Prop):W prog (sub (aB f47) [1,1,1,1,1,1,1,1,0,1,0,0,1,0,0,1,1,0]) (aX a b s6 s8 c 0 3 j) (Qr prog f47 R QX) w=((∀ w1,w1=w.drew→∃ Sx:World→Prop,Sx w1∧(idxA c 5 0 1 λaa=>∃ x8,(∀ u,Sx u→u.cell? aa=some (.int .i64 x8))∧(bif (decide ((x8:Int)>0)) then (QX .normal (aL a b s6 s8 c 0 ((3:Int) == 0) (jq j 0 16 (ju 3::jq j 16 190 (ji 0::jb (decide ((0:Int)>0))::jb false::uq 25 [jb false,jb false,ji 0,jb ((0:Int) == 0),jb true,jp aa,ji x8,jb (decide ((x8:Int)>0)),jb (decide ((x8:Int)>0)),jb true,ju 3,jb ((3:Int) == 0),jb ((3:Int) == 0)])))) w1) else (QX .normal (aL a b s6 s8 c 0 false (jq j 0 16 (ju 3::jq j 16 190 (ji 0::jb (decide ((0:Int)>0))::jb false::uq 25 [jb false,jb false,ji 0,jb ((0:Int) == 0),jb true,jp aa,ji x8,jb (decide ((x8:Int)>0)),jb (decide ((x8:Int)>0)),jb false,undef,undef,jb false])))) w1))))):=by kernel_rfl
theorem k7 (a b:Addr) (s6:Int) (s8:Bool) (c:Addr) (j:LV) (QX:Exit→LV→World→Prop):W prog (sub (aB f47) [1,1,1,1,1,1,1,1,0,1,0,0,1,0,0,1,1,0]) (aX a b s6 s8 c 1 0 j) (Qr prog f47 R QX) w=((∀ w1,w1=w.drew→∃ Sx:World→Prop,Sx w1∧(idxA c 5 0 1 λad=>∃ x,(∀ u,Sx u→u.cell? ad=some (.int .i64 x))∧(bif (decide ((x:Int)>0)) then (idxA c 5 1 1 λq=>∃ x1,(∀ u,Sx u→u.cell? q=some (.int .i64 x1))∧∃ g h i,(∀ u,Sx u→u.cell? ⟨b.block,b.off+6,none⟩=some (.slice g h i))∧(bif (decide ((x1:Int)<(h:Nat))) then (QX .normal (aL a b s6 s8 c 1 true (jq j 0 16 (ju 0::jq j 16 190 (ji 1::jb (decide ((1:Int)>0))::jb true::jp ad::ji x::jb (decide ((x:Int)>0))::jb true::ji 1::jp q::ji x1::jf b 6::js g h i::jn h::jb (decide ((x1:Int)<(h:Nat)))::jb (decide ((x1:Int)<(h:Nat)))::jb true::uq 11 (jb true::jb true::jb true::uq 11 []))))) w1) else (QX .normal (aL a b s6 s8 c 1 false (jq j 0 16 (ju 0::jq j 16 190 (ji 1::jb (decide ((1:Int)>0))::jb true::jp ad::ji x::jb (decide ((x:Int)>0))::jb true::ji 1::jp q::ji x1::jf b 6::js g h i::jn h::jb (decide ((x1:Int)<(h:Nat)))::jb (decide ((x1:Int)<(h:Nat)))::jb false::ju 0::jb ((0:Int) != 0)::jb false::uq 7 [jb false,jb false,jb false,jb false,ji 1,jb ((1:Int) == 0),jb false,undef,undef,undef,jb false,jb false,undef,undef,jb false])))) w1))) else (QX .normal (aL a b s6 s8 c 1 false (jq j 0 16 (ju 0::jq j 16 190 (ji 1::jb (decide ((1:Int)>0))::jb true::jp ad::ji x::jb (decide ((x:Int)>0))::jb false::uq 7 (jb false::jb false::ju 0::jb ((0:Int) != 0)::jb false::uq 7 [jb false,jb false,jb false,jb false,ji 1,jb ((1:Int) == 0),jb false,undef,undef,undef,jb false,jb false,undef,undef,jb false]))))) w1))))):=by kernel_rfl
theorem k8 (a b:Addr) (s6:Int) (s8:Bool) (c:Addr) (j:LV) (QX:Exit→LV→World→Prop):W prog (sub (aB f47) [1,1,1,1,1,1,1,1,0,1,0,0,1,0,0,1,1,0]) (aX a b s6 s8 c 1 3 j) (Qr prog f47 R QX) w=((∀ w1,w1=w.drew→∃ Sx:World→Prop,Sx w1∧(idxA c 5 0 1 λad=>∃ x,(∀ u,Sx u→u.cell? ad=some (.int .i64 x))∧(bif (decide ((x:Int)>0)) then (idxA c 5 1 1 λq=>∃ x1,(∀ u,Sx u→u.cell? q=some (.int .i64 x1))∧∃ g h i,(∀ u,Sx u→u.cell? ⟨b.block,b.off+6,none⟩=some (.slice g h i))∧(bif (decide ((x1:Int)<(h:Nat))) then (QX .normal (aL a b s6 s8 c 1 true (jq j 0 16 (ju 3::jq j 16 190 (ji 1::jb (decide ((1:Int)>0))::jb true::jp ad::ji x::jb (decide ((x:Int)>0))::jb true::ji 1::jp q::ji x1::jf b 6::js g h i::jn h::jb (decide ((x1:Int)<(h:Nat)))::jb (decide ((x1:Int)<(h:Nat)))::jb true::uq 11 (jb true::jb true::jb true::uq 11 []))))) w1) else (idxA c 5 1 1 λr=>∃ x2,(∀ u,Sx u→u.cell? r=some (.int .i64 x2))∧∃ k l m,(∀ u,Sx u→u.cell? ⟨b.block,b.off+6,none⟩=some (.slice k l m))∧(bif (decide ((x2:Int)<(l:Nat))) then (QX .normal (aL a b s6 s8 c 1 true (jq j 0 16 (ju 3::jq j 16 190 (ji 1::jb (decide ((1:Int)>0))::jb true::jp ad::ji x::jb (decide ((x:Int)>0))::jb true::ji 1::jp q::ji x1::jf b 6::js g h i::jn h::jb (decide ((x1:Int)<(h:Nat)))::jb (decide ((x1:Int)<(h:Nat)))::jb false::ju 3::jb ((3:Int) != 0)::jb true::ji 1::jp r::ji x2::jf b 6::js k l m::jn l::jb (decide ((x2:Int)<(l:Nat)))::jb (decide ((x2:Int)<(l:Nat)))::jb (decide ((x2:Int)<(l:Nat)))::jb (decide ((x2:Int)<(l:Nat)))::jb true::uq 11 [])))) w1) else (QX .normal (aL a b s6 s8 c 1 false (jq j 0 16 (ju 3::jq j 16 190 [ji 1,jb (decide ((1:Int)>0)),jb true,jp ad,ji x,jb (decide ((x:Int)>0)),jb true,ji 1,jp q,ji x1,jf b 6,js g h i,jn h,jb (decide ((x1:Int)<(h:Nat))),jb (decide ((x1:Int)<(h:Nat))),jb false,ju 3,jb ((3:Int) != 0),jb true,ji 1,jp r,ji x2,jf b 6,js k l m,jn l,jb (decide ((x2:Int)<(l:Nat))),jb (decide ((x2:Int)<(l:Nat))),jb (decide ((x2:Int)<(l:Nat))),jb (decide ((x2:Int)<(l:Nat))),jb false,ji 1,jb ((1:Int) == 0),jb false,undef,undef,undef,jb false,jb false,undef,undef,jb false]))) w1))))) else (idxA c 5 1 1 λv=>∃ x5,(∀ u,Sx u→u.cell? v=some (.int .i64 x5))∧∃ n o p,(∀ u,Sx u→u.cell? ⟨b.block,b.off+6,none⟩=some (.slice n o p))∧(bif (decide ((x5:Int)<(o:Nat))) then (QX .normal (aL a b s6 s8 c 1 true (jq j 0 16 (ju 3::jq j 16 190 (ji 1::jb (decide ((1:Int)>0))::jb true::jp ad::ji x::jb (decide ((x:Int)>0))::jb false::uq 7 (jb false::jb false::ju 3::jb ((3:Int) != 0)::jb true::ji 1::jp v::ji x5::jf b 6::js n o p::jn o::jb (decide ((x5:Int)<(o:Nat)))::jb (decide ((x5:Int)<(o:Nat)))::jb (decide ((x5:Int)<(o:Nat)))::jb (decide ((x5:Int)<(o:Nat)))::jb true::uq 11 []))))) w1) else (QX .normal (aL a b s6 s8 c 1 false (jq j 0 16 (ju 3::jq j 16 190 (ji 1::jb (decide ((1:Int)>0))::jb true::jp ad::ji x::jb (decide ((x:Int)>0))::jb false::uq 7 [jb false,jb false,ju 3,jb ((3:Int) != 0),jb true,ji 1,jp v,ji x5,jf b 6,js n o p,jn o,jb (decide ((x5:Int)<(o:Nat))),jb (decide ((x5:Int)<(o:Nat))),jb (decide ((x5:Int)<(o:Nat))),jb (decide ((x5:Int)<(o:Nat))),jb false,ji 1,jb ((1:Int) == 0),jb false,undef,undef,undef,jb false,jb false,undef,undef,jb false])))) w1))))))):=by kernel_rfl
end Go.Proofs.YtegepanmkjemjaaGreat
namespace Go.Proofs.YtegepanmkjemjaaGreat
open Go.Proofs.Tryz
open Go.Eng IntKind
variable (w:World) (R:Value→World→Prop)
theorem k9 (a b:Addr) (s6:Int) (s8:Bool) (c:Addr) (j:LV) (QX:Exit→LV→World→Prop):W prog (sub (aB f47) [1,1,1,1,1,1,1,1,0,1,0,0,1,0,0,1,1,0]) (aX a b s6 s8 c 2 0 j) (Qr prog f47 R QX) w=((∀ w1,w1=w.drew→∃ Sx:World→Prop,Sx w1∧(idxA c 5 0 1 λad=>∃ x,(∀ u,Sx u→u.cell? ad=some (.int .i64 x))∧(bif (decide ((x:Int)>0)) then (idxA c 5 2 1 λq=>∃ x1,(∀ u,Sx u→u.cell? q=some (.int .i64 x1))∧∃ g h i,(∀ u,Sx u→u.cell? ⟨b.block,b.off+6,none⟩=some (.slice g h i))∧(bif (decide ((x1:Int)<(h:Nat))) then (QX .normal (aL a b s6 s8 c 2 true (jq j 0 16 (ju 0::jq j 16 190 (ji 2::jb (decide ((2:Int)>0))::jb true::jp ad::ji x::jb (decide ((x:Int)>0))::jb true::ji 2::jp q::ji x1::jf b 6::js g h i::jn h::jb (decide ((x1:Int)<(h:Nat)))::jb (decide ((x1:Int)<(h:Nat)))::jb true::uq 11 (jb true::jb true::jb true::uq 11 []))))) w1) else (QX .normal (aL a b s6 s8 c 2 false (jq j 0 16 (ju 0::jq j 16 190 (ji 2::jb (decide ((2:Int)>0))::jb true::jp ad::ji x::jb (decide ((x:Int)>0))::jb true::ji 2::jp q::ji x1::jf b 6::js g h i::jn h::jb (decide ((x1:Int)<(h:Nat)))::jb (decide ((x1:Int)<(h:Nat)))::jb false::ju 0::jb ((0:Int) != 0)::jb false::uq 7 [jb false,jb false,jb false,jb false,ji 2,jb ((2:Int) == 0),jb false,undef,undef,undef,jb false,jb false,undef,undef,jb false])))) w1))) else (QX .normal (aL a b s6 s8 c 2 false (jq j 0 16 (ju 0::jq j 16 190 (ji 2::jb (decide ((2:Int)>0))::jb true::jp ad::ji x::jb (decide ((x:Int)>0))::jb false::uq 7 (jb false::jb false::ju 0::jb ((0:Int) != 0)::jb false::uq 7 [jb false,jb false,jb false,jb false,ji 2,jb ((2:Int) == 0),jb false,undef,undef,undef,jb false,jb false,undef,undef,jb false]))))) w1))))):=by kernel_rfl
theorem ld (a b:Addr) (s6:Int) (s8:Bool) (c:Addr) (j:LV) (QX:Exit→LV→World→Prop):W prog (sub (aB f47) [1,1,1,1,1,1,1,1,0,1,0,0,1,0,0,1,1,0]) (aX a b s6 s8 c 2 3 j) (Qr prog f47 R QX) w=((∀ w1,w1=w.drew→∃ Sx:World→Prop,Sx w1∧(idxA c 5 0 1 λad=>∃ x,(∀ u,Sx u→u.cell? ad=some (.int .i64 x))∧(bif (decide ((x:Int)>0)) then (idxA c 5 2 1 λq=>∃ x1,(∀ u,Sx u→u.cell? q=some (.int .i64 x1))∧∃ g h i,(∀ u,Sx u→u.cell? ⟨b.block,b.off+6,none⟩=some (.slice g h i))∧(bif (decide ((x1:Int)<(h:Nat))) then (QX .normal (aL a b s6 s8 c 2 true (jq j 0 16 (ju 3::jq j 16 190 (ji 2::jb (decide ((2:Int)>0))::jb true::jp ad::ji x::jb (decide ((x:Int)>0))::jb true::ji 2::jp q::ji x1::jf b 6::js g h i::jn h::jb (decide ((x1:Int)<(h:Nat)))::jb (decide ((x1:Int)<(h:Nat)))::jb true::uq 11 (jb true::jb true::jb true::uq 11 []))))) w1) else (idxA c 5 2 1 λr=>∃ x2,(∀ u,Sx u→u.cell? r=some (.int .i64 x2))∧∃ k l m,(∀ u,Sx u→u.cell? ⟨b.block,b.off+6,none⟩=some (.slice k l m))∧(bif (decide ((x2:Int)<(l:Nat))) then (QX .normal (aL a b s6 s8 c 2 true (jq j 0 16 (ju 3::jq j 16 190 (ji 2::jb (decide ((2:Int)>0))::jb true::jp ad::ji x::jb (decide ((x:Int)>0))::jb true::ji 2::jp q::ji x1::jf b 6::js g h i::jn h::jb (decide ((x1:Int)<(h:Nat)))::jb (decide ((x1:Int)<(h:Nat)))::jb false::ju 3::jb ((3:Int) != 0)::jb true::ji 2::jp r::ji x2::jf b 6::js k l m::jn l::jb (decide ((x2:Int)<(l:Nat)))::jb (decide ((x2:Int)<(l:Nat)))::jb (decide ((x2:Int)<(l:Nat)))::jb (decide ((x2:Int)<(l:Nat)))::jb true::uq 11 [])))) w1) else (QX .normal (aL a b s6 s8 c 2 false (jq j 0 16 (ju 3::jq j 16 190 [ji 2,jb (decide ((2:Int)>0)),jb true,jp ad,ji x,jb (decide ((x:Int)>0)),jb true,ji 2,jp q,ji x1,jf b 6,js g h i,jn h,jb (decide ((x1:Int)<(h:Nat))),jb (decide ((x1:Int)<(h:Nat))),jb false,ju 3,jb ((3:Int) != 0),jb true,ji 2,jp r,ji x2,jf b 6,js k l m,jn l,jb (decide ((x2:Int)<(l:Nat))),jb (decide ((x2:Int)<(l:Nat))),jb (decide ((x2:Int)<(l:Nat))),jb (decide ((x2:Int)<(l:Nat))),jb false,ji 2,jb ((2:Int) == 0),jb false,undef,undef,undef,jb false,jb false,undef,undef,jb false]))) w1))))) else (idxA c 5 2 1 λv=>∃ x5,(∀ u,Sx u→u.cell? v=some (.int .i64 x5))∧∃ n o p,(∀ u,Sx u→u.cell? ⟨b.block,b.off+6,none⟩=some (.slice n o p))∧(bif (decide ((x5:Int)<(o:Nat))) then (QX .normal (aL a b s6 s8 c 2 true (jq j 0 16 (ju 3::jq j 16 190 (ji 2::jb (decide ((2:Int)>0))::jb true::jp ad::ji x::jb (decide ((x:Int)>0))::jb false::uq 7 (jb false::jb false::ju 3::jb ((3:Int) != 0)::jb true::ji 2::jp v::ji x5::jf b 6::js n o p::jn o::jb (decide ((x5:Int)<(o:Nat)))::jb (decide ((x5:Int)<(o:Nat)))::jb (decide ((x5:Int)<(o:Nat)))::jb (decide ((x5:Int)<(o:Nat)))::jb true::uq 11 []))))) w1) else (QX .normal (aL a b s6 s8 c 2 false (jq j 0 16 (ju 3::jq j 16 190 (ji 2::jb (decide ((2:Int)>0))::jb true::jp ad::ji x::jb (decide ((x:Int)>0))::jb false::uq 7 [jb false,jb false,ju 3,jb ((3:Int) != 0),jb true,ji 2,jp v,ji x5,jf b 6,js n o p,jn o,jb (decide ((x5:Int)<(o:Nat))),jb (decide ((x5:Int)<(o:Nat))),jb (decide ((x5:Int)<(o:Nat))),jb (decide ((x5:Int)<(o:Nat))),jb false,ji 2,jb ((2:Int) == 0),jb false,undef,undef,undef,jb false,jb false,undef,undef,jb false])))) w1))))))):=by kernel_rfl
end Go.Proofs.YtegepanmkjemjaaGreat
namespace Go.Proofs.YtegepanmkjemjaaGreat
open Go.Proofs.Tryz
open Go.Eng IntKind
variable (w:World) (R:Value→World→Prop)
theorem lf (a b:Addr) (s6:Int) (s8:Bool) (c:Addr) (j:LV) (QX:Exit→LV→World→Prop):W prog (sub (aB f47) [1,1,1,1,1,1,1,1,0,1,0,0,1,0,0,1,1,0]) (aX a b s6 s8 c 3 0 j) (Qr prog f47 R QX) w=((∀ w1,w1=w.drew→∃ Sx:World→Prop,Sx w1∧(idxA c 5 0 1 λad=>∃ x,(∀ u,Sx u→u.cell? ad=some (.int .i64 x))∧(bif (decide ((x:Int)>0)) then (idxA c 5 3 1 λq=>∃ x1,(∀ u,Sx u→u.cell? q=some (.int .i64 x1))∧∃ g h i,(∀ u,Sx u→u.cell? ⟨b.block,b.off+6,none⟩=some (.slice g h i))∧(bif (decide ((x1:Int)<(h:Nat))) then (QX .normal (aL a b s6 s8 c 3 true (jq j 0 16 (ju 0::jq j 16 190 (ji 3::jb (decide ((3:Int)>0))::jb true::jp ad::ji x::jb (decide ((x:Int)>0))::jb true::ji 3::jp q::ji x1::jf b 6::js g h i::jn h::jb (decide ((x1:Int)<(h:Nat)))::jb (decide ((x1:Int)<(h:Nat)))::jb true::uq 11 (jb true::jb true::jb true::uq 11 []))))) w1) else (QX .normal (aL a b s6 s8 c 3 false (jq j 0 16 (ju 0::jq j 16 190 (ji 3::jb (decide ((3:Int)>0))::jb true::jp ad::ji x::jb (decide ((x:Int)>0))::jb true::ji 3::jp q::ji x1::jf b 6::js g h i::jn h::jb (decide ((x1:Int)<(h:Nat)))::jb (decide ((x1:Int)<(h:Nat)))::jb false::ju 0::jb ((0:Int) != 0)::jb false::uq 7 [jb false,jb false,jb false,jb false,ji 3,jb ((3:Int) == 0),jb false,undef,undef,undef,jb false,jb false,undef,undef,jb false])))) w1))) else (QX .normal (aL a b s6 s8 c 3 false (jq j 0 16 (ju 0::jq j 16 190 (ji 3::jb (decide ((3:Int)>0))::jb true::jp ad::ji x::jb (decide ((x:Int)>0))::jb false::uq 7 (jb false::jb false::ju 0::jb ((0:Int) != 0)::jb false::uq 7 [jb false,jb false,jb false,jb false,ji 3,jb ((3:Int) == 0),jb false,undef,undef,undef,jb false,jb false,undef,undef,jb false]))))) w1))))):=by kernel_rfl
theorem lg (a b:Addr) (s6:Int) (s8:Bool) (c:Addr) (j:LV) (QX:Exit→LV→World→Prop):W prog (sub (aB f47) [1,1,1,1,1,1,1,1,0,1,0,0,1,0,0,1,1,0]) (aX a b s6 s8 c 3 3 j) (Qr prog f47 R QX) w=((∀ w1,w1=w.drew→∃ Sx:World→Prop,Sx w1∧(idxA c 5 0 1 λad=>∃ x,(∀ u,Sx u→u.cell? ad=some (.int .i64 x))∧(bif (decide ((x:Int)>0)) then (idxA c 5 3 1 λq=>∃ x1,(∀ u,Sx u→u.cell? q=some (.int .i64 x1))∧∃ g h i,(∀ u,Sx u→u.cell? ⟨b.block,b.off+6,none⟩=some (.slice g h i))∧(bif (decide ((x1:Int)<(h:Nat))) then (QX .normal (aL a b s6 s8 c 3 true (jq j 0 16 (ju 3::jq j 16 190 (ji 3::jb (decide ((3:Int)>0))::jb true::jp ad::ji x::jb (decide ((x:Int)>0))::jb true::ji 3::jp q::ji x1::jf b 6::js g h i::jn h::jb (decide ((x1:Int)<(h:Nat)))::jb (decide ((x1:Int)<(h:Nat)))::jb true::uq 11 (jb true::jb true::jb true::uq 11 []))))) w1) else (idxA c 5 3 1 λr=>∃ x2,(∀ u,Sx u→u.cell? r=some (.int .i64 x2))∧∃ k l m,(∀ u,Sx u→u.cell? ⟨b.block,b.off+6,none⟩=some (.slice k l m))∧(bif (decide ((x2:Int)<(l:Nat))) then (QX .normal (aL a b s6 s8 c 3 true (jq j 0 16 (ju 3::jq j 16 190 (ji 3::jb (decide ((3:Int)>0))::jb true::jp ad::ji x::jb (decide ((x:Int)>0))::jb true::ji 3::jp q::ji x1::jf b 6::js g h i::jn h::jb (decide ((x1:Int)<(h:Nat)))::jb (decide ((x1:Int)<(h:Nat)))::jb false::ju 3::jb ((3:Int) != 0)::jb true::ji 3::jp r::ji x2::jf b 6::js k l m::jn l::jb (decide ((x2:Int)<(l:Nat)))::jb (decide ((x2:Int)<(l:Nat)))::jb (decide ((x2:Int)<(l:Nat)))::jb (decide ((x2:Int)<(l:Nat)))::jb true::uq 11 [])))) w1) else (QX .normal (aL a b s6 s8 c 3 false (jq j 0 16 (ju 3::jq j 16 190 [ji 3,jb (decide ((3:Int)>0)),jb true,jp ad,ji x,jb (decide ((x:Int)>0)),jb true,ji 3,jp q,ji x1,jf b 6,js g h i,jn h,jb (decide ((x1:Int)<(h:Nat))),jb (decide ((x1:Int)<(h:Nat))),jb false,ju 3,jb ((3:Int) != 0),jb true,ji 3,jp r,ji x2,jf b 6,js k l m,jn l,jb (decide ((x2:Int)<(l:Nat))),jb (decide ((x2:Int)<(l:Nat))),jb (decide ((x2:Int)<(l:Nat))),jb (decide ((x2:Int)<(l:Nat))),jb false,ji 3,jb ((3:Int) == 0),jb false,undef,undef,undef,jb false,jb false,undef,undef,jb false]))) w1))))) else (idxA c 5 3 1 λv=>∃ x5,(∀ u,Sx u→u.cell? v=some (.int .i64 x5))∧∃ n o p,(∀ u,Sx u→u.cell? ⟨b.block,b.off+6,none⟩=some (.slice n o p))∧(bif (decide ((x5:Int)<(o:Nat))) then (QX .normal (aL a b s6 s8 c 3 true (jq j 0 16 (ju 3::jq j 16 190 (ji 3::jb (decide ((3:Int)>0))::jb true::jp ad::ji x::jb (decide ((x:Int)>0))::jb false::uq 7 (jb false::jb false::ju 3::jb ((3:Int) != 0)::jb true::ji 3::jp v::ji x5::jf b 6::js n o p::jn o::jb (decide ((x5:Int)<(o:Nat)))::jb (decide ((x5:Int)<(o:Nat)))::jb (decide ((x5:Int)<(o:Nat)))::jb (decide ((x5:Int)<(o:Nat)))::jb true::uq 11 []))))) w1) else (QX .normal (aL a b s6 s8 c 3 false (jq j 0 16 (ju 3::jq j 16 190 (ji 3::jb (decide ((3:Int)>0))::jb true::jp ad::ji x::jb (decide ((x:Int)>0))::jb false::uq 7 [jb false,jb false,ju 3,jb ((3:Int) != 0),jb true,ji 3,jp v,ji x5,jf b 6,js n o p,jn o,jb (decide ((x5:Int)<(o:Nat))),jb (decide ((x5:Int)<(o:Nat))),jb (decide ((x5:Int)<(o:Nat))),jb (decide ((x5:Int)<(o:Nat))),jb false,ji 3,jb ((3:Int) == 0),jb false,undef,undef,undef,jb false,jb false,undef,undef,jb false])))) w1))))))):=by kernel_rfl
end Go.Proofs.YtegepanmkjemjaaGreat
