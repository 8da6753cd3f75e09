import Derived.Test.YtgpmeaicjonenaaGreata09
set_option linter.unusedVariables false
namespace Go.Proofs.YtgpmeaicjonenaaGreat
open Go.Proofs.Tryz
open Go.Eng
set_option maxHeartbeats 800000 in
theorem zP {M:Nat→Prop} {w:World} {b nb nw:Nat} {p:cX} {n:aP} (h:bS M w b p) (hn:bM w nb nw n) (hmn:M nw) (hmb:M nb) (hwn:¬ isB p.wa nw) (hr:p.pure.rdy) :
  Does 77 [.pointer (some ⟨b,0,none⟩),.pointer (some ⟨nb,0,none⟩)] w (rm M b nb nw p n w):=by
 refine does Tryz.func77 ?_
 rw [my]
 rintro b1 w1 hb1 hw1
 obtain ⟨hd1,hn1⟩:=aO hb1 hw1
 have hs1:w1.heap.size=w.heap.size+1:=by rw [hw1];simp
 clear hw1
 have hp1:=h.new hn1
 have hN1:=hn.new hn1
 have hbl:=h.blk.lt
 have hnl:=hn.node.lt
 have hnwl:=hn.words.lt
 have hwal:∀ k,isB p.wa k→k<w.heap.size:=λk hk=>h.wown.lt hk
 have hval:∀ k,isB p.va k→k<w.heap.size:=λk hk=>h.own.lt hk
 refine ⟨_,_,_,hp1.blk.cell rfl,bK (λhe=>?_) (λhe=>?_)⟩
 ·have hv0:p.verbs=[]:=List.eq_nil_of_length_eq_zero (by omega)
  have hst:p.pure.step n=(p.pure,n,none):=BN hv0
  refine ⟨cK (vs:=aY.cells ⟨0,none,0,0⟩) hd1 (by simp [aY.cells]) (aY.single _),?_⟩
  intro w2 hw2
  obtain ⟨hd2,hn2⟩:=mb (vs:=aY.cells ⟨0,none,0,0⟩) hd1 (by simp [aY.cells]) hn1 (by omega) hw2
  refine zN (d:=⟨0,none,0,0⟩) (nR hd2) ⟨rfl,⟨0,none,0,0⟩,p,?_,?_,?_,?_,?_,?_,Keep.of_new hn2,.inl rfl,.inl rfl,?_⟩
  ·rw [hst];rfl
  ·rw [hst]
  ·rw [hst];exact hn.new hn2
  ·rw [hst];intro x hx;cases hx
  ·rintro k ⟨o,ho⟩;cases ho
  ·intro M' hM' hm'
   refine (h.new hn2).recolor (λk _ hk=>?_) hm'
   rcases hM' k hk with hk | hk | hk
   ·exact hk.2
   ·exact h.mine k (.inr (.inl hk))
   ·exact h.mine k (.inr (.inr hk))
  ·rintro k ⟨o,ho⟩;cases ho
 obtain ⟨x,xs,hxs⟩:∃ x xs,p.verbs=x::xs:=by
  cases hp:p.verbs with
  |nil=>rw [hp] at he;simp at he
  |cons x xs=>exact ⟨x,xs,rfl⟩
 obtain ⟨v,vs,hvs⟩:∃ v vs,p.raw=v::vs:=by
  cases hp:p.raw with
  |nil=>have:=h.vs.1;rw [hp,hxs] at this;simp at this
  |cons v vs=>exact ⟨v,vs,rfl⟩
 have hv:bI M w v x:=h.vs.2 0 v x (by rw [hvs];rfl) (by rw [hxs];rfl)
 have hst:=zO (p:=p.pure) (n:=n) hxs
 refine ⟨_,_,_,hp1.blk.cell rfl,?_⟩
 obtain ⟨ba,oa,hva,hca,hcc⟩:=hp1.own.rd.row (nl p.raw) (by omega) (i:=0) (r:=v.cells) (by rw [hvs];rfl)
 rw [hva]
 refine bE (by omega) (by omega) ?_
 refine mv (v:=v) (by simpa using hca) ?_
 rintro b2 w3 hb2 hw3
 obtain ⟨hz3,hn3⟩:=aO hb2 hw3
 have hs3:w3.heap.size=w.heap.size+2:=by rw [hw3];simp [hs1]
 clear hw3
 refine ⟨cK (vs:=aJ.cells v) hz3 (by simp [aJ.cells]) (aJ.single v),?_⟩
 intro w4 hw4
 have hs4:w4.heap.size=w.heap.size+2:=by rw [hw4,rG,hs3]
 obtain ⟨hx4,hn4⟩:=mb (vs:=aJ.cells v) hz3 (by simp [aJ.cells]) hn3 (by omega) hw4
 clear hw4 hz3
 have hnw4:Go.Eng.New w w4:=hn1.new hn4
 have hd4:=New.blk hn4 hd1
 refine mv (v:=v) (vbox hx4) ?_
 refine aF (zL (h.new hnw4) (hn.new hnw4) (hv.keep (Keep.of_new hnw4) λ_ _ h=>h)) ?_
 rintro r w5 ⟨rfl,hk5⟩
 have hnw5:=hnw4.new hk5
 have hd5:=New.blk hk5 hd4
 have hx5:=New.blk hk5 hx4
 have hs5:=hk5.size
 have hb1b:b1≠b:=by omega
 have hmlt:∀ k,p.mut b k→k<w.heap.size:=λk hk=>by
  rcases hk with rfl | hk | hk
  ·exact hbl
  ·exact hval k hk
  ·exact hwal k hk
 have hh:bS (λk=>(k<w.heap.size∧M k)∨k=b1) w5 b p:=by
  refine (h.recolor (λk hlt hk=>?_) (λk hk=>.inl ⟨hmlt k hk,h.mine k hk⟩)).new hnw5
  rcases hk with hk | hk
  ·exact hk.2
  ·omega
 have hb2b:b2≠b:=by omega
 refine ⟨_,rfl,cU (λhne=>?_) (λhz=>?_)⟩
 ·
  rw [if_pos hne] at hst
  refine aF (tq hh (by rw [hxs];simp)) ?_
  rintro r w6 ⟨rfl,va,vc,hpair,hk6,hf6⟩
  have hd6:=hk6.blk hd5 hb1b
  refine ⟨rfl,cK (vs:=aY.cells ⟨p.pure.refusal x n,none,0,0⟩) hd6 (by simp [aY.cells]) (aY.single _),?_⟩
  intro w7 hw7
  have hd7:Blk w7 b1 (aY.cells ⟨p.pure.refusal x n,none,0,0⟩) TD:=by
   rw [hw7]
   have:=hd6.puts (o:=0) (i:=0) (vs:=aY.cells ⟨p.pure.refusal x n,none,0,0⟩)
   rw [gZ (by simp [aY.cells])] at this
   exact this
  have hk7:Keep (λk=>k=b1) w6 w7:=by rw [hw7];exact dD _ _ _ _ _
  clear hw7
  have hkall:Keep (λk=>k=b) w w7:=((Keep.of_new hnw5).trans hk6 λ_ _ h=>h).trans hk7 λk hk he=>by omega
  refine zN (d:=⟨p.pure.refusal x n,none,0,0⟩) (nR hd7) ⟨rfl,⟨p.pure.refusal x n,none,0,0⟩,p.done va vc,?_,?_,?_,?_,?_,?_,hkall.mono (λk _ e=>.inl e),.inr ?_,?_,?_⟩
  ·rw [hst];rfl
  ·rw [hst];rfl
  ·rw [hst]
   refine hn.keep hkall (λe=>?_) (λe=>?_)
   ·have:=Blk.typ hn.node (e▸h.blk);revert this;decide
   ·have:=Blk.typ hn.words (e▸h.blk);revert this;decide
  ·rw [hst]
   intro y hy
   simp only [Option.some.injEq] at hy
   subst hy
   exact ⟨rfl,rfl,Rd.nil _ _,λ_=>rfl,by simp,by simp,rfl⟩
  ·rintro k ⟨o,ho⟩;cases ho
  ·intro M' hM' hm'
   have hpm:=hpair (λk=>M' k∨k=b1) (λk hk=>?_) (λk hk=>.inl (hm' k hk))
   ·refine (hpm.keep hk7 (λk hk he=>?_) (λk he=>.inr he)).recolor (λk _ hk=>.inl hk) hm'
    rcases hk with hk | hk | ⟨o,ho⟩
    ·omega
    ·have:=hf6 k hk;omega
    ·cases ho
   ·rcases hk with hk | hk
    ·rcases hM' k hk with hk' | hk' | ⟨o,ho⟩
     ·exact .inl ⟨by omega,.inl hk'⟩
     ·exact .inr hk'
     ·cases ho
    ·exact .inl ⟨by omega,.inr hk⟩
  ·intro k hk;have:=hf6 k hk;omega
  ·right;rintro k ⟨o,ho⟩;cases ho
  ·rintro k ⟨o,ho⟩;cases ho
 ·
  rw [if_neg (λhc=>hc hz)] at hst
  obtain ⟨hup,hvz⟩:=vm hz
  obtain ⟨hcnt,hins⟩:=nS hvz
  have hin:=fP hins
  have hnlen:=hn.len
  have hl1:x.v.l1=(x.at_+x.v.count - 1) / 8:=rfl
  have hat:x.v.At=x.at_:=rfl
  have hend:x.at_+x.v.count≤n.words.length:=by
   have h1:=hin.2.2.2.2.2.2.2.2.2.1
   rw [hl1] at h1
   omega
  have hpc:=hr x xs hxs
  have hpcs:x.v.pieces[p.executed]?=some (x.v.pieces.getD p.executed (0,0)):=by
   have:p.executed<x.v.pieces.length:=hpc
   simp [this]
  have hplen:x.v.pieces.length≤1024:=by
   have:=jD x.v.count.toNat x.v.At x.v.count
   have h2:=hin.2.2.2.2.2.2.2.2.1
   show (cE _ _ _).length≤1024
   omega
  have hpin:=kb x.v.count.toNat x.v.At x.v.count (by omega) _ (List.mem_of_getElem? hpcs)
  have hpe:p.pure.executed=p.executed:=rfl
  rw [hpe] at hst
  generalize hpcd:x.v.pieces.getD p.executed (0,0)=pc at hpcs hpin hst
  refine mv (v:=v) (vbox hx5) ?_
  refine aF (BI _ v (by rw [hv.at_];omega) (by rw [hv.at_];omega) (by rw [hv.count];exact hcnt) (by rw [hv.count];omega)) ?_
  rintro r w8 ⟨pa,pcap,rfl,hprd,hk8,hpf⟩
  rw [hv.pieces] at hprd
  refine ⟨_,_,_,rfl,?_⟩
  intro w9 hw9
  have hk9:Go.Eng.New w8 w9:=by rw [hw9];exact aU _
  clear hw9
  have hnw9:=(hnw5.new hk8).new hk9
  have hk59:=hk8.new hk9
  have hs9:=hk59.size
  have hp9:=hh.new hk59
  have hN9:=hn.new hnw9
  have hd9:=New.blk hk59 hd5
  have hx9:=New.blk hk59 hx5
  have hprd9:=hprd.new hk9
  have hbnw:b≠nw:=by
   intro e;have:=Blk.typ hn.words (e▸h.blk);revert this;decide
  have hbwa:¬ isB p.wa b:=by
   intro hc
   obtain ⟨cs,hcs⟩:=dU h.wown hc
   have:=Blk.typ hcs h.blk;revert this;decide
  obtain ⟨qb,qo,hpa,_,hqc⟩:=hprd9.row (zz _) (by omega) (zB hpcs)
  have hqb:w5.heap.size≤qb:=by
   have:=hpf qb (by rw [hpa];exact ⟨qo,rfl⟩)
   exact this
  have hqrd:∀ u,Keep (λk=>k=nw∨isB p.wa k) w9 u→aC u ⟨qb,qo+p.executed * 2,none⟩ 0 [.int .i64 pc.1,.int .i64 pc.2]:=by
   intro u hu
   refine kr λj v' hj=>eG hu ?_ ?_
   ·have:=hqc j v' hj
    simpa using this
   ·rintro (hc | hc)
    ·simp at hc <;> omega
    ·have:=hwal _ hc;simp at this <;> omega
  refine ⟨λu=>Keep (λk=>k=nw∨isB p.wa k) w9 u,Keep.refl _ _,_,_,_,λu hu=>(hu.blk hp9.blk (λhc=>hc.elim hbnw hbwa)).cell rfl,
   mV (v:=v) (λu hu=>vbox (hu.blk hx9 (λhc=>hc.elim (λe=>by omega) (λe=>by have:=hwal _ e;omega)))) ⟨_,λu hu=>(hu.blk hp9.blk (λhc=>hc.elim hbnw hbwa)).cell rfl,?_⟩⟩
  rw [hpa]
  have hex':p.executed<x.v.pieces.length:=hpc
  refine bE (by omega) (by rw [hv.pieces];omega) ⟨pc.1,pc.2,λu hu=>by simpa using hqrd u hu,?_⟩
  have hv9:bI M w9 v x:=hv.keep (Keep.of_new hnw9) λ_ _ h=>h
  have hoffn:x.words=[]∨Off (λk=>k=nw) v.Words:=by
   rcases hv.off with ho | ho
   ·exact .inl ho
   ·refine .inr ?_
    cases hW:v.Words with
    |none=>trivial
    |some a=>
     rw [hW] at ho
     intro hc
     exact ho (by rw [hc];exact hmn)
  refine aF (zM hN9 hup hv9 hoffn (by rw [←hat];exact hpin.1) hpin.2.1 hpin.2.2.1 (by rw [←hat];exact hpin.2.2.2) (by omega) hend) ?_
  rintro r w10 ⟨ea,ecap,rfl,herd,hef,hN10,hk10⟩
  have hewf:=Dv hn x pc
  have helen:=BO (x:=x) (n:=n) hpin.2.2.1 hpin.2.1
  generalize hE:exec x pc n=E at herd hN10 hst hewf helen
  have hs10:=hk10.size
  refine ⟨_,_,_,rfl,hk10.mono (λk _ e=>.inl e),?_⟩
  have hp10:bS (λk=>(k<w.heap.size∧M k)∨k=b1) w10 b p:=by
   refine hp9.keep hk10 (λk hk he=>?_) (λk he=>.inl ⟨by omega,by rw [he];exact hmn⟩)
   rcases hk with hk | hk | hk
   ·exact hbnw (hk.symm.trans he)
   ·obtain ⟨cs,hcs⟩:=dU h.own hk
    have:=Blk.typ hcs (he▸hn.words);revert this;decide
   ·exact hwn (he▸hk)
  have hwlen:=h.wlen
  obtain ⟨inf,hi,hz',hsz,hby⟩:=iF (T:=TU) (z:=.int .u64 0) (n:=1) (m:=8) (by kernel_rfl)
  have hown:=hp10.wown
  rw [←hsz] at hown
  obtain ⟨ap,cap',w11,hrun,hown11,hk11,hap⟩:=hown.append (P:=prog) (t:=106) (ty:=106) Tryz.underlying106 hi hz' (by rw [hsz];rfl) (by omega)
   (s:=ea) (m:=E.2.length) (c:=ecap) (news:=us E.2) (by rw [hsz,kV];omega) herd (kw _) (by omega) (by rw [hby];omega)
  rw [hsz,rR] at hown11
  refine ⟨ap,p.words.length+E.2.length,cap',w11,hrun,(hk10.mono (λk _ e=>.inl e)).trans hk11 (λk _ hk=>.inr hk),?_⟩
  have hb11:Blk w11 b p.cells TP:=hk11.blk hp10.blk hbwa
  refine ⟨⟨_,hb11.cell rfl⟩,hb11.frozen,?_⟩
  intro w12 hw12
  have hk12:Keep (λk=>k=b) w11 w12:=by rw [hw12];exact aR _ _ _ _
  have hb12:Blk w12 b (p.cells.set 5 (.slice ap (p.words.length+E.2.length) cap')) TP:=by rw [hw12];exact hb11.setCell _
  clear hw12
  refine ⟨_,hb12.cell rfl,⟨_,hb12.cell rfl⟩,hb12.frozen,?_⟩
  intro w13 hw13
  have hk13:Keep (λk=>k=b) w12 w13:=by rw [hw13];exact aR _ _ _ _
  have ew:IntKind.i64.wrap ((p.executed:Int)+1)=((p.executed+1:Nat):Int):=by rw [w64 (by omega) (by omega)];rfl
  rw [ew] at hw13
  have hb13:Blk w13 b ((p.cells.set 5 (.slice ap (p.words.length+E.2.length) cap')).set 4 (.int .i64 (p.executed+1:Nat))) TP:=by rw [hw13];exact hb12.setCell _
  clear hw13
  have hapb:ap=p.wa∨∀ k,isB ap k→w5.heap.size≤k:=by
   rcases hap with hap | hap
   ·exact .inl hap
   ·refine .inr ?_
    rintro k ⟨o,ho⟩
    rw [hap] at ho
    simp at ho <;> omega
  have hk1013:Keep (λk=>k=b∨isB p.wa k) w10 w13:=((hk11.mono λk _ hk=>.inr hk).trans hk12 λk _ hk=>.inl hk).trans hk13 λk _ hk=>.inl hk
  have hk913:Keep (λk=>k=b∨isB p.wa k∨k=nw) w9 w13:=(hk10.mono λk _ hk=>.inr (.inr hk)).trans hk1013 λk _ hk=>hk.elim .inl λe=>.inr (.inl e)
  have hN13:bM w13 nb nw E.1:=by
   refine hN10.keep hk1013 ?_ ?_
   ·rintro (e | e)
    ·have:=Blk.typ hn.node (e▸h.blk);revert this;decide
    ·obtain ⟨cs,hcs⟩:=dU h.wown e
     have:=Blk.typ hcs hn.node;revert this;decide
   ·rintro (e | e)
    ·exact hbnw e.symm
    ·exact hwn e
  have hd13:Blk w13 b1 _ TD:=hk913.blk hd9 (by rintro (e | e | e);exact hb1b e;have:=hwal _ e;omega;omega)
  have hp13:bS (λk=>((k<w.heap.size∧M k)∨k=b1)∨isB ap k) w13 b { p with executed:=p.executed+1,words:=p.words++E.2,wa:=ap,wc:=cap' }:=by
   have hmine:∀ k,p.mut b k→k<w.heap.size∧M k:=λk hk=>⟨hmlt k hk,h.mine k hk⟩
   have hvt:∀ k,isB p.va k→¬ (k=b∨isB p.wa k):=by
    rintro k hk (e | e)
    ·obtain ⟨cs,hcs⟩:=dU h.own hk
     have:=Blk.typ hcs (e▸h.blk);revert this;decide
    ·obtain ⟨cs,hcs⟩:=dU h.own hk
     obtain ⟨cs',hcs'⟩:=dU h.wown e
     have:=Blk.typ hcs hcs';revert this;decide
   have hapb':∀ k,isB ap k→k≠b:=by
    rintro k hk e
    obtain ⟨cs,hcs⟩:=dU hown11 hk
    have:=Blk.typ hcs (e▸hb11);revert this;decide
   refine ⟨?_,hp10.own.keep hk1013 hvt,?_,?_,h.client,h.inc,h.node,h.len,?_,h.vok,?_,?_,?_⟩
   ·have e:cX.cells { p with executed:=p.executed+1,words:=p.words++E.2,wa:=ap,wc:=cap' }=(p.cells.set 5 (.slice ap (p.words.length+E.2.length) cap')).set 4 (.int .i64 (p.executed+1:Nat)):=by
     simp only [cX.cells,List.length_append]
     rfl
    rw [e]
    exact hb13
   ·show Owns w13 TU 1 ap (p.words++E.2).length cap' (us (p.words++E.2))
    rw [List.length_append]
    exact (hown11.keep hk12 hapb').keep hk13 hapb'
   ·show Vs _ w13 p.raw p.verbs
    refine h.vs.keep ((Keep.of_new hnw9).trans (M:=M) hk913 ?_) ?_
    ·rintro k _ (e | e | e)
     ·exact h.mine k (.inl e)
     ·exact h.mine k (.inr (.inr e))
     ·rw [e];exact hmn
    ·rintro k hlt ((hk | hk) | hk)
     ·exact hk.2
     ·omega
     ·rcases hapb with e | e
      ·exact h.mine k (.inr (.inr (e▸hk)))
      ·have:=e k hk;omega
   ·show (p.words++E.2).length≤8 * (p.executed+1)
    rw [List.length_append];omega
   ·show match p.verbs with | []=>p.executed+1=0 | x::_=>p.executed+1≤x.v.pieces.length
    rw [hxs];exact hex'
   ·intro u hu
    rcases List.mem_append.1 hu with hu | hu
    ·exact h.wwf u hu
    ·exact hewf u hu
   ·rintro k (e | e | e)
    ·exact .inl (.inl (hmine k (.inl e)))
    ·exact .inl (.inl (hmine k (.inr (.inl e))))
    ·exact .inr e
  have hs13:=hk913.size
  have hapb1:∀ k,isB ap k→k≠b1:=by
   intro k hk e
   rcases hapb with h1 | h1
   ·have:=hwal k (h1▸hk);omega
   ·have:=h1 k hk;omega
  have hapb':∀ k,isB ap k→k≠b:=by
   rintro k hk e
   obtain ⟨cs,hcs⟩:=dU hown11 hk
   have:=Blk.typ hcs (e▸hb11);revert this;decide
  have hkw13:Keep (λk=>k=b∨isB p.wa k∨k=nw) w w13:=(Keep.of_new hnw9).trans hk913 λ_ _ h=>h
  refine ⟨_,hb13.cell rfl,?_⟩
  rw [hv.pieces]
  refine aH (λhlt=>?_) (λhge=>?_)
  ·
   have hlt':p.executed+1<x.v.pieces.length:=by omega
   rw [if_pos hlt'] at hst
   refine ⟨cK (vs:=aY.cells ⟨0,none,0,0⟩) hd13 (by simp [aY.cells]) (aY.single _),?_⟩
   intro w14 hw14
   have hd14:Blk w14 b1 (aY.cells ⟨0,none,0,0⟩) TD:=by
    rw [hw14]
    have:=hd13.puts (o:=0) (i:=0) (vs:=aY.cells ⟨0,none,0,0⟩)
    rw [gZ (by simp [aY.cells])] at this
    exact this
   have hk14:Keep (λk=>k=b1) w13 w14:=by rw [hw14];exact dD _ _ _ _ _
   clear hw14
   refine zN (d:=⟨0,none,0,0⟩) (nR hd14) ⟨rfl,⟨0,none,0,0⟩,{ p with executed:=p.executed+1,words:=p.words++E.2,wa:=ap,wc:=cap' },?_,?_,?_,?_,?_,?_,?_,.inl rfl,?_,?_⟩
   ·rw [hst];rfl
   ·rw [hst];rfl
   ·rw [hst]
    refine hN13.keep hk14 (λe=>?_) (λe=>?_)
    ·omega
    ·omega
   ·rw [hst];intro y hy;cases hy
   ·rintro k ⟨o,ho⟩;cases ho
   ·intro M' hM' hm'
    refine (hp13.keep hk14 (λk hk he=>?_) (λk he=>.inl (.inr he))).recolor (λk _ hk=>?_) hm'
    ·rcases hk with hk | hk | hk
     ·omega
     ·have:=hval k hk;omega
     ·exact hapb1 k hk he
    ·rcases hM' k hk with hk | hk | hk
     ·exact .inl (.inl hk)
     ·exact .inl (.inl ⟨hval k hk,h.mine k (.inr (.inl hk))⟩)
     ·exact .inr hk
   ·exact hkw13.trans hk14 λk hk e=>by omega
   ·rcases hapb with h1 | h1
    ·exact .inl h1
    ·exact .inr λk hk=>by have:=h1 k hk;omega
   ·rintro k ⟨o,ho⟩;cases ho
  ·
   have hge':¬ p.executed+1<x.v.pieces.length:=by omega
   rw [if_neg hge'] at hst
   refine ⟨_,_,_,hb13.cell rfl,cK (vs:=aY.cells ⟨0,ap,p.words.length+E.2.length,cap'⟩) hd13 (by simp [aY.cells]) (aY.single _),?_⟩
   intro w15 hw15
   have hd15:Blk w15 b1 (aY.cells ⟨0,ap,p.words.length+E.2.length,cap'⟩) TD:=by
    rw [hw15]
    have:=hd13.puts (o:=0) (i:=0) (vs:=aY.cells ⟨0,ap,p.words.length+E.2.length,cap'⟩)
    rw [gZ (by simp [aY.cells])] at this
    exact this
   have hk15:Keep (λk=>k=b1) w13 w15:=by rw [hw15];exact dD _ _ _ _ _
   clear hw15
   have hs15:=hk15.size
   have hp15:=hp13.keep hk15 (λk hk he=>by
    rcases hk with hk | hk | hk
    ·omega
    ·have:=hval k hk;omega
    ·exact hapb1 k hk he) (λk he=>.inl (.inr he))
   refine aF (tq hp15 (by show p.verbs≠[];rw [hxs];simp)) ?_
   rintro r w16 ⟨rfl,va,vc,hpair,hk16,hf16⟩
   have hs16:=hk16.size
   have hd16:=hk16.blk hd15 hb1b
   refine ⟨rfl,zN (d:=⟨0,ap,p.words.length+E.2.length,cap'⟩) (nR hd16) ⟨cK (vs:=aY.cells ⟨0,ap,p.words.length+E.2.length,cap'⟩) hd16 (by simp [aY.cells]) (aY.single _),?_⟩⟩
   intro w17 hw17
   have hd17:Blk w17 b1 (aY.cells ⟨0,ap,p.words.length+E.2.length,cap'⟩) TD:=by
    rw [hw17]
    have:=hd16.puts (o:=0) (i:=0) (vs:=aY.cells ⟨0,ap,p.words.length+E.2.length,cap'⟩)
    rw [gZ (by simp [aY.cells])] at this
    exact this
   have hk17:Keep (λk=>k=b1) w16 w17:=by rw [hw17];exact dD _ _ _ _ _
   clear hw17
   have hown17:Owns w17 TU 1 ap (p.words.length+E.2.length) cap' (us (p.words++E.2)):=
    (((((hown11.keep hk12 hapb').keep hk13 hapb').keep hk15 hapb1).keep hk16 hapb').keep hk17 hapb1)
   have hkall:Keep (λk=>k=b∨isB p.wa k∨k=nw) w w17:=
    ((hkw13.trans hk15 λk hk e=>by omega).trans hk16 λk _ e=>.inl e).trans hk17 λk hk e=>by omega
   refine zN (d:=⟨0,ap,p.words.length+E.2.length,cap'⟩) (nR hd17) ⟨rfl,⟨0,ap,p.words.length+E.2.length,cap'⟩,cX.done { p with executed:=p.executed+1,words:=p.words++E.2,wa:=ap,wc:=cap' } va vc,?_,?_,?_,?_,?_,?_,hkall,.inr ?_,.inr ?_,?_⟩
   ·rw [hst];rfl
   ·rw [hst];rfl
   ·rw [hst]
    refine ((hN13.keep hk15 (λe=>by omega) (λe=>by omega)).keep hk16 (λe=>?_) (λe=>hbnw e.symm)).keep hk17 (λe=>by omega) (λe=>by omega)
    have:=Blk.typ hn.node (e▸h.blk);revert this;decide
   ·rw [hst]
    intro y hy
    simp only [Option.some.injEq] at hy
    subst hy
    refine ⟨rfl,by simp [cX.pure],hown17.rd,?_,?_,hown17.le,rfl⟩
    ·intro hc
     rcases hown17.2 with ⟨_,h0,_⟩ | ⟨g,cur,h0,_⟩
     ·exact List.eq_nil_of_length_eq_zero (by simpa [cX.pure] using h0)
     ·rw [show ap=none from hc] at h0;cases h0
    ·intro u hu
     rcases List.mem_append.1 hu with hu | hu
     ·exact h.wwf u hu
     ·exact hewf u hu
   ·intro k hk
    rcases hapb with h1 | h1
    ·exact .inl (h1▸hk)
    ·have:=h1 k hk;exact .inr (by omega)
   ·intro M' hM' hm'
    have hpm:=hpair (λk=>M' k∨k=b1) (λk hk=>?_) (λk hk=>.inl (hm' k hk))
    ·refine (hpm.keep hk17 (λk hk he=>?_) (λk he=>.inr he)).recolor (λk _ hk=>.inl hk) hm'
     rcases hk with hk | hk | ⟨o,ho⟩
     ·omega
     ·have:=hf16 k hk;omega
     ·cases ho
    ·rcases hk with hk | hk
     ·rcases hM' k hk with hk' | hk' | ⟨o,ho⟩
      ·exact .inl ⟨by omega,.inl (.inl hk')⟩
      ·exact .inr hk'
      ·cases ho
     ·exact .inl ⟨by omega,.inl (.inr hk)⟩
   ·intro k hk;have:=hf16 k hk;omega
   ·rintro k ⟨o,ho⟩;cases ho
   ·intro k hk
    exact dU hown17 hk
end Go.Proofs.YtgpmeaicjonenaaGreat
