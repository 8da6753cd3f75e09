/- A part of the proof. -/
import Derived.Test.YtafopfaomkklpaaGreatp25
set_option linter.unusedVariables false
namespace Go.Proofs.YtafopfaomkklpaaGreat
open Go.Proofs.Tryz
open Go.Eng
def StR (w:World) (fb:Nat) (F:Fa) (N:List cB) (Cl:List CliR) (P:Nat→List bS) (c i m:Nat) (pr:bS) (Av:Nat→Prop) (q:dR) (qs:List dR) (x:Value) (w':World):Prop:=
 ∃ (dn:aY) (slot:Int) (done:Bool) (a:Option Addr) (n cap:Nat) (ps:List dR),x=.tuple #[dn.val,.int .i64 slot,.bool done,.bool true]∧dC w' fb F N Cl (setP P c ((P c).set i ⟨pr.Client,pr.Inc,pr.Node,a,n,cap⟩))∧QAt w' Av F.lines m a n cap ps∧Keep (λk=>k=F.pb c∨WBk N k) w w'∧
  ((done=true∧ps=qs∧slot=q.Slot∧DnAt w' Av dn)∨(done=false∧∃ q',ps=q'::qs∧q'.Slot=q.Slot∧q'.V=q.V∧q'.Executed=q.Executed+1))
set_option maxHeartbeats 8000000 in
theorem Gk {w:World} {fb:Nat} {F:Fa} {N:List cB} {Cl:List CliR} {P:Nat→List bS} (h:dC w fb F N Cl P) {c i:Nat} (hc:c<Cl.length) {pr:bS} (hi:(P c)[i]?=some pr) {r:cB} (hr:r ∈ N) {nd:Addr} (had:NdAt fb F N Cl P r nd) (hup:∀ y,dC y fb F N Cl P→y.cell? ⟨nd.block,nd.off+1,none⟩=some (.bool r.Up))
  {Av:Nat→Prop} (hAs:∀ k,Av k→k<w.heap.size) (hA1:Av (F.pb c)) (hA2:∀ k,WBk N k→Av k) {m:Nat} {q:dR} {qs:List dR} (hq:QAt w Av F.lines m pr.Queue pr.Ql pr.Qc (q::qs)) :
  Does 92 [.pointer (some ⟨F.pb c,i * 4,none⟩),.pointer (some nd)] w (StR w fb F N Cl P c i m pr Av q qs):=by
 refine does Tryz.func92 ?_
 rw [qp]
 have hln:=h.ln
 rintro b1 w1 hb1 hw1
 obtain ⟨hz1,hn1⟩:=aR hb1 hw1
 have hz1:Blk w1 b1 (aY.cells ⟨0,none,0,0⟩) 53:=hz1
 clear hw1
 have h1:=h.new hn1
 have hq1:=hq.next hn1
 have hlen:=hq.len
 have hfew:=hq.few
 rw [List.length_cons] at hlen hfew
 have hqc:∀ {y:World} {M:List cB},dC y fb F M Cl P→y.cell? ⟨F.pb c,i * 4+3,none⟩=some (.slice pr.Queue pr.Ql pr.Qc):=λhy=>Owns.row bS.len (hy.pairs c hc).1 hi (j:=3) rfl
 have hb1w:w.heap.size≤b1:=by omega
 have hb1A:¬ Av b1:=λhA=>by have:=hAs b1 hA;omega
 refine ⟨_,_,_,hqc h1,bC (λe=>absurd e (by omega)) (λ_=>⟨_,_,_,hqc h1,?_⟩)⟩
 refine fY (cells:=fX) aM.len (by omega) (i:=0) (x:=q) (l:=q::qs) hq1.rd rfl rfl hq1.len λb o hcc _=>aM.mk_ex q ⟨hcc,?_⟩
 refine kE (vs:=fX q) rfl (aM.single _) λb2 w4 hb2 hz4 hn4=>?_
 have hz4:Blk w4 b2 (fX q) TPe:=hz4
 have h4:=h1.new hn4
 have hn04:=hn1.new hn4
 have hq4:=hq.next hn04
 have hx4:=New.blk hn4 hz1
 have hs4:=hn04.size
 have hs1:=hn1.size
 have hb12:b1≠b2:=by have:=hz1.lt;omega
 have hb2w:w.heap.size≤b2:=by omega
 have hb1l:=hx4.lt
 have hb2l:=hz4.lt
 obtain ⟨Av',hAv'⟩:∃ A:Nat→Prop,A=λk=>Av k∨k=b1∨k=b2:=⟨_,rfl⟩
 have hq':QAt w Av' F.lines m pr.Queue pr.Ql pr.Qc (q::qs):=hq.to λk hlt e=>by
  rw [hAv'] at e
  rcases e with e | e | e
  ·exact e
  ·omega
  ·omega
 have hAs':∀ k,Av' k→k<w4.heap.size:=λk e=>by
  rw [hAv'] at e
  rcases e with e | e | e
  ·have:=hAs k e;omega
  ·omega
  ·omega
 have hA1':Av' (F.pb c):=by rw [hAv'];exact .inl hA1
 have hAb1:Av' b1:=by rw [hAv'];exact .inr (.inl rfl)
 have hAb2:Av' b2:=by rw [hAv'];exact .inr (.inr rfl)
 have hA2':∀ k,WBk N k→Av' k:=λk e=>by rw [hAv'];exact .inl (hA2 k e)
 have hback:∀ k,Av k→Av' k:=λk e=>by rw [hAv'];exact .inl e
 have hq4:=hq'.next hn04
 have hown1:∀ {y:World} {M:List cB} {PP:Nat→List bS},dC w fb F M Cl P→∀ k,F.own fb M Cl.length k→k≠b1:=λhf k hk e=>by have:=hf.lt hk;omega
 have fin:∀ {u:World} {a:Option Addr} {n cap:Nat} {ps:List dR} {ddn:Bool} {sl:Int} (cd:Int) (wa:Option Addr) (wl wc:Nat),dC u fb F N Cl (setP P c ((P c).set i ⟨pr.Client,pr.Inc,pr.Node,a,n,cap⟩))→QAt u Av' F.lines m a n cap ps→Keep (λk=>k=F.pb c∨WBk N k) w u→Blk u b1 (aY.cells ⟨0,none,0,0⟩) 53→
   (∀ w8,Keep (λk=>k=b1) u w8→((ddn=true∧ps=qs∧sl=q.Slot∧DnAt w8 Av ⟨cd,wa,wl,wc⟩)∨(ddn=false∧∃ q',ps=q'::qs∧q'.Slot=q.Slot∧q'.V=q.V∧q'.Executed=q.Executed+1)))→
   ∀ {K:World→Prop},(∀ w8,Keep (λk=>k=b1) u w8→K w8)→wrAt u ⟨b1,0,none⟩ 0 [(.int .i64 cd),(.slice wa wl wc)]∧∀ w8,w8=puts u ⟨b1,0,none⟩ 0 [(.int .i64 cd),(.slice wa wl wc)]→K w8∧aY.ex λres1=>aH w8 ⟨b1,0,none⟩ 0 res1.cells∧w8=w8∧StR w fb F N Cl P c i m pr Av q qs (.tuple #[res1.val,(.int .i64 sl),(.bool ddn),(.bool true)]) w8:=by
  intro u a n cap ps ddn sl cd wa wl wc hf6 hq6 hk06 hx7 hd K hK
  refine qL (vs:=aY.cells ⟨cd,wa,wl,wc⟩) hx7 rfl (aY.single _) λw8 hx8 hk8=>⟨hK w8 hk8,?_⟩
  refine aY.mk_ex ⟨cd,wa,wl,wc⟩ ⟨aK hx8 rfl,rfl,⟨cd,wa,wl,wc⟩,_,ddn,a,n,cap,ps,rfl,hf6.keep hk8 (λk hk e=>?_),(hq6.keep hk8 λk _ e=>by rw [e];exact hAb1).to (λk _ e=>hback k e),hk06.trans hk8 λk hlt e=>by omega,hd w8 hk8⟩
  have:F.own fb N Cl.length k:=hk
  have:=h.lt this
  omega
 have hpd:=hq4.ok q List.mem_cons_self
 have k04:∀ {u:World} {M:Nat→Prop},Keep M w4 u→(∀ k,M k→k=F.pb c∨WBk N k∨w.heap.size≤k)→Keep (λk=>k=F.pb c∨WBk N k) w u:=λhk hM=>
  (Keep.of_new hn04).trans hk λk hlt e=>by
   rcases hM k e with e | e | e
   ·exact .inl e
   ·exact .inr e
   ·omega
 have pop:∀ {u:World} (code:Int),New w4 u→dC u fb F N Cl P→∃ (Queue:Option Addr) (Ql Qc:Nat),u.cell? ⟨F.pb c,i * 4+3,none⟩=some (.slice Queue Ql Qc)∧sl3 Queue Ql Qc 1 Ql Qc 12 λxa xl xc=>∃ (ap:Option Addr) (al ac:Nat),∃ w5,(Builtin.append_ #[187,187] 187 #[(.slice none 0 0),(.slice xa xl xc)]).run prog u=.ok (.slice ap al ac) w5∧(∃ v,w5.cell? ⟨F.pb c,i * 4+3,none⟩=some v)∧w5.frozen? ⟨F.pb c,i * 4+3,none⟩=false∧∀ w6,w6=w5.setCell ⟨F.pb c,i * 4+3,none⟩ (.slice ap al ac)→
   ∀ w7,w7=w6.drew→∃ Sx:World→Prop,Sx w7∧∃ (Slot:Int),(∀ y,Sx y→y.cell? ⟨b2,11,none⟩=some (.int .i64 Slot))∧wrAt w7 ⟨b1,0,none⟩ 0 [(.int .i64 code),(.slice none 0 0)]∧∀ w8,w8=puts w7 ⟨b1,0,none⟩ 0 [(.int .i64 code),(.slice none 0 0)]→Sx w8∧aY.ex λres1=>aH w8 ⟨b1,0,none⟩ 0 res1.cells∧w8=w8∧StR w fb F N Cl P c i m pr Av q qs (.tuple #[res1.val,(.int .i64 Slot),(.bool true),(.bool true)]) w8:=by
  intro u code hnu hfu
  have hqu:=hq4.next hnu
  have hsu:=hnu.size
  refine Hs hfu hc hi hqu (λk hA=>by have:=hAs' k hA;omega) hA1' λw6 a n cap hf6 hq6 hk6=>?_
  rintro w7 hw7
  have hn7:New w6 w7:=by rw [hw7];exact aW _
  clear hw7
  have hpbl:=hAs _ hA1
  have hx7:=New.blk hn7 (hk6.blk (New.blk hnu hx4) λe=>by omega)
  have hz7:=New.blk hn7 (hk6.blk (New.blk hnu hz4) λe=>by omega)
  have hk7:Keep (λk=>k=F.pb c) w4 w7:=((Keep.of_new hnu).trans hk6 λ_ _ e=>e).new hn7
  refine ⟨λy=>Blk y b2 (fX q) TPe,hz7,_,λy hy=>hy.cell (i:=11) rfl,?_⟩
  exact fin (ps:=qs) (ddn:=true) (sl:=q.Slot) code none 0 0 (hf6.new hn7) (hq6.next hn7) (k04 hk7 λk e=>.inl e) hx7 (λw8 _=>.inl ⟨rfl,rfl,rfl,⟨[],.inl rfl,rfl,by simp,by simp⟩,λk hk=>absurd hk noB,λk hk=>absurd hk noB⟩) λw8 hk8=>hk8.blk hz7 λe=>hb12 e.symm
 refine ⟨_,hup w4 h4,ri (λ_=>cG rfl (pop 4 (Keep.refl _ _) h4)) (λ_=>?_)⟩
 rintro w5 hw5
 have hn5:New w4 w5:=by rw [hw5];exact aW _
 clear hw5
 have h5:=h4.new hn5
 have hz5:=New.blk hn5 hz4
 refine ⟨λy=>New w5 y,Keep.refl _ _,bA.mk_ex q.V ⟨λy hy=>aK (New.blk hy hz5) rfl,_,_,_,λy hy=>had y (h5.new hy),?_⟩⟩
 refine aG (zN w5 q.V 5 _) ?_
 rintro x w6 ⟨e,rfl,_,hn6⟩
 have hn46:=hn5.new hn6
 have h6:=h4.new hn46
 refine ⟨_,rfl,hn6,bE (λ_=>cG rfl (pop 2 hn46 h6)) (λ_=>?_)⟩
 rintro w7 hw7
 have hn7:New w6 w7:=by rw [hw7];exact aW _
 clear hw7
 have hn47:=hn46.new hn7
 have h7:=h4.new hn47
 have hz7:=New.blk hn47 hz4
 refine ⟨λy=>New w7 y,Keep.refl _ _,bA.mk_ex q.V ⟨λy hy=>aK (New.blk hy hz7) rfl,_,λy hy=>Owns.row bS.len ((h7.new hy).pairs c hc).1 hi (j:=1) rfl,_,λy hy=>Owns.row bS.len ((h7.new hy).pairs c hc).1 hi (j:=0) rfl,?_⟩⟩
 refine aG (Gj w7 pr.Client) ?_
 rintro x w8 ⟨⟨dr,rfl⟩,rfl⟩
 refine ⟨_,rfl,Keep.refl _ _,?_⟩
 refine aG (at_w h7 hr had dr) ?_
 rintro x w9 ⟨⟨y1,rfl⟩,rfl⟩
 refine ⟨_,rfl,Keep.refl _ _,?_⟩
 refine aG (at_w h7 hr had 0) ?_
 rintro x w10 ⟨⟨y2,rfl⟩,rfl⟩
 refine ⟨_,rfl,Keep.refl _ _,?_⟩
 refine aG (at_w h7 hr had 1) ?_
 rintro x w11 ⟨⟨y3,rfl⟩,rfl⟩
 refine ⟨_,rfl,Keep.refl _ _,?_⟩
 refine aG (Ge w11 q.V pr.Inc y1 y2 y3) ?_
 rintro x w12 ⟨⟨ce,rfl⟩,hn12⟩
 have hn412:=hn47.new hn12
 have h12:=h4.new hn412
 refine ⟨_,rfl,hn12,bE (λ_=>pop ce hn412 h12) (λ_=>?_)⟩
 have hz12:=New.blk hn412 hz4
 have hpd12:=hpd.keep hn412 λ_ _ e=>e.elim
 have hat:=hpd12.at0
 have hcn:=hpd12.cnt
 have hft:=hpd12.fit
 have hex:=hpd12.ex
 refine bA.mk_ex q.V ⟨aK hz12 rfl,?_⟩
 refine aG (C6 w12 ⟨hat,by omega⟩ (by omega)) ?_
 rintro x w13 ⟨pa,pcap,rfl,hpo,hn13⟩
 refine ⟨_,_,_,rfl,?_⟩
 rintro w14 hw14
 have hn14:New w13 w14:=by rw [hw14];exact aW _
 clear hw14
 have hn1214:=hn13.new hn14
 have hn414:=hn412.new hn1214
 have h14:=h4.new hn414
 have hz14:=New.blk hn414 hz4
 have hx14:=New.blk hn414 hx4
 have hpo14:=Owns.new hn14 hpo
 have hpd14:=hpd.keep hn414 λ_ _ e=>e.elim
 obtain ⟨xs,hxr,hxl,hxU,hxn⟩:=hpd14.words
 obtain ⟨g,rfl⟩:=rJ hpo14 (by omega)
 obtain ⟨e0,he0⟩:=Int.eq_ofNat_of_zero_le hex.1
 have hnp:e0<(npV q.V).length:=by omega
 have hgp:((npV q.V).map pcR)[e0]?=some (pcR (npV q.V)[e0]):=by rw [List.getElem?_map,List.getElem?_eq_getElem hnp];rfl
 have hin:=Hr (l:=cntV q.V) hat (List.getElem_mem hnp)
 refine ⟨λy=>Wr N w14 y,Wr.refl _ _,_,_,_,λy hy=>(hy.tr h14.nok (by decide) _ _ hz14).cell (i:=10) rfl,bA.mk_ex q.V ⟨λy hy=>aK (hy.tr h14.nok (by decide) _ _ hz14) rfl,_,λy hy=>(hy.tr h14.nok (by decide) _ _ hz14).cell (i:=9) rfl,?_⟩⟩
 refine bG hex.1 hex.2 (aX.mk_ex (pcR (npV q.V)[e0]) ⟨λy hy=>fM λj v hv=>?_,?_⟩)
 ·rw [show 0+q.Executed.toNat * 2+0+j=e0 * 2+j by omega]
  exact Owns.row aX.len (Owns.tr (hy.tr h14.nok (by decide)) hpo14) hgp hv
 have hnpl:=Gg q.V.At (cntV q.V)
 have hnpl':((npV q.V).length:Int)≤1024:=by unfold npV;omega
 refine yz hxr hxl (by omega) λap1 ac1 w15 ho15 hn15 hap1=>⟨Wr.of_new hn15,?_⟩
 have h15:=h14.new hn15
 have hpd15:=hpd14.keep hn15 λ_ _ e=>e.elim
 have hfitp:(pcR (npV q.V)[e0]).At+(pcR (npV q.V)[e0]).N≤F.lines * 8:=by
  show (npV q.V)[e0].1+(npV q.V)[e0].2≤_
  have:=hin.2.2
  omega
 refine aG (C7 h15 hr had (hpd15.vb.to λk _ e=>hA2' k e) (p:=pcR (npV q.V)[e0]) hin.1 ⟨hat,hin.2.1⟩ hfitp (λhk2=>by
  have h2:=hin.2.2
  have:cntV q.V=q.V.Wl:=by unfold cntV;rw [if_neg (by omega),if_pos hk2]
  show (npV q.V)[e0].1+(npV q.V)[e0].2≤_
  omega)) ?_
 rintro x w16 ⟨ea,en,ec,l2,rfl,hwl,hl8,hwr⟩
 have hwr16:Wr N w14 w16:=(Wr.of_new hn15).trans hwr
 have s15:=hn15.size
 have s14:=hn414.size
 refine ⟨_,_,_,rfl,hwr16,?_⟩
 have ho16:=Owns.keep hwr.keep ho15 λk hk e=>by have:=(yL h14.nok e).lt;have:=hap1 k hk;omega
 refine wO ho16 hwl.own.rd hwl.len (by have:=hwl.len;omega) λap2 ac2 w17 ho17 hk17 hap2=>?_
 have hwr17:Wr N w14 w17:=hwr16.fresh hk17 hap1
 have h17:=h14.wr hwr17
 have hz17:=hwr17.tr h14.nok (by decide) _ _ hz14
 have hx17:=hwr17.tr h14.nok (by decide) _ _ hx14
 refine ⟨hwr17,⟨_,hz17.cell (i:=10) rfl⟩,hz17.frozen,?_⟩
 rintro w18 hw18
 have hz18:=hz17.setCell (i:=10) (.slice ap2 (q.Words_l+en) ac2)
 have hk18:Keep (λk=>k=b2) w17 w18:=by rw [hw18];exact aN _ _ _ _
 have hw18':w18=w17.setCell ⟨b2,10,none⟩ (.slice ap2 (q.Words_l+en) ac2):=hw18
 rw [←hw18'] at hz18
 clear hw18 hw18'
 refine ⟨_,hz18.cell (i:=9) rfl,⟨_,hz18.cell (i:=9) rfl⟩,hz18.frozen,?_⟩
 rintro w19 hw19
 rw [w64 (x:=q.Executed+1) (by omega) (by omega)] at hw19
 have hz19:=hz18.setCell (i:=9) (.int .i64 (q.Executed+1))
 have hk19:Keep (λk=>k=b2) w18 w19:=by rw [hw19];exact aN _ _ _ _
 have hw19':w19=w18.setCell ⟨b2,9,none⟩ (.int .i64 (q.Executed+1)):=hw19
 rw [←hw19'] at hz19
 clear hw19 hw19'
 obtain ⟨q',hqe⟩:∃ q':dR,q'=⟨q.V,q.Executed+1,ap2,q.Words_l+en,ac2,q.Slot⟩:=⟨_,rfl⟩
 have hz19:Blk w19 b2 (fX q') TPe:=by rw [hqe];exact hz19
 have hk1719:=hk18.trans hk19 λ_ _ e=>e
 have k419:Keep (λk=>WBk N k∨k=b2) w4 w19:=((Keep.of_new hn414).trans (hwr17.keep.mono λk _ e=>.inl e) λ_ _ e=>e).trans (hk1719.mono λk _ e=>.inr e) λ_ _ e=>e
 have h19:dC w19 fb F N Cl P:=h17.keep hk1719 λk hk e=>by have:=h.lt hk;omega
 have hx19:=hk1719.blk hx17 hb12
 have hq19:=hq4.keep k419 λk _ e=>by
  rcases e with e | e
  ·exact hA2' k e
  ·rw [e];exact hAb2
 have s19:=k419.size
 have hap2':∀ k,isB ap2 k→w14.heap.size≤k:=λk hk=>by
  have:=hwr16.keep.size
  rcases hap2 k hk with e | e
  ·exact hap1 k e
  ·omega
 have ho19:=Owns.keep hk1719 ho17 λk hk e=>by have:=hap2' k hk;omega
 have hen:=hwl.len
 have hw19:∃ zs:List Int,Rd w19 ap2 (us zs)∧q.Words_l+en=zs.length∧(∀ x ∈ zs,U64 x)∧(zs.length:Int)≤8 * (q.Executed+1):=⟨xs++l2,ho19.rd,by rw [List.length_append,←hxl,hen],λx hx=>by
  rcases List.mem_append.1 hx with hx | hx
  ·exact hxU x hx
  ·exact hwl.u64 x hx,by rw [List.length_append];omega⟩
 have hoff2:∀ k,isB ap2 k→¬ Av' k:=λk hk e=>by have:=hap2' k hk;have:=hAs' k e;omega
 have hlt2:∀ k,isB ap2 k→k<w19.heap.size:=λk hk=>Owns.lt ho19 hk
 have hqV:q'.V=q.V:=by rw [hqe]
 have hqX:q'.Executed=q.Executed+1:=by rw [hqe]
 have hqS:q'.Slot=q.Slot:=by rw [hqe]
 have hpq:=hq19.ok q List.mem_cons_self
 refine ⟨_,hz19.cell (i:=9) (v:=.int .i64 (q.Executed+1)) (by rw [hqe];rfl),aE (λhmore=>?more) (λhmore=>?last)⟩
 case more=>
  refine ⟨_,_,_,hqc h19,?_⟩
  have hq19l:=hq19.len
  refine A0 hq19.rd hq19l (by omega) λap3 ac3 w20 ho20 hn20 hap3=>?_
  have hz20:=New.blk hn20 hz19
  have hx20:=New.blk hn20 hx19
  have h20:=h19.new hn20
  refine aM.mk_ex q' ⟨aK hz20 rfl,?_⟩
  obtain ⟨g3,rfl⟩:=rJ ho20 (by omega)
  obtain ⟨cur,hb3,hcl,hct⟩:=Owns.blk ho20
  have hle3:=ho20.le
  have hcur12:12≤cur.length:=by omega
  refine bG (by omega) (by omega) ⟨eZ hb3 (by rw [aM.len];simp;omega) (aM.single _),?_⟩
  rintro w21 hw21
  have hb21:=hb3.puts (o:=0) (i:=0) (vs:=fX q')
  have hk21:Keep (λk=>k=g3) w20 w21:=by rw [hw21];exact dU _ _ _ _ _
  have hw21':w21=puts w20 ⟨g3,0,none⟩ 0 (fX q'):=hw21
  rw [←hw21'] at hb21
  clear hw21 hw21'
  have hg3:=hap3 g3 ⟨0,rfl⟩
  have hrows:Rd w21 (some ⟨g3,0,none⟩) ((q'::qs).map fX).flatten:=by
   refine eV hb21 ?_
   have hl12:(fX q').length=12:=rfl
   rw [List.drop_zero,tq (by rw [hl12];omega)]
   have e1:((q'::qs).map fX).flatten=fX q'++(qs.map fX).flatten:=by simp
   have e2:((q::qs).map fX).flatten=fX q++(qs.map fX).flatten:=by simp
   have hql:(fX q).length=12:=rfl
   have hqsl:((qs.map fX).flatten).length=qs.length * 12:=lh aM.len qs
   rw [e2] at hct
   rw [e1]
   have e3:(cur.drop 12).take (qs.length * 12)=(qs.map fX).flatten:=by
    have:(cur.take (pr.Ql * 12)).drop 12=(qs.map fX).flatten:=by rw [hct,List.drop_append_of_le_length (by omega),List.drop_of_length_le (by omega),List.nil_append]
    rw [List.drop_take] at this
    rw [←this,show pr.Ql * 12 - 12=qs.length * 12 by omega]
   rw [show 0+0=0 from rfl,List.take_zero,List.nil_append,hl12,Nat.zero_add,List.length_append,hl12,hqsl,List.take_append,hl12,List.take_of_length_le (by omega),show 12+qs.length * 12 - 12=qs.length * 12 by omega,e3]
  have h21:dC w21 fb F N Cl P:=h20.keep hk21 λk hk e=>by have:=h.lt hk;have:=hn20.size;omega
  have hz21:=hk21.blk hz20 (by omega)
  have hx21:=hk21.blk hx20 (by omega)
  refine ⟨⟨_,Owns.row bS.len (h21.pairs c hc).1 hi (j:=3) rfl⟩,Owns.frozen (h21.pairs c hc).1,?_⟩
  rintro w22 hw22
  have hk22:Keep (λk=>k=F.pb c) w21 w22:=by rw [hw22];exact aN _ _ _ _
  have hrow:=Owns.setRow bS.len (h21.pairs c hc).1 hi (j:=3) (r':=⟨pr.Client,pr.Inc,pr.Node,some ⟨g3,0,none⟩,pr.Ql,ac3⟩) (v:=.slice (some ⟨g3,0,none⟩) pr.Ql ac3) (by omega) rfl
  have hw22':w22=w21.setCell ⟨F.pb c,i * 4+3,none⟩ (.slice (some ⟨g3,0,none⟩) pr.Ql ac3):=hw22
  rw [←hw22'] at hrow
  clear hw22 hw22'
  have hf22:=h21.rePair hc hk22 (by rw [List.length_set];exact (h.pairs c hc).2) hrow
  have hpbl:=hAs _ hA1
  have k1922:Keep (λk=>k=F.pb c) w19 w22:=((Keep.of_new hn20).trans hk21 λk hlt e=>by omega).trans hk22 λ_ _ e=>e
  have hq22:QAt w22 Av' F.lines m (some ⟨g3,0,none⟩) pr.Ql ac3 (q'::qs):=by
   refine ⟨ko hk22 hrows λk _ hb e=>?_,by rw [List.length_cons];omega,hle3,by rw [List.length_cons];omega,λk hb e=>?_,λk hb=>?_,λp hp=>?_⟩
   ·have:=ng hb;omega
   ·have:=ng hb;have:=hAs' k e;omega
   ·have:=hb21.lt;have:=hk22.size;have:=ng hb;omega
   ·rcases List.mem_cons.1 hp with rfl | hp
    ·have hold:=hpq.keep k1922 λk _ e=>by rw [e];exact hA1'
     obtain ⟨zs,z1,z2,z3,z4⟩:=hw19
     refine ⟨by rw [hqV];exact hold.vb,by rw [hqV];exact hold.kind,by rw [hqV];exact hold.at0,by rw [hqV];exact hold.cnt,by rw [hqV];exact hold.fit,?_,⟨zs,?_,by rw [hqe];exact z2,z3,by rw [hqX];exact z4⟩,?_,?_,by rw [hqS];exact hold.slot⟩
     ·rw [hqV,hqX];exact ⟨by omega,hmore⟩
     ·have:p.Words=ap2:=by rw [hqe]
      rw [this]
      exact ko k1922 z1 λk _ hb e=>hoff2 k hb (by rw [e];exact hA1')
     ·rw [hqe];exact hoff2
     ·rw [hqe];exact λk hk=>Nat.lt_of_lt_of_le (hlt2 k hk) k1922.size
    ·exact (hq19.ok p (List.mem_cons_of_mem _ hp)).keep k1922 λk _ e=>by rw [e];exact hA1'
  have hx22:=hk22.blk hx21 (by omega)
  have hk022:Keep (λk=>k=F.pb c∨WBk N k) w w22:=(k04 k419 λk e=>by rcases e with e | e;exact .inr (.inl e);exact .inr (.inr (by omega))).trans (k1922.mono λk _ e=>.inl e) λ_ _ e=>e
  have:=fin (ps:=q'::qs) (ddn:=false) (sl:=-1) 0 none 0 0 hf22 hq22 hk022 hx22 (λw8 _=>.inr ⟨rfl,q',rfl,hqS,hqV,hqX⟩) (K:=λ_=>True) λ_ _=>trivial
  exact ⟨this.1,λw8 hw8=>(this.2 w8 hw8).2⟩
 case last=>
  refine Hs h19 hc hi hq19 (λk hA=>by have:=hAs' k hA;omega) hA1' λw20 a n cap hf20 hq20 hk20=>?_
  rintro w21 hw21
  have hn21:New w20 w21:=by rw [hw21];exact aW _
  clear hw21
  have hpbl:=hAs _ hA1
  have hz21:=New.blk hn21 (hk20.blk hz19 (by omega))
  have hx21:=New.blk hn21 (hk20.blk hx19 (by omega))
  have k1921:Keep (λk=>k=F.pb c) w19 w21:=hk20.new hn21
  refine ⟨λy=>Blk y b2 (fX q') TPe,hz21,ap2,q.Words_l+en,ac2,λy hy=>hy.cell (i:=10) (by rw [hqe];rfl),q.Slot,λy hy=>hy.cell (i:=11) (by rw [hqe];rfl),?_⟩
  have hk021:Keep (λk=>k=F.pb c∨WBk N k) w w21:=(k04 k419 λk e=>by rcases e with e | e;exact .inr (.inl e);exact .inr (.inr (by omega))).trans (k1921.mono λk _ e=>.inl e) λ_ _ e=>e
  exact fin (ps:=qs) (ddn:=true) (sl:=q.Slot) 0 ap2 (q.Words_l+en) ac2 (hf20.new hn21) (hq20.next hn21) hk021 hx21 (λw8 hk8=>.inl ⟨rfl,rfl,rfl,by
   obtain ⟨zs,z1,z2,z3,z4⟩:=hw19
   exact ⟨⟨zs,ko hk8 (ko k1921 z1 λk _ hb e=>hoff2 k hb (by rw [e];exact hA1')) λk _ hb e=>hoff2 k hb (by rw [e];exact hAb1),z2,z3,by omega⟩,λk hb e=>hoff2 k hb (hback k e),λk hb=>Nat.lt_of_lt_of_le (Nat.lt_of_lt_of_le (hlt2 k hb) k1921.size) hk8.size⟩⟩) λw8 hk8=>hk8.blk hz21 λe=>hb12 e.symm
end Go.Proofs.YtafopfaomkklpaaGreat
namespace Go.Proofs.YtafopfaomkklpaaGreat
open Go.Eng
def VbIn (w:World) (v:bA):Prop:=(∃ vs:List Int,Rd w v.Words (us vs)∧v.Wl=vs.length∧∀ x ∈ vs,U64 x)∧U64 v.New∧v.Wl≤1000000
theorem VbIn.next {w w':World} {v:bA} (h:VbIn w v) (hn:New w w'):VbIn w' v:=by
 obtain ⟨⟨vs,h1,h2,h3⟩,h4⟩:=h
 exact ⟨⟨vs,h1.new hn,h2,h3⟩,h4⟩
set_option maxHeartbeats 4000000 in
theorem Gl {w:World} {fb:Nat} {F:Fa} {N:List cB} {Cl:List CliR} {P:Nat→List bS} (h:dC w fb F N Cl P) {c i:Nat} (hc:c<Cl.length) {pr:bS} (hi:(P c)[i]?=some pr) {v:bA} (hnd:pr.Node=v.Node) (hv:VOk v 5 F.lines) (hvm:VbIn w v)
  {Av:Nat→Prop} (hAs:∀ k,Av k→k<w.heap.size) (hA1:Av (F.pb c)) {m:Nat} {ps:List dR} (hq:QAt w Av F.lines m pr.Queue pr.Ql pr.Qc ps) (hlt:ps.length<1024) {s:Nat} (hs:s<m) :
  Does 91 [.pointer (some ⟨F.pb c,i * 4,none⟩),v.val,.int .i64 F.lines,.int .i64 s] w λx w'=>x=.int .i64 0∧∃ (a:Option Addr) (n cap:Nat) (pd:dR),dC w' fb F N Cl (setP P c ((P c).set i ⟨pr.Client,pr.Inc,pr.Node,a,n,cap⟩))∧QAt w' Av F.lines m a n cap (ps++[pd])∧pd.Slot=(s:Int)∧Keep (λk=>k=F.pb c) w w':=by
 refine does Tryz.func91 ?_
 rw [qo]
 have hln:=h.ln
 rintro b1 w1 hb1 hw1
 obtain ⟨hz1,hn1⟩:=aR hb1 hw1
 have hz1:Blk w1 b1 v.cells TVb:=hz1
 clear hw1
 refine bA.mk_ex v ⟨aK hz1 rfl,?_⟩
 refine aG (zN w1 v 5 F.lines) ?_
 rintro x w2 ⟨e,rfl,he,hn2⟩
 have he0:=he.2 hv
 subst he0
 have hz2:=New.blk hn2 hz1
 refine ⟨_,rfl,bE (λe=>absurd rfl e) (λ_=>?_)⟩
 rintro w3 hw3
 have hn3:New w2 w3:=by rw [hw3];exact aW _
 clear hw3
 have hz3:=New.blk hn3 hz2
 have hn03:=hn1.new (hn2.new hn3)
 have h3:=h.new hn03
 have hq3:=hq.next hn03
 have hql:=hq.len
 have hs03:=hn03.size
 have hqc:∀ {y:World},dC y fb F N Cl P→y.cell? ⟨F.pb c,i * 4+3,none⟩=some (.slice pr.Queue pr.Ql pr.Qc):=λhy=>Owns.row bS.len (hy.pairs c hc).1 hi (j:=3) rfl
 refine ⟨λy=>New w3 y,Keep.refl _ _,_,λy hy=>(New.blk hy hz3).cell (i:=1) rfl,_,λy hy=>Owns.row bS.len ((h3.new hy).pairs c hc).1 hi (j:=2) rfl,bE (λe=>absurd hnd.symm e) (λ_=>⟨_,_,_,hqc h3,aE (λe=>absurd e (by omega)) (λ_=>?_)⟩)⟩
 obtain ⟨⟨vs,hvr,hvl,hvU⟩,hvN,hwl⟩:=hvm.next hn03
 have hsv:=hv.2.2.2.2.2.2.2.1
 refine ⟨_,_,_,hz3.cell (i:=6) rfl,?_⟩
 refine yz hvr hvl hwl λap ac w4 ho4 hn4 hap=>?_
 have hz4:=New.blk hn4 hz3
 refine ⟨⟨_,hz4.cell (i:=6) rfl⟩,hz4.frozen,?_⟩
 rintro w5 hw5
 have hz5:=hz4.setCell (i:=6) (.slice ap v.Wl ac)
 have hk5:Keep (λk=>k=b1) w4 w5:=by rw [hw5];exact aN _ _ _ _
 have hw5':w5=w4.setCell ⟨b1,6,none⟩ (.slice ap v.Wl ac):=hw5
 rw [←hw5'] at hz5
 clear hw5 hw5'
 obtain ⟨v',hv'⟩:∃ v':bA,v'=⟨v.Kind,v.Node,v.At,v.N,v.Old,v.New,ap,v.Wl,ac,v.Key,v.Boot⟩:=⟨_,rfl⟩
 have hz5:Blk w5 b1 v'.cells TVb:=by rw [hv'];exact hz5
 have ho5:=Owns.keep hk5 ho4 λk hk e=>Owns.noB ho4 hz4 (by decide) (by rw [←e];exact hk)
 have hn05:New w w5:=(hn03.new hn4).trans hk5 λk hlt e=>by omega
 rintro w6 hw6
 have hn6:New w5 w6:=by rw [hw6];exact aW _
 clear hw6
 have hn06:=hn05.new hn6
 have h6:=h.new hn06
 have hq6:=hq.next hn06
 have hz6:=New.blk hn6 hz5
 have ho6:=Owns.new hn6 ho5
 have hs06:=hn06.size
 have hcnt:cntV v'=cntV v:=by rw [hv'];rfl
 obtain ⟨hk1,hkN,hkW,hk5',_,hnode,hat,hc1024,hla,_⟩:=hv
 have hcn1:1≤cntV v:=by
  unfold cntV
  split
  ·exact hkN (by assumption)
  ·split
   ·exact hkW (by assumption)
   ·omega
 obtain ⟨pd,hpd⟩:∃ pd:dR,pd=⟨v',0,none,0,0,s⟩:=⟨_,rfl⟩
 have hnp:0<(npV v').length:=by unfold npV;rw [hcnt];exact Gi (by omega)
 have hPd:∀ {y:World},New w6 y→PdAt y Av F.lines m pd:=λ{y} hy=>by
  have hoy:=Owns.new hy ho6
  rw [hpd]
  refine ⟨⟨⟨vs,?_,?_,hvU⟩,?_,?_,?_⟩,?_,?_,?_,?_,⟨Int.le_refl _,?_⟩,⟨[],.inl rfl,rfl,by simp,by simp⟩,λk hk=>absurd hk noB,λk hk=>absurd hk noB,?_⟩
  ·rw [hv'];exact hoy.rd
  ·rw [hv'];exact hvl
  ·rw [hv'];exact λk hk hA=>by have:=hap k hk;have:=hAs k hA;omega
  ·rw [hv'];exact λk hk=>Owns.lt hoy hk
  ·rw [hv'];exact hvN
  ·rw [hv'];exact hk1
  ·rw [hv'];exact hat.1
  ·show 1≤cntV v'∧cntV v'≤1024
   rw [hcnt]
   exact ⟨hcn1,hc1024⟩
  ·show v'.At+cntV v'≤_
   rw [hcnt,hv']
   show v.At+cntV v≤_
   omega
  ·show (0:Int)<(npV v').length
   omega
  ·exact ⟨by show (0:Int)≤(s:Int);omega,by show (s:Int)<m;omega⟩
 have fin:∀ {u:World} {a:Option Addr} {n cap:Nat},New w6 u→Owns u TPe 12 a n cap ((ps++[pd]).map fX).flatten→(∀ k,isB a k→w6.heap.size≤k)→n=pr.Ql+1→
   (∃ v,u.cell? ⟨F.pb c,i * 4+3,none⟩=some v)∧u.frozen? ⟨F.pb c,i * 4+3,none⟩=false∧∀ w10,w10=u.setCell ⟨F.pb c,i * 4+3,none⟩ (.slice a n cap)→(Value.int .i64 0=.int .i64 0∧∃ (a:Option Addr) (n cap:Nat) (pd:dR),dC w10 fb F N Cl (setP P c ((P c).set i ⟨pr.Client,pr.Inc,pr.Node,a,n,cap⟩))∧QAt w10 Av F.lines m a n cap (ps++[pd])∧pd.Slot=(s:Int)∧Keep (λk=>k=F.pb c) w w10):=by
  intro u a n cap hnu hoa hfr hn
  have hu:=h6.new hnu
  refine ⟨⟨_,hqc hu⟩,Owns.frozen (hu.pairs c hc).1,?_⟩
  rintro w10 hw10
  have hk10:Keep (λk=>k=F.pb c) u w10:=by rw [hw10];exact aN _ _ _ _
  have hrow:=Owns.setRow bS.len (hu.pairs c hc).1 hi (j:=3) (r':=⟨pr.Client,pr.Inc,pr.Node,a,n,cap⟩) (v:=.slice a n cap) (by omega) rfl
  rw [←hw10] at hrow
  have hpbl:=hAs _ hA1
  have ho10:=Owns.keep hk10 hoa λk hk e=>by have:=hfr k hk;omega
  refine ⟨rfl,a,n,cap,pd,hu.rePair hc hk10 (by rw [List.length_set];exact (h.pairs c hc).2) hrow,⟨ho10.rd,by rw [List.length_append,hn,hql];rfl,ho10.le,by rw [List.length_append];simp;omega,λk hk hA=>by have:=hfr k hk;have:=hAs k hA;omega,λk hk=>Owns.lt ho10 hk,λp hp=>?_⟩,by rw [hpd],(Keep.of_new (hn06.new hnu)).trans hk10 λ_ _ e=>e⟩
  rcases List.mem_append.1 hp with hp | hp
  ·exact ((hq6.ok p hp).keep hnu λ_ _ e=>e.elim).keep hk10 λk _ e=>by rw [e];exact hA1
  ·rw [List.mem_singleton.1 hp]
   exact (hPd hnu).keep hk10 λk _ e=>by rw [e];exact hA1
 have hfew:=hq.few
 obtain ⟨inf,hif,hzf,hszf,hbyf⟩:=p7 (T:=TPe) (z:=.agg #[.int .i64 0,.int .i64 0,.int .i64 0,.int .i64 0,.int .u64 0,.int .u64 0,.slice none 0 0,.int .u64 0,.int .i64 0,.int .i64 0,.slice none 0 0,.int .i64 0]) (n:=12) (m:=128) (by kernel_rfl)
 refine ⟨λy=>New w6 y,Keep.refl _ _,_,_,_,λy hy=>hqc (h6.new hy),bA.mk_ex v' ⟨λy hy=>aK (New.blk hy hz6) rfl,?_,?_⟩⟩
 ·refine A0 hq6.rd hql (by omega) λa1 c1 w7 ho7 hn7 hf7=>⟨hn7,?_⟩
  rintro b2 w8 hb2 hw8
  obtain ⟨hz8,hn8⟩:=aR hb2 hw8
  have hz8:Blk w8 b2 (fX pd) TPe:=by rw [hpd];exact hz8
  clear hw8
  refine ⟨hn7.new hn8,?_⟩
  have s7:=hn7.size
  have s8:=hn8.size
  refine pH (cells:=fX) aM.len aM.single Tryz.underlying187 hif hzf (by rw [hszf];rfl) hszf (by omega) (by omega) (Owns.new hn8 ho7) (s:=some ⟨b2,0,none⟩) (m:=1) (c:=1) (l2:=[pd]) (eV hz8 (by simp)) rfl (by omega) λa2 c2 w9 ho9 hk9 hf9=>?_
  have hn9:New w6 w9:=(hn7.new hn8).trans hk9 λk hlt e=>by have:=hf7 k e;omega
  exact ⟨hn9,fin hn9 ho9 (λk hk=>by rcases hf9 k hk with e | e;exact hf7 k e;omega) rfl⟩
 ·rintro b2 w8 hb2 hw8
  obtain ⟨hz8,hn8⟩:=aR hb2 hw8
  have hz8:Blk w8 b2 (fX pd) TPe:=by rw [hpd];exact hz8
  clear hw8
  have s8:=hn8.size
  refine ⟨hn8,?_⟩
  refine A0 (hq6.next hn8).rd hql (by omega) λa1 c1 w7 ho7 hn7 hf7=>⟨hn8.new hn7,?_⟩
  have s7:=hn7.size
  refine pH (cells:=fX) aM.len aM.single Tryz.underlying187 hif hzf (by rw [hszf];rfl) hszf (by omega) (by omega) ho7 (s:=some ⟨b2,0,none⟩) (m:=1) (c:=1) (l2:=[pd]) (eV (New.blk hn7 hz8) (by simp)) rfl (by omega) λa2 c2 w9 ho9 hk9 hf9=>?_
  have hn9:New w6 w9:=(hn8.new hn7).trans hk9 λk hlt e=>by have:=hf7 k e;omega
  exact ⟨hn9,fin hn9 ho9 (λk hk=>by rcases hf9 k hk with e | e;have:=hf7 k e;omega;omega) rfl⟩
end Go.Proofs.YtafopfaomkklpaaGreat
