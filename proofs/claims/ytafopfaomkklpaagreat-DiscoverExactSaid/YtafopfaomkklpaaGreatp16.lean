/- A part of the proof. -/
import Derived.Test.YtafopfaomkklpaaGreatp15
set_option linter.unusedVariables false
namespace Go.Proofs.YtafopfaomkklpaaGreat
open Go.Proofs.Tryz
open Go.Eng
abbrev TFo:TypeId:=41
abbrev FoR:=aD
def BL (r:FoR):aB:=⟨r.Code,r.Number,r.View,r.Status,r.Opened,r.Hint,r.Boots,r.Boots_l,r.Boots_c,r.Keys,r.Keys_l,r.Keys_c,r.Doors,r.Doors_l,r.Doors_c⟩
theorem CX {w13:World} {b1 b2:Nat} {cs:List Value} (h2:Blk w13 b2 cs TFo) (h1:Blk w13 b1 out0 TFo) (r:FoR) (hcs:cs=aD.cells r) {R:Value→World→Prop} (hR:∀ w',Keep (λk=>k=b1) w13 w'→R (aD.val r) w') :
  aD.ex λr=>aH w13 ⟨b2,0,none⟩ 0 r.cells∧wrAt w13 ⟨b1,0,none⟩ 0 r.cells∧∀ w14,w14=puts w13 ⟨b1,0,none⟩ 0 r.cells→aD.ex λres=>aH w14 ⟨b1,0,none⟩ 0 res.cells∧w14=w14∧R res.val w14:=by
 subst hcs
 refine aD.mk_ex r ⟨aK h2 rfl,eZ h1 (by simp [aB.cells,aD.cells]) (aD.single r),?_⟩
 rintro w14 rfl
 have hp:=h1.puts (o:=0) (i:=0) (vs:=aD.cells r)
 refine aD.mk_ex r ⟨aK hp rfl,rfl,hR _ (dU _ _ _ _ _)⟩
theorem rG {w2:World} {b1:Nat} {c:Int} (h1:Blk w2 b1 out0 TFo) {R:Value→World→Prop} (hR:∀ w',Keep (λk=>k=b1) w2 w'→R (aD.val ⟨c,0,⟨0,none,0,0⟩,0,false,0,none,0,0,none,0,0,none,0,0⟩) w') :
  wrAt w2 ⟨b1,0,none⟩ 0 [(.int .i64 c),(.int .i64 0),(.int .i64 0),(.slice none 0 0),(.int .i64 0),(.bool false),(.int .u64 0),(.slice none 0 0),(.slice none 0 0),(.slice none 0 0)]∧∀ w3,w3=puts w2 ⟨b1,0,none⟩ 0 [(.int .i64 c),(.int .i64 0),(.int .i64 0),(.slice none 0 0),(.int .i64 0),(.bool false),(.int .u64 0),(.slice none 0 0),(.slice none 0 0),(.slice none 0 0)]→
   aD.ex λres=>aH w3 ⟨b1,0,none⟩ 0 res.cells∧w3=w3∧R res.val w3:=by
 refine ⟨eZ h1 (by simp [aB.cells]) (aD.single ⟨c,0,⟨0,none,0,0⟩,0,false,0,none,0,0,none,0,0,none,0,0⟩),?_⟩
 rintro w3 rfl
 have hp:=h1.puts (o:=0) (i:=0) (vs:=aD.cells ⟨c,0,⟨0,none,0,0⟩,0,false,0,none,0,0,none,0,0,none,0,0⟩)
 refine aD.mk_ex ⟨c,0,⟨0,none,0,0⟩,0,false,0,none,0,0,none,0,0,none,0,0⟩ ⟨aK hp rfl,rfl,hR _ (dU _ _ _ _ _)⟩
def qS (w:World) (F:Fnd) (x:Value) (w':World):Prop:=∃ r:FoR,x=r.val∧(lN w' (BL r) F∧Frs w.heap.size (BL r) F)∧New w w'
structure RSt (w0 u:World) (b1 bo bB bK n:Nat) (num:Int) (lB0 lK0:List Int):Prop where
 res:Blk u b1 out0 TFo
 blk:Blk u bo (aD.cells ⟨0,num,⟨0,none,0,0⟩,0,false,0,some ⟨bB,0,none⟩,n,n,some ⟨bK,0,none⟩,n,n,none,0,0⟩) TFo
 B:Blk u bB (is lB0) TI
 K:Blk u bK (us lK0) 32
 lB:lB0.length=n
 lK:lK0.length=n
 new:New w0 u
 old:w0.heap.size≤b1∧w0.heap.size≤bo∧w0.heap.size≤bB∧w0.heap.size≤bK
 ne:b1≠bo
theorem RSt.next {w0 u z:World} {b1 bo bB bK n:Nat} {num:Int} {B K:List Int} (h:RSt w0 u b1 bo bB bK n num B K) (hn:New u z):RSt w0 z b1 bo bB bK n num B K:=
 ⟨New.blk hn h.res,New.blk hn h.blk,New.blk hn h.B,New.blk hn h.K,h.lB,h.lK,h.new.new hn,h.old,h.ne⟩
theorem yE (l:List Int) (m:Nat):l++List.replicate (m+1) 0=(l++[0])++List.replicate m 0:=by simp [List.replicate_succ]
theorem AS (l:List Int) (m:Nat) (x:Int):(l++List.replicate (m+1) 0).set l.length x=(l++[x])++List.replicate m 0:=by simp [List.replicate_succ]
theorem oE (number:Int):∀ (L:Ctl) (x:Option (List Int)),dT number (L++[x])=dT number L++(match x with | none=>[] | some ws=>[conW number ws])
 | [],none=>rfl
 | [],some ws=>rfl
 |none::L,x=>by rw [List.cons_append,dT,dT,oE number L x]
 |some ws::L,x=>by rw [List.cons_append,dT,dT,oE number L x,List.cons_append]
theorem qh (number:Int):∀ (L:Ctl),(dT number L).length≤L.length
 | []=>Nat.le_refl _
 |none::L=>by have:=qh number L;rw [dT,List.length_cons];omega
 |some ws::L=>by have:=qh number L;rw [dT,List.length_cons,List.length_cons];omega
theorem BM {number value nodes:Int} (h:(fW number value nodes).2≠0):(fW number value nodes).1=⟨0,[]⟩:=by
 unfold fW at h ⊢
 split
 ·rfl
 ·rename_i hn
  rw [if_neg hn] at h
  exact absurd rfl h
theorem F4 {n:Int} {A l:List Int} {v:Int} (h:fndW n A l=some v):U64 v:=by
 unfold fndW at h
 cases hf:l.find? (majW n A) with
 |none=>rw [hf] at h;cases h
 |some x=>
  rw [hf] at h
  cases h
  have:=G3 x
  exact ⟨this.1,by have:=this.2;show cwV x<_;omega⟩
set_option maxHeartbeats 2000000 in
theorem Ib {w0 w:World} {a:Option Addr} {c:Nat} {raw:List aY} {ds:List Done} (hr:Rd w0 a (gS raw).flatten) (hd:Ds w0 raw ds) (hl:ds.length≤5) (h1:1≤ds.length) (hok:ds.all qO=true) (hcor:(ds.map ans1).any dY=false) {nodes:Int} (hnd:nodes=ds.length)
  {b1 bo bB bK:Nat} (hs:RSt w0 w b1 bo bB bK ds.length (fD (ds.map ans1)) ((ds.map ans1).map gI) ((ds.map ans1).map keyW)) {wa:Option Addr} {wc:Nat} {ws:List Int} (hws:ws=dT (fD (ds.map ans1)) (ds.map ans1)) (hw:Rd w wa (us ws)) (hU:∀ x ∈ ws,U64 x) {F:Fnd} (hF:vP nodes (ds.map ans1)=F) (jj:List Value) :
  W prog (sub (aA f16) [1,1,1,1,1,1,1,1,1]) (i0 nodes a raw.length c ⟨b1,0,none⟩ ⟨bo,0,none⟩ wa ws.length wc jj) (retQ prog f16 (qS w0 F)) w:=by
 rw [pP]
 have hctlU:∀ xs,some xs ∈ ds.map ans1→0≤xs.getD 0 0:=by
  intro xs hxs
  obtain ⟨d,hd1,hd2⟩:=List.mem_map.1 hxs
  obtain ⟨i,hi,e⟩:=List.getElem_of_mem hd1
  have hrl:=hd.1
  have hda:=hd.2 i raw[i] d (List.getElem?_eq_getElem (by omega)) (by rw [List.getElem?_eq_getElem hi,e])
  unfold ans1 at hd2
  split at hd2
  ·cases hd2
  ·cases hd2
   rw [List.getD_eq_getElem?_getD]
   cases hg:d.words[0]? with
   |none=>simp
   |some y=>exact (hda.wf y (List.mem_of_getElem? hg)).1
 have hnum:=xJ hcor hctlU
 have hlw:ws.length≤5:=by
  have:=qh (fD (ds.map ans1)) (ds.map ans1)
  rw [List.length_map] at this
  rw [hws]
  omega
 have hdec:=Hg (fD (ds.map ans1)) (ds.map ans1)
 rw [←hws,List.length_map,←hnd] at hdec
 have hlB:((ds.map ans1).map gI).length=ds.length:=by simp
 have hlK:((ds.map ans1).map keyW).length=ds.length:=by simp
 generalize hL:ds.map ans1=L at *
 refine aG (BJ hw hU hlw (n:=nodes) (by omega)) ?_
 rintro x w11 ⟨rfl,rfl⟩
 have hz11:=hs.res
 have hb11:=hs.blk
 have hnw11:=hs.new
 obtain ⟨o1,o2,o3,o4⟩:=hs.old
 have hne:=hs.ne
 have hBb1:bB≠b1:=hs.B.ne hz11 (by decide)
 have hBbo:bB≠bo:=hs.B.ne hb11 (by decide)
 have hKb1:bK≠b1:=hs.K.ne hz11 (by decide)
 have hKbo:bK≠bo:=hs.K.ne hb11 (by decide)
 have frB:Fr0 w0.heap.size (some ⟨bB,0,none⟩):=λk hb=>by obtain ⟨o,ho⟩:=hb;simp at ho;have:=hs.old;omega
 have frK:Fr0 w0.heap.size (some ⟨bK,0,none⟩):=λk hb=>by obtain ⟨o,ho⟩:=hb;simp at ho;have:=hs.old;omega
 have rowsB:∀ {u:World},Keep (λk=>k=b1∨k=bo) w11 u→Rd u (some ⟨bB,0,none⟩) (is (L.map gI))∧Rd u (some ⟨bK,0,none⟩) (us (L.map keyW)):=by
  intro u hk
  exact ⟨eV (hk.blk hs.B (by omega)) (by simp),eV (hk.blk hs.K (by omega)) (by simp)⟩
 have fin:∀ {u v:World},Keep (λk=>k=bo) w11 u→Keep (λk=>k=b1) u v→Keep (λk=>k=b1∨k=bo) w11 v∧New w0 v:=by
  intro u v h1 h2
  have h3:Keep (λk=>k=b1∨k=bo) w11 v:=(h1.mono λ_ _ h=>.inr h).trans (h2.mono λ_ _ h=>.inl h) λ_ _ h=>h
  exact ⟨h3,hnw11.trans h3 λk hlt e=>by omega⟩
 have bad:∀ (u:World) (hk:Keep (λk=>k=bo∨w11.heap.size≤k) w11 u) (hbu:Blk u bo (aD.cells ⟨0,fD L,⟨0,none,0,0⟩,0,false,0,some ⟨bB,0,none⟩,ds.length,ds.length,some ⟨bK,0,none⟩,ds.length,ds.length,none,0,0⟩) TFo),F=badF L→
   (∃ v,u.cell? ⟨bo,0,none⟩=some v)∧u.frozen? ⟨bo,0,none⟩=false∧∀ w18,w18=u.setCell ⟨bo,0,none⟩ (.int .i64 14)→aD.ex λr=>aH w18 ⟨bo,0,none⟩ 0 r.cells∧wrAt w18 ⟨b1,0,none⟩ 0 r.cells∧∀ w19,w19=puts w18 ⟨b1,0,none⟩ 0 r.cells→aD.ex λres=>aH w19 ⟨b1,0,none⟩ 0 res.cells∧w19=w19∧qS w0 F res.val w19:=by
  intro u hk hbu hbad
  refine ⟨⟨_,hbu.cell (i:=0) rfl⟩,hbu.frozen,?_⟩
  rintro w18 rfl
  have hb3:=hbu.setCell (i:=0) (.int .i64 14)
  have k1:=aN u bo 0 (.int .i64 14)
  have kk:Keep (λk=>k=bo) w11 (u.setCell ⟨bo,0,none⟩ (.int .i64 14)):=(hk.trans k1 λ_ _ h=>.inl h).mono λk hlt e=>by rcases e with e | e;exact e;omega
  refine CX (R:=qS w0 F) hb3 (kk.blk hz11 hne) ⟨14,fD L,⟨0,none,0,0⟩,0,false,0,some ⟨bB,0,none⟩,ds.length,ds.length,some ⟨bK,0,none⟩,ds.length,ds.length,none,0,0⟩ rfl λw' hk'=>⟨_,rfl,?_,(fin kk hk').2⟩
  obtain ⟨rb,rk⟩:=rowsB (fin kk hk').1
  rw [hbad]
  exact ⟨⟨rfl,rfl,⟨λ_=>False,tL _ _⟩,rfl,rfl,rfl,⟨rb,hlB.symm⟩,⟨rk,hlK.symm⟩,⟨vQ _ _,rfl⟩⟩,.inr frB,.inr frK,.inl rfl,.inl rfl⟩
 unfold vP at hF
 rw [hdec] at hF
 unfold decR
 have hfU:=@F4 nodes ws ws
 generalize fndW nodes ws ws=fw at hF hfU ⊢
 generalize (tM ws (0,0)).2=hint at hF ⊢
 clear hdec
 cases fw with
 |none=>
  rw [if_pos rfl] at hF
  refine ⟨_,_,_,rfl,cG rfl ⟨⟨_,hb11.cell (i:=0) rfl⟩,hb11.frozen,?_⟩⟩
  rintro w12 rfl
  have hb3:=hb11.setCell (i:=0) (.int .i64 10)
  have k1:=aN w11 bo 0 (.int .i64 10)
  refine ⟨⟨_,hb3.cell (i:=6) rfl⟩,hb3.frozen,?_⟩
  rintro w13 rfl
  have hb4:=hb3.setCell (i:=6) (.int .u64 hint)
  have k2:=aN (w11.setCell ⟨bo,0,none⟩ (.int .i64 10)) bo 6 (.int .u64 hint)
  have kk:=k1.trans k2 λ_ _ h=>h
  refine CX (R:=qS w0 F) hb4 (kk.blk hz11 hne) ⟨10,fD L,⟨0,none,0,0⟩,0,false,hint,some ⟨bB,0,none⟩,ds.length,ds.length,some ⟨bK,0,none⟩,ds.length,ds.length,none,0,0⟩ rfl λw' hk'=>⟨_,rfl,?_,(fin kk hk').2⟩
  obtain ⟨rb,rk⟩:=rowsB (fin kk hk').1
  rw [←hF]
  exact ⟨⟨rfl,rfl,⟨λ_=>False,tL _ _⟩,rfl,rfl,rfl,⟨rb,hlB.symm⟩,⟨rk,hlK.symm⟩,⟨vQ _ _,rfl⟩⟩,.inr frB,.inr frK,.inl rfl,.inl rfl⟩
 |some dv=>
 rw [if_neg (by simp)] at hF
 have hdU:U64 dv:=hfU rfl
 refine ⟨_,_,_,rfl,dM rfl ⟨_,hb11.cell (i:=1) rfl,?_⟩⟩
 refine aG (Ej w11 (fD L) hdU nodes) ?_
 rintro x w15 ⟨rv,rfl,hview,hn15'⟩
 refine aF.mk_ex rv ⟨_,rfl,?_⟩
 dsimp only at hF
 have hvok:=@yD (fD L) dv nodes
 have hvbad:=@BM (fD L) dv nodes
 generalize hvp:fW (fD L) dv nodes=vp at hF hview hvok hvbad ⊢
 obtain ⟨vw,ve⟩:=vp
 have hs15:=hn15'.size
 have hb15:=New.blk hn15' hb11
 refine kE (vs:=rv.cells) rfl (aF.single _) λb3 w17 hb3 hz17 hn17=>?_
 have hn1117:=hn15'.new hn17
 have hb17:=New.blk hn17 hb15
 have hvw17:=eX.new hview hn17
 dsimp only at hF hview hvok hvbad hvw17
 have hmem:∀ m ∈ vw.mem,(0≤m.Node∧m.Node<ds.length)∧1≤m.Boot∧m.Boot≤31:=by
  by_cases he:ve=0
  ·obtain ⟨_,_,hm⟩:=vk (hvok he).1
   rw [hnd] at hm
   exact hm
  ·rw [hvbad he]
   intro m hm
   simp at hm
 refine aF.mk_ex rv ⟨aK hz17 rfl,_,_,_,hb17.cell (i:=7) rfl,?_⟩
 have hB17:=New.blk hn1117 hs.B
 have hn017:=hnw11.new hn1117
 refine aG (BK (hr.new hn017) (hd.new hn017) hok (eV hB17 (xs:=is ((ds.map ans1).map gI)) (by rw [hL];simp)) rfl hvw17 hmem) ?_
 rintro x w20 ⟨hn20,hdoors⟩
 rw [hL] at hdoors
 have hb20:=New.blk hn20 hb17
 have hz20:=New.blk hn20 hz17
 have hn1120:=hn1117.new hn20
 unfold AQ at hF
 dsimp only at hF
 generalize fO L vw.mem (List.replicate 6 0)=D at hF hdoors
 by_cases he:ve=0
 case neg=>
  rw [if_pos he] at hF
  cases D with
  |none=>subst hdoors;exact ⟨_,_,_,_,rfl,bE (λ_=>bad w20 (Keep.of_new hn1120) hb20 hF.symm) (λe=>absurd e he)⟩
  |some dd=>
   obtain ⟨bd,rfl,_⟩:=hdoors
   exact ⟨_,_,_,_,rfl,bE (λ_=>bad w20 (Keep.of_new hn1120) hb20 hF.symm) (λe=>absurd e he)⟩
 rw [if_neg (λe=>e he)] at hF
 obtain ⟨hval,hvn,hv5⟩:=hvok he
 cases D with
 |none=>
  subst hdoors
  exact ⟨_,_,_,_,rfl,bE (λe=>absurd he e) (λ_=>cG rfl (bad w20 (Keep.of_new hn1120) hb20 hF.symm))⟩
 |some dd=>
 obtain ⟨bd,rfl,hbd,hbdk,hdl⟩:=hdoors
 have hs17:=hn17.size
 have hs1117:=hn1117.size
 have hb2l:=hb11.lt
 refine ⟨_,_,_,_,rfl,bE (λe=>absurd he e) (λ_=>dM rfl (aF.mk_ex rv ⟨aK hz20 rfl,eZ hb20 (by simp [aD.cells,aF.cells]) (aF.single rv),?_⟩))⟩
 rintro w23 rfl
 have hb23:=hb20.puts (o:=2) (i:=0) (vs:=rv.cells)
 have k1:=dU w20 bo 2 0 rv.cells
 refine ⟨⟨_,hb23.cell (i:=9) rfl⟩,hb23.frozen,?_⟩
 rintro w24 rfl
 have hb24:=hb23.setCell (i:=9) (.slice (some ⟨bd,0,none⟩) 6 6)
 have k2:=k1.trans (aN (puts w20 ⟨bo,2,none⟩ 0 rv.cells) bo 9 (.slice (some ⟨bd,0,none⟩) 6 6)) λ_ _ h=>h
 have hb3l:=hz20.lt
 have hb23n:b3≠bo:=by omega
 have hz24:=k2.blk hz20 hb23n
 refine aF.mk_ex rv ⟨aK hz24 rfl,_,_,_,hb24.cell (i:=7) rfl,_,_,_,hb24.cell (i:=8) rfl,?_⟩
 have k11:Keep (λk=>k=bo) w11 ((puts w20 ⟨bo,2,none⟩ 0 rv.cells).setCell ⟨bo,9,none⟩ (.slice (some ⟨bd,0,none⟩) 6 6)):=(Keep.of_new hn1120).trans k2 λ_ _ h=>h
 have hv24:eX (λk=>k<w11.heap.size) ((puts w20 ⟨bo,2,none⟩ 0 rv.cells).setCell ⟨bo,9,none⟩ (.slice (some ⟨bd,0,none⟩) 6 6)) rv vw:=by
  have h0:=eX.new hvw17 hn20
  refine ⟨h0.num,h0.len,h0.cap,h0.rd.keep k2 ?_,h0.off,h0.small⟩
  rcases h0.off with e | e
  ·exact .inl e
  ·refine .inr ?_
   cases ha:rv.Members with
   |none=>trivial
   |some ad=>
    rw [ha] at e
    exact λhM=>e (by rw [show ad.block=bo from hM];exact hb2l)
 obtain ⟨rb,rk⟩:=rowsB (k11.mono λ_ _ h=>.inr h)
 refine aG (CI hv24 (by rw [hvn];exact hnum) (λm hm=>(hmem m hm).2.1) rb hlB.symm rk hlK.symm (by omega) (by omega)) ?_
 rintro x w25 ⟨rfl,hn25⟩
 have hb25:=New.blk hn25 hb24
 refine ⟨_,_,rfl,⟨_,hb25.cell (i:=4) rfl⟩,hb25.frozen,?_⟩
 rintro w26 rfl
 have hb26:=hb25.setCell (i:=4) (.int .i64 (jE vw (L.map gI) (L.map keyW)))
 have k3:=aN w25 bo 4 (.int .i64 (jE vw (L.map gI) (L.map keyW)))
 refine ⟨⟨_,hb26.cell (i:=5) rfl⟩,hb26.frozen,?_⟩
 rintro w27 rfl
 have hb27:=hb26.setCell (i:=5) (.bool (oQ vw (L.map keyW)))
 have k4:=aN (w25.setCell ⟨bo,4,none⟩ (.int .i64 (jE vw (L.map gI) (L.map keyW)))) bo 5 (.bool (oQ vw (L.map keyW)))
 have k25:=(k2.new hn25).trans (k3.trans k4 λ_ _ h=>h) λ_ _ h=>h
 have kk:=(Keep.of_new (M:=λk=>k=bo) hn1120).trans k25 λ_ _ h=>h
 refine CX (R:=qS w0 F) hb27 (kk.blk hz11 hne) ⟨0,fD L,rv,jE vw (L.map gI) (L.map keyW),oQ vw (L.map keyW),0,some ⟨bB,0,none⟩,ds.length,ds.length,some ⟨bK,0,none⟩,ds.length,ds.length,some ⟨bd,0,none⟩,6,6⟩ rfl λw' hk'=>⟨_,rfl,?_,(fin kk hk').2⟩
 obtain ⟨rb,rk⟩:=rowsB (fin kk hk').1
 rw [←hF]
 have k20:Keep (λk=>k=b1∨k=bo) w20 w':=(k25.mono λ_ _ h=>.inr h).trans (hk'.mono λ_ _ h=>.inl h) λ_ _ h=>h
 have hb1l:=hz11.lt
 refine ⟨⟨rfl,rfl,⟨λk=>k<w11.heap.size,?_⟩,rfl,rfl,rfl,⟨rb,hlB.symm⟩,⟨rk,hlK.symm⟩,⟨eV (k20.blk hbdk (by omega)) (by simp),by rw [hdl];rfl⟩⟩,.inr frB,.inr frK,.inr λk hk=>by obtain ⟨o,ho⟩:=hk;have ho:some (⟨bd,0,none⟩:Addr)=some ⟨k,o,none⟩:=ho;simp at ho;have:=hnw11.size;omega,Fu hvw17.off hnw11.size⟩
 have h0:=eX.new hvw17 hn20
 refine ⟨h0.num,h0.len,h0.cap,h0.rd.keep k20 ?_,h0.off,h0.small⟩
 rcases h0.off with e | e
 ·exact .inl e
 ·refine .inr ?_
  cases ha:rv.Members with
  |none=>trivial
  |some ad=>
   rw [ha] at e
   refine λhM=>e ?_
   rcases hM with e' | e'
   ·rw [show ad.block=b1 from e'];exact hb1l
   ·rw [show ad.block=bo from e'];exact hb2l
end Go.Proofs.YtafopfaomkklpaaGreat
