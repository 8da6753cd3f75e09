/- A part of the proof. -/
import Derived.Test.YtafopfaomkklpaaGreatp12
set_option linter.unusedVariables false
namespace Go.Proofs.YtafopfaomkklpaaGreat
open Go.Eng
structure Fnd where
 code:Int
 number:Int
 view:Vw
 status:Int
 opened:Bool
 hint:Int
 boots:List Int
 keys:List Int
 doors:List Int
def Fnd.err (c:Int):Fnd:=⟨c,0,⟨0,[]⟩,0,false,0,[],[],[]⟩
def badF (L:Ctl):Fnd:=⟨14,fD L,⟨0,[]⟩,0,false,0,L.map gI,L.map keyW,[]⟩
def AQ (L:Ctl) (p:Vw×Int):Fnd:=if p.2≠0 then badF L else match fO L p.1.mem (List.replicate 6 0) with
 |none=>badF L
 |some ds=>⟨0,fD L,p.1,jE p.1 (L.map gI) (L.map keyW),oQ p.1 (L.map keyW),0,L.map gI,L.map keyW,ds⟩
def vP (nodes:Int) (L:Ctl):Fnd:=if (kV (fD L) L).2=false then ⟨10,fD L,⟨0,[]⟩,0,false,(kV (fD L) L).1,L.map gI,L.map keyW,[]⟩ else AQ L (fW (fD L) (kV (fD L) L).1 nodes)
def qH (nodes:Int) (ds:List Done):Fnd:=match oR nodes ds with
 |none=>Fnd.err 6
 |some (L,n)=>if n<j3 nodes then Fnd.err 9 else if L.any dY=true then Fnd.err 14 else vP nodes L
structure lN (w:World) (r:aB) (f:Fnd):Prop where
 code:r.Code=f.code
 number:r.Number=f.number
 view:∃ M,eX M w r.View f.view
 status:r.Status=f.status
 opened:r.Opened=f.opened
 hint:r.Hint=f.hint
 boots:Rd w r.Boots (is f.boots)∧r.Boots_l=f.boots.length
 keys:Rd w r.Keys (us f.keys)∧r.Keys_l=f.keys.length
 doors:Rd w r.Doors (is f.doors)∧r.Doors_l=f.doors.length
theorem vQ (w:World) (a:Option Addr):Rd w a []:=.inl rfl
theorem tL (M:Nat→Prop) (w:World):eX M w ⟨0,none,0,0⟩ ⟨0,[]⟩:=⟨rfl,rfl,Nat.le_refl _,.inl rfl,.inl rfl,by simp⟩
theorem zE (w:World) (c:Int):lN w ⟨c,0,⟨0,none,0,0⟩,0,false,0,none,0,0,none,0,0,none,0,0⟩ (Fnd.err c):=
 ⟨rfl,rfl,⟨λ_=>False,tL _ _⟩,rfl,rfl,rfl,⟨vQ _ _,rfl⟩,⟨vQ _ _,rfl⟩,⟨vQ _ _,rfl⟩⟩
def Fr0 (n0:Nat) (a:Option Addr):Prop:=∀ k,isB a k→n0≤k
structure Frs (n0:Nat) (r:aB) (f:Fnd):Prop where
 boots:is f.boots=[]∨Fr0 n0 r.Boots
 keys:us f.keys=[]∨Fr0 n0 r.Keys
 doors:is f.doors=[]∨Fr0 n0 r.Doors
 view:(jV f.view.mem).flatten=[]∨Fr0 n0 r.View.Members
theorem FZ (n0:Nat) (c:Int):Frs n0 ⟨c,0,⟨0,none,0,0⟩,0,false,0,none,0,0,none,0,0,none,0,0⟩ (Fnd.err c):=⟨.inl rfl,.inl rfl,.inl rfl,.inl rfl⟩
theorem Fu {n0 n1:Nat} {a:Option Addr} {xs:List Value} (h:xs=[]∨Off (λk=>k<n1) a) (hn:n0≤n1):xs=[]∨Fr0 n0 a:=by
 refine h.imp id λh k hk=>?_
 obtain ⟨o,rfl⟩:=hk
 have:¬ k<n1:=h
 omega
theorem xJ {L:Ctl} (hc:L.any dY=false) (hk:∀ ws,some ws ∈ L→0≤ws.getD 0 0):0≤fD L∧fD L<16:=by
 have:∀ (L:Ctl) (n:Int),(∀ x ∈ L,0≤keyW x / 2∧keyW x / 2<16)→0≤n∧n<16→0≤L.foldl (λn x=>max n (keyW x / 2)) n∧L.foldl (λn x=>max n (keyW x / 2)) n<16:=by
  intro L
  induction L with
  |nil=>intro n _ hn;exact hn
  |cons x L ih=>
   intro n hx hn
   have h1:=hx x List.mem_cons_self
   exact ih _ (λy hy=>hx y (List.mem_cons_of_mem _ hy)) (show 0≤max n (keyW x / 2)∧max n (keyW x / 2)<16 by omega)
 refine this L 0 (λx hx=>?_) (by omega)
 cases x with
 |none=>exact ⟨by simp [keyW],by simp [keyW]⟩
 |some ws=>
  have h1:=G7 hc hx
  have h2:=hk ws hx
  unfold keyW
  dsimp only
  omega
abbrev out0:List Value:=aB.cells ⟨0,0,⟨0,none,0,0⟩,0,false,0,none,0,0,none,0,0,none,0,0⟩
theorem CS {w13:World} {b1 b2:Nat} {cs:List Value} (h2:Blk w13 b2 cs TOut) (h1:Blk w13 b1 out0 TOut) (r:aB) (hcs:cs=r.cells) {R:Value→World→Prop} (hR:∀ w',Keep (λk=>k=b1) w13 w'→R r.val w') :
  aB.ex λr=>aH w13 ⟨b2,0,none⟩ 0 r.cells∧wrAt w13 ⟨b1,0,none⟩ 0 r.cells∧∀ w14,w14=puts w13 ⟨b1,0,none⟩ 0 r.cells→aB.ex λres=>aH w14 ⟨b1,0,none⟩ 0 res.cells∧w14=w14∧R res.val w14:=by
 subst hcs
 refine aB.mk_ex r ⟨aK h2 rfl,eZ h1 (by simp [aB.cells]) (aB.single r),?_⟩
 rintro w14 rfl
 have hp:=h1.puts (o:=0) (i:=0) (vs:=r.cells)
 refine aB.mk_ex r ⟨aK hp rfl,rfl,hR _ (dU _ _ _ _ _)⟩
theorem vR {w2:World} {b1:Nat} {c:Int} (h1:Blk w2 b1 out0 TOut) {R:Value→World→Prop} (hR:∀ w',Keep (λk=>k=b1) w2 w'→R (aB.val ⟨c,0,⟨0,none,0,0⟩,0,false,0,none,0,0,none,0,0,none,0,0⟩) w') :
  wrAt w2 ⟨b1,0,none⟩ 0 [(.int .i64 c),(.int .i64 0),(.int .i64 0),(.slice none 0 0),(.int .i64 0),(.bool false),(.int .u64 0),(.slice none 0 0),(.slice none 0 0),(.slice none 0 0)]∧∀ w3,w3=puts w2 ⟨b1,0,none⟩ 0 [(.int .i64 c),(.int .i64 0),(.int .i64 0),(.slice none 0 0),(.int .i64 0),(.bool false),(.int .u64 0),(.slice none 0 0),(.slice none 0 0),(.slice none 0 0)]→
   aB.ex λres=>aH w3 ⟨b1,0,none⟩ 0 res.cells∧w3=w3∧R res.val w3:=by
 refine ⟨eZ h1 (by simp [aB.cells]) (aB.single ⟨c,0,⟨0,none,0,0⟩,0,false,0,none,0,0,none,0,0,none,0,0⟩),?_⟩
 rintro w3 rfl
 have hp:=h1.puts (o:=0) (i:=0) (vs:=aB.cells ⟨c,0,⟨0,none,0,0⟩,0,false,0,none,0,0,none,0,0,none,0,0⟩)
 refine aB.mk_ex ⟨c,0,⟨0,none,0,0⟩,0,false,0,none,0,0,none,0,0,none,0,0⟩ ⟨aK hp rfl,rfl,hR _ (dU _ _ _ _ _)⟩
theorem vk {v:Vw} {n:Int} (h:v.valid n=0):(1≤n∧n≤5)∧(0≤v.number∧v.number<16)∧∀ m ∈ v.mem,(0≤m.Node∧m.Node<n)∧1≤m.Boot∧m.Boot≤31:=by
 unfold Vw.valid at h
 split at h
 ·omega
 split at h
 ·omega
 split at h
 ·omega
 split at h
 ·omega
 split at h
 ·omega
 rename_i g1 g2 g3 g4 g5
 refine ⟨by omega,by omega,λm hm=>?_⟩
 have h4:(List.range v.mem.length).all (ml n v.mem)=true:=by simpa using g4
 have h5:v.mem.all l5=true:=by simpa using g5
 have h6:=List.all_eq_true.1 h5 m hm
 unfold l5 at h6
 obtain ⟨i,hi,e⟩:=List.getElem_of_mem hm
 have h7:=List.all_eq_true.1 h4 i (List.mem_range.2 hi)
 unfold ml at h7
 rw [oJ (List.getElem?_eq_getElem hi),e] at h7
 simp only [Bool.and_eq_true,decide_eq_true_eq] at h6 h7
 exact ⟨h7.1,h6⟩
theorem yD {number value nodes:Int} (h:(fW number value nodes).2=0):(fW number value nodes).1.valid nodes=0∧(fW number value nodes).1.number=number∧(fW number value nodes).1.mem.length≤5:=by
 unfold fW at h ⊢
 split at h
 ·cases h
 ·rename_i hn
  rw [if_neg hn]
  exact ⟨Decidable.byContradiction λe=>hn (.inr (.inr e)),rfl,tG value 5⟩
set_option maxHeartbeats 2000000 in
theorem F0 {w:World} {a:Option Addr} {c:Nat} {raw:List aY} {ds:List Done} (hr:Rd w a (gS raw).flatten) (hd:Ds w raw ds) (hl:ds.length≤1000000) (nodes:Int) :
  Does 15 [.int .i64 nodes,.slice a raw.length c] w λx w'=>∃ r:aB,x=r.val∧(lN w' r (qH nodes ds)∧Frs w.heap.size r (qH nodes ds))∧New w w':=by
 refine does Tryz.func15 ?_
 rw [uo]
 rintro b1 w1 hb1 hw1
 obtain ⟨hz1,hn1⟩:=aR hb1 hw1
 have hz1:Blk w1 b1 (aB.cells ⟨0,0,⟨0,none,0,0⟩,0,false,0,none,0,0,none,0,0,none,0,0⟩) TOut:=hz1
 clear hw1
 have hb10:w.heap.size≤b1:=by omega
 generalize hF:qH nodes ds=F
 unfold qH at hF
 refine aG (CP (hr.new hn1) (hd.new hn1) hl nodes) ?_
 rintro x w2 ⟨hn2,hans⟩
 have hLn:∀ L n,oR nodes ds=some (L,n)→(1≤nodes∧nodes≤5)∧(L.length:Int)=nodes:=by
  intro L n h
  unfold oR at h
  split at h
  ·cases h
  ·split at h
   ·cases h
    rw [List.length_map]
    omega
   ·cases h
 generalize oR nodes ds=D at hans hF hLn
 have hz2:=New.blk hn2 hz1
 have hn12:=hn1.new hn2
 have err:∀ (cc:Int) (w':World),F=Fnd.err cc→Keep (λk=>k=b1) w2 w'→∃ r:aB,aB.val ⟨cc,0,⟨0,none,0,0⟩,0,false,0,none,0,0,none,0,0,none,0,0⟩=r.val∧(lN w' r F∧Frs w.heap.size r F)∧New w w':=
  λcc w' e hk=>⟨_,rfl,by rw [e];exact ⟨zE w' cc,FZ _ cc⟩,hn12.trans hk λk hlt e=>by omega⟩
 cases D with
 |none=>
  subst hans
  exact ⟨_,_,_,_,_,rfl,cG rfl (vR (R:=λx w'=>∃ r:aB,x=r.val∧(lN w' r F∧Frs w.heap.size r F)∧New w w') hz2 (λw' hk=>err 6 w' hF.symm hk))⟩
 |some p=>
 obtain ⟨L,n⟩:=p
 obtain ⟨ab,ac,rfl,hctl⟩:=hans
 obtain ⟨hn15,hLl⟩:=hLn L n rfl
 clear hLn
 have hL5:L.length≤5:=by omega
 refine ⟨_,_,_,_,_,rfl,dM rfl ?_⟩
 refine aG (wQ w2 nodes (by omega)) ?_
 rintro x w4 ⟨rfl,rfl⟩
 dsimp only at hF
 refine ⟨_,rfl,aE (λhm=>?_) (λhm=>?_)⟩
 ·rw [if_pos hm] at hF
  exact vR (R:=λx w'=>∃ r:aB,x=r.val∧(lN w' r F∧Frs w.heap.size r F)∧New w w') hz2 (λw' hk=>err 9 w' hF.symm hk)
 rw [if_neg hm] at hF
 refine aG (zD hctl hL5) ?_
 rintro x w6 ⟨rfl,rfl⟩
 refine ⟨_,rfl,iL (λhc=>?_) (λhc=>?_)⟩
 ·rw [if_pos hc] at hF
  exact vR (R:=λx w'=>∃ r:aB,x=r.val∧(lN w' r F∧Frs w.heap.size r F)∧New w w') hz2 (λw' hk=>err 14 w' hF.symm hk)
 rw [if_neg (by rw [hc];simp)] at hF
 refine kE (vs:=out0) rfl (aB.single ⟨0,0,⟨0,none,0,0⟩,0,false,0,none,0,0,none,0,0,none,0,0⟩) λb2 w9 hb2 hz9 hn9=>?_
 have hb12:b1<b2:=by have:=hz2.lt;omega
 refine aG (G8 hctl hL5 hc ⟨hz9,Owns.nil _ _ _,Owns.nil _ _ _,(λk hk=>by obtain ⟨o,ho⟩:=hk;cases ho),(λk hk=>by obtain ⟨o,ho⟩:=hk;cases ho),hn9,by omega⟩) ?_
 rintro x w10 ⟨rfl,ba,cb,ka,ck,hs⟩
 have hnum:=xJ hc λws hws=>by
  obtain ⟨i,hi,e⟩:=List.getElem_of_mem hws
  have hg:L[i]?=some (some ws):=by rw [List.getElem?_eq_getElem hi,e]
  obtain ⟨rs,h1,_,h3⟩:=hctl
  exact (((h3 i rs[i] (some ws) (List.getElem?_eq_getElem (by omega)) hg)).u64 0).1
 have hnw:New w w10:=hn12.new hs.new
 have hz10:=New.blk hs.new hz2
 have hbk:=hs.blk
 refine ⟨rfl,_,hbk.cell (i:=1) rfl,?_⟩
 refine aG (CL (hctl.new hs.new) hL5 hnum) ?_
 rintro x w11 ⟨rfl,hn11⟩
 have hb11:=New.blk hn11 hbk
 have hz11:=New.blk hn11 hz10
 have hB11:=hs.B.rd.new hn11
 have hK11:=hs.K.rd.new hn11
 have frB:Fr0 w.heap.size ba:=λk hb=>by have:=(hs.fB k hb).1;have:=hn12.size;omega
 have frK:Fr0 w.heap.size ka:=λk hb=>by have:=(hs.fK k hb).1;have:=hn12.size;omega
 have rowsB:∀ {u:World},Keep (λk=>k=b1∨k=b2) w11 u→Rd u ba (is (L.map gI))∧Rd u ka (us (L.map keyW)):=by
  intro u hk
  refine ⟨(Owns.keep hk (Owns.new hn11 hs.B) λk hb e=>?_).rd,(Owns.keep hk (Owns.new hn11 hs.K) λk hb e=>?_).rd⟩
  ·have:=hs.fB k hb
   have:=hz2.lt
   omega
  ·have:=hs.fK k hb
   have:=hz2.lt
   omega
 have hnw11:=hnw.new hn11
 have fin:∀ {u v:World},Keep (λk=>k=b2) w11 u→Keep (λk=>k=b1) u v→Keep (λk=>k=b1∨k=b2) w11 v∧New w v:=by
  intro u v h1 h2
  have h3:Keep (λk=>k=b1∨k=b2) w11 v:=(h1.mono λ_ _ h=>.inr h).trans (h2.mono λ_ _ h=>.inl h) λ_ _ h=>h
  exact ⟨h3,hnw11.trans h3 λk hlt e=>by omega⟩
 have hlB:(L.map gI).length=L.length:=by simp
 have hlK:(L.map keyW).length=L.length:=by simp
 have bad:∀ (u:World) (hk:Keep (λk=>k=b2∨w11.heap.size≤k) w11 u) (hbu:Blk u b2 (aB.cells ⟨0,fD L,⟨0,none,0,0⟩,0,false,0,ba,(L.map gI).length,cb,ka,(L.map keyW).length,ck,none,0,0⟩) TOut),F=badF L→
   (∃ v,u.cell? ⟨b2,0,none⟩=some v)∧u.frozen? ⟨b2,0,none⟩=false∧∀ w18,w18=u.setCell ⟨b2,0,none⟩ (.int .i64 14)→aB.ex λr=>aH w18 ⟨b2,0,none⟩ 0 r.cells∧wrAt w18 ⟨b1,0,none⟩ 0 r.cells∧∀ w19,w19=puts w18 ⟨b1,0,none⟩ 0 r.cells→aB.ex λres=>aH w19 ⟨b1,0,none⟩ 0 res.cells∧w19=w19∧∃ r:aB,res.val=r.val∧(lN w19 r F∧Frs w.heap.size r F)∧New w w19:=by
  intro u hk hbu hbad
  refine ⟨⟨_,hbu.cell (i:=0) rfl⟩,hbu.frozen,?_⟩
  rintro w18 rfl
  have hb3:=hbu.setCell (i:=0) (.int .i64 14)
  have k1:=aN u b2 0 (.int .i64 14)
  have kk:Keep (λk=>k=b2) w11 (u.setCell ⟨b2,0,none⟩ (.int .i64 14)):=(hk.trans k1 λ_ _ h=>.inl h).mono λk hlt e=>by rcases e with e | e;exact e;omega
  refine CS (R:=λx w'=>∃ r:aB,x=r.val∧(lN w' r F∧Frs w.heap.size r F)∧New w w') hb3 (kk.blk hz11 (by omega)) ⟨14,fD L,⟨0,none,0,0⟩,0,false,0,ba,(L.map gI).length,cb,ka,(L.map keyW).length,ck,none,0,0⟩ rfl λw' hk'=>⟨_,rfl,?_,(fin kk hk').2⟩
  obtain ⟨rb,rk⟩:=rowsB (fin kk hk').1
  rw [hbad]
  exact ⟨⟨rfl,rfl,⟨λ_=>False,tL _ _⟩,rfl,rfl,rfl,⟨rb,rfl⟩,⟨rk,rfl⟩,⟨vQ _ _,rfl⟩⟩,.inr frB,.inr frK,.inl rfl,.inl rfl⟩
 unfold vP at hF
 generalize kV (fD L) L=dc at hF ⊢
 obtain ⟨dv,dok⟩:=dc
 cases dok with
 |false=>
  rw [if_pos rfl] at hF
  refine ⟨_,_,rfl,cG rfl ⟨⟨_,hb11.cell (i:=0) rfl⟩,hb11.frozen,?_⟩⟩
  rintro w12 rfl
  have hb3:=hb11.setCell (i:=0) (.int .i64 10)
  have k1:=aN w11 b2 0 (.int .i64 10)
  refine ⟨⟨_,hb3.cell (i:=6) rfl⟩,hb3.frozen,?_⟩
  rintro w13 rfl
  have hb4:=hb3.setCell (i:=6) (.int .u64 dv)
  have k2:=aN (w11.setCell ⟨b2,0,none⟩ (.int .i64 10)) b2 6 (.int .u64 dv)
  have kk:=k1.trans k2 λ_ _ h=>h
  refine CS (R:=λx w'=>∃ r:aB,x=r.val∧(lN w' r F∧Frs w.heap.size r F)∧New w w') hb4 (kk.blk hz11 (by omega)) ⟨10,fD L,⟨0,none,0,0⟩,0,false,dv,ba,(L.map gI).length,cb,ka,(L.map keyW).length,ck,none,0,0⟩ rfl λw' hk'=>⟨_,rfl,?_,(fin kk hk').2⟩
  obtain ⟨rb,rk⟩:=rowsB (fin kk hk').1
  rw [←hF]
  exact ⟨⟨rfl,rfl,⟨λ_=>False,tL _ _⟩,rfl,rfl,rfl,⟨rb,rfl⟩,⟨rk,rfl⟩,⟨vQ _ _,rfl⟩⟩,.inr frB,.inr frK,.inl rfl,.inl rfl⟩
 |true=>
 rw [if_neg (by simp)] at hF
 refine ⟨_,_,rfl,dM rfl ⟨_,hb11.cell (i:=1) rfl,?_⟩⟩
 refine aG (FU w11 (fD L) dv nodes) ?_
 rintro x w15 ⟨rv,rfl,hview,hn15'⟩
 refine aF.mk_ex rv ⟨_,rfl,?_⟩
 dsimp only at hF
 have hvok:=@yD (fD L) dv nodes
 generalize hvp:fW (fD L) dv nodes=vp at hF hview hvok ⊢
 obtain ⟨vw,ve⟩:=vp
 have hs15:=hn15'.size
 have hb15:=New.blk hn15' hb11
 refine kE (vs:=rv.cells) rfl (aF.single _) λb3 w17 hb3 hz17 hn17=>?_
 have hn1117:=hn15'.new hn17
 have hb17:=New.blk hn17 hb15
 unfold AQ at hF
 refine bE (λhe=>?_) (λhe=>?_)
 ·rw [if_pos he] at hF
  exact bad w17 (Keep.of_new hn1117) hb17 hF.symm
 rw [if_neg (λe=>e he)] at hF
 obtain ⟨hval,hvn,hv5⟩:=hvok he
 dsimp only at hF hval hvn hv5 hview
 obtain ⟨_,_,hmem⟩:=vk hval
 refine aF.mk_ex rv ⟨aK hz17 rfl,?_⟩
 have hctl17:=(hctl.new hs.new).new (hn11.new hn1117)
 have hvw17:=eX.new hview hn17
 refine aG (FX hctl17 hL5 hvw17 (λm hm=>⟨⟨(hmem m hm).1.1,by have:=(hmem m hm).1.2;omega⟩,(hmem m hm).2⟩)) ?_
 rintro x w20 ⟨hn20,hdoors⟩
 have hb20:=New.blk hn20 hb17
 have hz20:=New.blk hn20 hz17
 have hn1120:=hn1117.new hn20
 generalize fO L vw.mem (List.replicate 6 0)=D at hF hdoors
 cases D with
 |none=>
  subst hdoors
  exact ⟨_,_,_,_,rfl,cG rfl (bad w20 (Keep.of_new hn1120) hb20 hF.symm)⟩
 |some dd=>
 obtain ⟨bd,rfl,hbd,hbdk,hdl⟩:=hdoors
 have hs17:=hn17.size
 have hs1117:=hn1117.size
 have hb2l:=hb11.lt
 refine ⟨_,_,_,_,rfl,dM rfl (aF.mk_ex rv ⟨aK hz20 rfl,eZ hb20 (by simp [aB.cells,aF.cells]) (aF.single rv),?_⟩)⟩
 rintro w23 rfl
 have hb23:=hb20.puts (o:=2) (i:=0) (vs:=rv.cells)
 have k1:=dU w20 b2 2 0 rv.cells
 refine ⟨⟨_,hb23.cell (i:=9) rfl⟩,hb23.frozen,?_⟩
 rintro w24 rfl
 have hb24:=hb23.setCell (i:=9) (.slice (some ⟨bd,0,none⟩) 6 6)
 have k2:=k1.trans (aN (puts w20 ⟨b2,2,none⟩ 0 rv.cells) b2 9 (.slice (some ⟨bd,0,none⟩) 6 6)) λ_ _ h=>h
 have hb3l:=hz20.lt
 have hb23n:b3≠b2:=by omega
 have hz24:=k2.blk hz20 hb23n
 refine aF.mk_ex rv ⟨aK hz24 rfl,ba,_,cb,hb24.cell (i:=7) rfl,ka,_,ck,hb24.cell (i:=8) rfl,?_⟩
 have k11:Keep (λk=>k=b2) w11 ((puts w20 ⟨b2,2,none⟩ 0 rv.cells).setCell ⟨b2,9,none⟩ (.slice (some ⟨bd,0,none⟩) 6 6)):=(Keep.of_new hn1120).trans k2 λ_ _ h=>h
 have hv24:eX (λk=>k<w11.heap.size) ((puts w20 ⟨b2,2,none⟩ 0 rv.cells).setCell ⟨b2,9,none⟩ (.slice (some ⟨bd,0,none⟩) 6 6)) rv vw:=by
  have h0:=eX.new hvw17 hn20
  refine ⟨h0.num,h0.len,h0.cap,h0.rd.keep k2 ?_,h0.off,h0.small⟩
  rcases h0.off with e | e
  ·exact .inl e
  ·refine .inr ?_
   cases ha:rv.Members with
   |none=>trivial
   |some ad=>
    rw [ha] at e
    exact λhM=>e (by rw [show ad.block=b2 from hM];exact hb2l)
 obtain ⟨rb,rk⟩:=rowsB (k11.mono λ_ _ h=>.inr h)
 refine aG (Ed hv24 (by rw [hvn];exact hnum) rb rfl rk rfl (by omega) (by omega)) ?_
 rintro x w25 ⟨rfl,hn25⟩
 have hb25:=New.blk hn25 hb24
 refine ⟨_,_,rfl,⟨_,hb25.cell (i:=4) rfl⟩,hb25.frozen,?_⟩
 rintro w26 rfl
 have hb26:=hb25.setCell (i:=4) (.int .i64 (jE vw (L.map gI) (L.map keyW)))
 have k3:=aN w25 b2 4 (.int .i64 (jE vw (L.map gI) (L.map keyW)))
 refine ⟨⟨_,hb26.cell (i:=5) rfl⟩,hb26.frozen,?_⟩
 rintro w27 rfl
 have hb27:=hb26.setCell (i:=5) (.bool (oQ vw (L.map keyW)))
 have k4:=aN (w25.setCell ⟨b2,4,none⟩ (.int .i64 (jE vw (L.map gI) (L.map keyW)))) b2 5 (.bool (oQ vw (L.map keyW)))
 have k25:=(k2.new hn25).trans (k3.trans k4 λ_ _ h=>h) λ_ _ h=>h
 have kk:=(Keep.of_new (M:=λk=>k=b2) hn1120).trans k25 λ_ _ h=>h
 refine CS (R:=λx w'=>∃ r:aB,x=r.val∧(lN w' r F∧Frs w.heap.size r F)∧New w w') hb27 (kk.blk hz11 (by omega)) ⟨0,fD L,rv,jE vw (L.map gI) (L.map keyW),oQ vw (L.map keyW),0,ba,(L.map gI).length,cb,ka,(L.map keyW).length,ck,some ⟨bd,0,none⟩,6,6⟩ rfl λw' hk'=>⟨_,rfl,?_,(fin kk hk').2⟩
 obtain ⟨rb,rk⟩:=rowsB (fin kk hk').1
 rw [←hF]
 have k20:Keep (λk=>k=b1∨k=b2) w20 w':=(k25.mono λ_ _ h=>.inr h).trans (hk'.mono λ_ _ h=>.inl h) λ_ _ h=>h
 have hb1l:=hz2.lt
 refine ⟨⟨rfl,rfl,⟨λk=>k<w11.heap.size,?_⟩,rfl,rfl,rfl,⟨rb,rfl⟩,⟨rk,rfl⟩,⟨eV (k20.blk hbdk (by omega)) (by simp),by rw [hdl]⟩⟩,.inr frB,.inr frK,.inr λk hk=>by obtain ⟨o,ho⟩:=hk;simp at ho;have:=hnw11.size;omega,Fu hvw17.off hnw11.size⟩
 have h0:=eX.new hvw17 hn20
 refine ⟨h0.num,h0.len,h0.cap,h0.rd.keep k20 ?_,h0.off,h0.small⟩
 rcases h0.off with e | e
 ·exact .inl e
 ·refine .inr ?_
  cases ha:rv.Members with
  |none=>trivial
  |some ad=>
   rw [ha] at e
   refine λhM=>e ?_
   rcases hM with e' | e'
   ·rw [show ad.block=b1 from e'];have:=hs.new.size;have:=hn11.size;omega
   ·rw [show ad.block=b2 from e'];exact hb2l
end Go.Proofs.YtafopfaomkklpaaGreat
