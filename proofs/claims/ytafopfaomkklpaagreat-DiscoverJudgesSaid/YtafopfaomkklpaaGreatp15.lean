/- This claim proves that the law DiscoverJudges returns true for every input: replies are judged as the reference judges them. -/
import Derived.Test.YtafopfaomkklpaaGreatp14
set_option linter.unusedVariables false
namespace Go.Proofs.YtafopfaomkklpaaGreat
open Go.Eng
structure Fnd where
 code:Int
 number:Int
 view:Vw
 status:Int
 opened:Bool
 hint:Int
 boots:List Int
 keys:List Int
 doors:List Int
def Fnd.err (c:Int):Fnd:=⟨c,0,⟨0,[]⟩,0,false,0,[],[],[]⟩
def badF (L:Ctl):Fnd:=⟨14,eS L,⟨0,[]⟩,0,false,0,L.map fZ,L.map keyW,[]⟩
def zA (L:Ctl) (p:Vw×Int):Fnd:=if p.2≠0 then badF L else match eW L p.1.mem (List.replicate 6 0) with
 |none=>badF L
 |some ds=>⟨0,eS L,p.1,jh p.1 (L.map fZ) (L.map keyW),nS p.1 (L.map keyW),0,L.map fZ,L.map keyW,ds⟩
def uy (nodes:Int) (L:Ctl):Fnd:=if (kw (eS L) L).2=false then ⟨10,eS L,⟨0,[]⟩,0,false,(kw (eS L) L).1,L.map fZ,L.map keyW,[]⟩ else zA L (fH (eS L) (kw (eS L) L).1 nodes)
def qz (nodes:Int) (ds:List Done):Fnd:=match nT nodes ds with
 |none=>Fnd.err 6
 |some (L,n)=>if n<jT nodes then Fnd.err 9 else if L.any dS=true then Fnd.err 14 else uy nodes L
structure rn (w:World) (r:aC) (f:Fnd):Prop where
 code:r.Code=f.code
 number:r.Number=f.number
 view:∃ M,eO M w r.View f.view
 status:r.Status=f.status
 opened:r.Opened=f.opened
 hint:r.Hint=f.hint
 boots:Rd w r.Boots (is f.boots)∧r.Boots_l=f.boots.length
 keys:Rd w r.Keys (us f.keys)∧r.Keys_l=f.keys.length
 doors:Rd w r.Doors (is f.doors)∧r.Doors_l=f.doors.length
theorem uz (w:World) (a:Option Addr):Rd w a []:=.inl rfl
theorem sH (M:Nat→Prop) (w:World):eO M w ⟨0,none,0,0⟩ ⟨0,[]⟩:=⟨rfl,rfl,Nat.le_refl _,.inl rfl,.inl rfl,by simp⟩
theorem ED (w:World) (c:Int):rn w ⟨c,0,⟨0,none,0,0⟩,0,false,0,none,0,0,none,0,0,none,0,0⟩ (Fnd.err c):=
 ⟨rfl,rfl,⟨λ_=>False,sH _ _⟩,rfl,rfl,rfl,⟨uz _ _,rfl⟩,⟨uz _ _,rfl⟩,⟨uz _ _,rfl⟩⟩
def Fr0 (n0:Nat) (a:Option Addr):Prop:=∀ k,isB a k→n0≤k
structure Frs (n0:Nat) (r:aC) (f:Fnd):Prop where
 boots:is f.boots=[]∨Fr0 n0 r.Boots
 keys:us f.keys=[]∨Fr0 n0 r.Keys
 doors:is f.doors=[]∨Fr0 n0 r.Doors
 view:(jL f.view.mem).flatten=[]∨Fr0 n0 r.View.Members
theorem EE (n0:Nat) (c:Int):Frs n0 ⟨c,0,⟨0,none,0,0⟩,0,false,0,none,0,0,none,0,0,none,0,0⟩ (Fnd.err c):=⟨.inl rfl,.inl rfl,.inl rfl,.inl rfl⟩
theorem D9 {n0 n1:Nat} {a:Option Addr} {xs:List Value} (h:xs=[]∨Off (λk=>k<n1) a) (hn:n0≤n1):xs=[]∨Fr0 n0 a:=by
 refine h.imp id λh k hk=>?_
 obtain ⟨o,rfl⟩:=hk
 have:¬ k<n1:=h
 omega
theorem wq {L:Ctl} (hc:L.any dS=false) (hk:∀ ws,some ws ∈ L→0≤ws.getD 0 0):0≤eS L∧eS L<16:=by
 have:∀ (L:Ctl) (n:Int),(∀ x ∈ L,0≤keyW x / 2∧keyW x / 2<16)→0≤n∧n<16→0≤L.foldl (λn x=>max n (keyW x / 2)) n∧L.foldl (λn x=>max n (keyW x / 2)) n<16:=by
  intro L
  induction L with
  |nil=>intro n _ hn;exact hn
  |cons x L ih=>
   intro n hx hn
   have h1:=hx x List.mem_cons_self
   exact ih _ (λy hy=>hx y (List.mem_cons_of_mem _ hy)) (show 0≤max n (keyW x / 2)∧max n (keyW x / 2)<16 by omega)
 refine this L 0 (λx hx=>?_) (by omega)
 cases x with
 |none=>exact ⟨by simp [keyW],by simp [keyW]⟩
 |some ws=>
  have h1:=FM hc hx
  have h2:=hk ws hx
  unfold keyW
  dsimp only
  omega
abbrev out0:List Value:=aC.cells ⟨0,0,⟨0,none,0,0⟩,0,false,0,none,0,0,none,0,0,none,0,0⟩
theorem Bw {w13:World} {b1 b2:Nat} {cs:List Value} (h2:Blk w13 b2 cs TOut) (h1:Blk w13 b1 out0 TOut) (r:aC) (hcs:cs=r.cells) {R:Value→World→Prop} (hR:∀ w',Keep (λk=>k=b1) w13 w'→R r.val w') :
  aC.ex λr=>aG w13 ⟨b2,0,none⟩ 0 r.cells∧wrAt w13 ⟨b1,0,none⟩ 0 r.cells∧∀ w14,w14=puts w13 ⟨b1,0,none⟩ 0 r.cells→aC.ex λres=>aG w14 ⟨b1,0,none⟩ 0 res.cells∧w14=w14∧R res.val w14:=by
 subst hcs
 refine aC.mk_ex r ⟨aN h2 rfl,eQ h1 (by simp [aC.cells]) (aC.single r),?_⟩
 rintro w14 rfl
 have hp:=h1.puts (o:=0) (i:=0) (vs:=r.cells)
 refine aC.mk_ex r ⟨aN hp rfl,rfl,hR _ (dO _ _ _ _ _)⟩
theorem By {w2:World} {b1:Nat} {c:Int} (h1:Blk w2 b1 out0 TOut) {R:Value→World→Prop} (hR:∀ w',Keep (λk=>k=b1) w2 w'→R (aC.val ⟨c,0,⟨0,none,0,0⟩,0,false,0,none,0,0,none,0,0,none,0,0⟩) w') :
  wrAt w2 ⟨b1,0,none⟩ 0 [(.int .i64 c),(.int .i64 0),(.int .i64 0),(.slice none 0 0),(.int .i64 0),(.bool false),(.int .u64 0),(.slice none 0 0),(.slice none 0 0),(.slice none 0 0)]∧∀ w3,w3=puts w2 ⟨b1,0,none⟩ 0 [(.int .i64 c),(.int .i64 0),(.int .i64 0),(.slice none 0 0),(.int .i64 0),(.bool false),(.int .u64 0),(.slice none 0 0),(.slice none 0 0),(.slice none 0 0)]→
   aC.ex λres=>aG w3 ⟨b1,0,none⟩ 0 res.cells∧w3=w3∧R res.val w3:=by
 refine ⟨eQ h1 (by simp [aC.cells]) (aC.single ⟨c,0,⟨0,none,0,0⟩,0,false,0,none,0,0,none,0,0,none,0,0⟩),?_⟩
 rintro w3 rfl
 have hp:=h1.puts (o:=0) (i:=0) (vs:=aC.cells ⟨c,0,⟨0,none,0,0⟩,0,false,0,none,0,0,none,0,0,none,0,0⟩)
 refine aC.mk_ex ⟨c,0,⟨0,none,0,0⟩,0,false,0,none,0,0,none,0,0,none,0,0⟩ ⟨aN hp rfl,rfl,hR _ (dO _ _ _ _ _)⟩
theorem ub {v:Vw} {n:Int} (h:v.valid n=0):(1≤n∧n≤5)∧(0≤v.number∧v.number<16)∧∀ m ∈ v.mem,(0≤m.Node∧m.Node<n)∧1≤m.Boot∧m.Boot≤31:=by
 unfold Vw.valid at h
 split at h
 ·omega
 split at h
 ·omega
 split at h
 ·omega
 split at h
 ·omega
 split at h
 ·omega
 rename_i g1 g2 g3 g4 g5
 refine ⟨by omega,by omega,λm hm=>?_⟩
 have h4:(List.range v.mem.length).all (lI n v.mem)=true:=by simpa using g4
 have h5:v.mem.all lr=true:=by simpa using g5
 have h6:=List.all_eq_true.1 h5 m hm
 unfold lr at h6
 obtain ⟨i,hi,e⟩:=List.getElem_of_mem hm
 have h7:=List.all_eq_true.1 h4 i (List.mem_range.2 hi)
 unfold lI at h7
 rw [nM (List.getElem?_eq_getElem hi),e] at h7
 simp only [Bool.and_eq_true,decide_eq_true_eq] at h6 h7
 exact ⟨h7.1,h6⟩
theorem xt {number value nodes:Int} (h:(fH number value nodes).2=0):(fH number value nodes).1.valid nodes=0∧(fH number value nodes).1.number=number∧(fH number value nodes).1.mem.length≤5:=by
 unfold fH at h ⊢
 split at h
 ·cases h
 ·rename_i hn
  rw [if_neg hn]
  exact ⟨Decidable.byContradiction λe=>hn (.inr (.inr e)),rfl,sA value 5⟩
set_option maxHeartbeats 2000000 in
theorem EF {w:World} {a:Option Addr} {c:Nat} {raw:List aY} {ds:List Done} (hr:Rd w a (ke raw).flatten) (hd:Ds w raw ds) (hl:ds.length≤1000000) (nodes:Int) :
  Does 15 [.int .i64 nodes,.slice a raw.length c] w λx w'=>∃ r:aC,x=r.val∧(rn w' r (qz nodes ds)∧Frs w.heap.size r (qz nodes ds))∧New w w':=by
 refine does Tryz.func15 ?_
 rw [tp]
 rintro b1 w1 hb1 hw1
 obtain ⟨hz1,hn1⟩:=aW hb1 hw1
 have hz1:Blk w1 b1 (aC.cells ⟨0,0,⟨0,none,0,0⟩,0,false,0,none,0,0,none,0,0,none,0,0⟩) TOut:=hz1
 clear hw1
 have hb10:w.heap.size≤b1:=by omega
 generalize hF:qz nodes ds=F
 unfold qz at hF
 refine aH (Bu (hr.new hn1) (hd.new hn1) hl nodes) ?_
 rintro x w2 ⟨hn2,hans⟩
 have hLn:∀ L n,nT nodes ds=some (L,n)→(1≤nodes∧nodes≤5)∧(L.length:Int)=nodes:=by
  intro L n h
  unfold nT at h
  split at h
  ·cases h
  ·split at h
   ·cases h
    rw [List.length_map]
    omega
   ·cases h
 generalize nT nodes ds=D at hans hF hLn
 have hz2:=New.blk hn2 hz1
 have hn12:=hn1.new hn2
 have err:∀ (cc:Int) (w':World),F=Fnd.err cc→Keep (λk=>k=b1) w2 w'→∃ r:aC,aC.val ⟨cc,0,⟨0,none,0,0⟩,0,false,0,none,0,0,none,0,0,none,0,0⟩=r.val∧(rn w' r F∧Frs w.heap.size r F)∧New w w':=
  λcc w' e hk=>⟨_,rfl,by rw [e];exact ⟨ED w' cc,EE _ cc⟩,hn12.trans hk λk hlt e=>by omega⟩
 cases D with
 |none=>
  subst hans
  exact ⟨_,_,_,_,_,rfl,cP rfl (By (R:=λx w'=>∃ r:aC,x=r.val∧(rn w' r F∧Frs w.heap.size r F)∧New w w') hz2 (λw' hk=>err 6 w' hF.symm hk))⟩
 |some p=>
 obtain ⟨L,n⟩:=p
 obtain ⟨ab,ac,rfl,hctl⟩:=hans
 obtain ⟨hn15,hLl⟩:=hLn L n rfl
 clear hLn
 have hL5:L.length≤5:=by omega
 refine ⟨_,_,_,_,_,rfl,eM rfl ?_⟩
 refine aH (vD w2 nodes (by omega)) ?_
 rintro x w4 ⟨rfl,rfl⟩
 dsimp only at hF
 refine ⟨_,rfl,aE (λhm=>?_) (λhm=>?_)⟩
 ·rw [if_pos hm] at hF
  exact By (R:=λx w'=>∃ r:aC,x=r.val∧(rn w' r F∧Frs w.heap.size r F)∧New w w') hz2 (λw' hk=>err 9 w' hF.symm hk)
 rw [if_neg hm] at hF
 refine aH (yx hctl hL5) ?_
 rintro x w6 ⟨rfl,rfl⟩
 refine ⟨_,rfl,iS (λhc=>?_) (λhc=>?_)⟩
 ·rw [if_pos hc] at hF
  exact By (R:=λx w'=>∃ r:aC,x=r.val∧(rn w' r F∧Frs w.heap.size r F)∧New w w') hz2 (λw' hk=>err 14 w' hF.symm hk)
 rw [if_neg (by rw [hc];simp)] at hF
 refine mg (vs:=out0) rfl (aC.single ⟨0,0,⟨0,none,0,0⟩,0,false,0,none,0,0,none,0,0,none,0,0⟩) λb2 w9 hb2 hz9 hn9=>?_
 have hb12:b1<b2:=by have:=hz2.lt;omega
 refine aH (FN hctl hL5 hc ⟨hz9,Owns.nil _ _ _,Owns.nil _ _ _,(λk hk=>by obtain ⟨o,ho⟩:=hk;cases ho),(λk hk=>by obtain ⟨o,ho⟩:=hk;cases ho),hn9,by omega⟩) ?_
 rintro x w10 ⟨rfl,ba,cb,ka,ck,hs⟩
 have hnum:=wq hc λws hws=>by
  obtain ⟨i,hi,e⟩:=List.getElem_of_mem hws
  have hg:L[i]?=some (some ws):=by rw [List.getElem?_eq_getElem hi,e]
  obtain ⟨rs,h1,_,h3⟩:=hctl
  exact (((h3 i rs[i] (some ws) (List.getElem?_eq_getElem (by omega)) hg)).u64 0).1
 have hnw:New w w10:=hn12.new hs.new
 have hz10:=New.blk hs.new hz2
 have hbk:=hs.blk
 refine ⟨rfl,_,hbk.cell (i:=1) rfl,?_⟩
 refine aH (Bp (hctl.new hs.new) hL5 hnum) ?_
 rintro x w11 ⟨rfl,hn11⟩
 have hb11:=New.blk hn11 hbk
 have hz11:=New.blk hn11 hz10
 have hB11:=hs.B.rd.new hn11
 have hK11:=hs.K.rd.new hn11
 have frB:Fr0 w.heap.size ba:=λk hb=>by have:=(hs.fB k hb).1;have:=hn12.size;omega
 have frK:Fr0 w.heap.size ka:=λk hb=>by have:=(hs.fK k hb).1;have:=hn12.size;omega
 have rowsB:∀ {u:World},Keep (λk=>k=b1∨k=b2) w11 u→Rd u ba (is (L.map fZ))∧Rd u ka (us (L.map keyW)):=by
  intro u hk
  refine ⟨(Owns.keep hk (Owns.new hn11 hs.B) λk hb e=>?_).rd,(Owns.keep hk (Owns.new hn11 hs.K) λk hb e=>?_).rd⟩
  ·have:=hs.fB k hb
   have:=hz2.lt
   omega
  ·have:=hs.fK k hb
   have:=hz2.lt
   omega
 have hnw11:=hnw.new hn11
 have fin:∀ {u v:World},Keep (λk=>k=b2) w11 u→Keep (λk=>k=b1) u v→Keep (λk=>k=b1∨k=b2) w11 v∧New w v:=by
  intro u v h1 h2
  have h3:Keep (λk=>k=b1∨k=b2) w11 v:=(h1.mono λ_ _ h=>.inr h).trans (h2.mono λ_ _ h=>.inl h) λ_ _ h=>h
  exact ⟨h3,hnw11.trans h3 λk hlt e=>by omega⟩
 have hlB:(L.map fZ).length=L.length:=by simp
 have hlK:(L.map keyW).length=L.length:=by simp
 have bad:∀ (u:World) (hk:Keep (λk=>k=b2∨w11.heap.size≤k) w11 u) (hbu:Blk u b2 (aC.cells ⟨0,eS L,⟨0,none,0,0⟩,0,false,0,ba,(L.map fZ).length,cb,ka,(L.map keyW).length,ck,none,0,0⟩) TOut),F=badF L→
   (∃ v,u.cell? ⟨b2,0,none⟩=some v)∧u.frozen? ⟨b2,0,none⟩=false∧∀ w18,w18=u.setCell ⟨b2,0,none⟩ (.int .i64 14)→aC.ex λr=>aG w18 ⟨b2,0,none⟩ 0 r.cells∧wrAt w18 ⟨b1,0,none⟩ 0 r.cells∧∀ w19,w19=puts w18 ⟨b1,0,none⟩ 0 r.cells→aC.ex λres=>aG w19 ⟨b1,0,none⟩ 0 res.cells∧w19=w19∧∃ r:aC,res.val=r.val∧(rn w19 r F∧Frs w.heap.size r F)∧New w w19:=by
  intro u hk hbu hbad
  refine ⟨⟨_,hbu.cell (i:=0) rfl⟩,hbu.frozen,?_⟩
  rintro w18 rfl
  have hb3:=hbu.setCell (i:=0) (.int .i64 14)
  have k1:=aQ u b2 0 (.int .i64 14)
  have kk:Keep (λk=>k=b2) w11 (u.setCell ⟨b2,0,none⟩ (.int .i64 14)):=(hk.trans k1 λ_ _ h=>.inl h).mono λk hlt e=>by rcases e with e | e;exact e;omega
  refine Bw (R:=λx w'=>∃ r:aC,x=r.val∧(rn w' r F∧Frs w.heap.size r F)∧New w w') hb3 (kk.blk hz11 (by omega)) ⟨14,eS L,⟨0,none,0,0⟩,0,false,0,ba,(L.map fZ).length,cb,ka,(L.map keyW).length,ck,none,0,0⟩ rfl λw' hk'=>⟨_,rfl,?_,(fin kk hk').2⟩
  obtain ⟨rb,rk⟩:=rowsB (fin kk hk').1
  rw [hbad]
  exact ⟨⟨rfl,rfl,⟨λ_=>False,sH _ _⟩,rfl,rfl,rfl,⟨rb,rfl⟩,⟨rk,rfl⟩,⟨uz _ _,rfl⟩⟩,.inr frB,.inr frK,.inl rfl,.inl rfl⟩
 unfold uy at hF
 generalize kw (eS L) L=dc at hF ⊢
 obtain ⟨dv,dok⟩:=dc
 cases dok with
 |false=>
  rw [if_pos rfl] at hF
  refine ⟨_,_,rfl,cP rfl ⟨⟨_,hb11.cell (i:=0) rfl⟩,hb11.frozen,?_⟩⟩
  rintro w12 rfl
  have hb3:=hb11.setCell (i:=0) (.int .i64 10)
  have k1:=aQ w11 b2 0 (.int .i64 10)
  refine ⟨⟨_,hb3.cell (i:=6) rfl⟩,hb3.frozen,?_⟩
  rintro w13 rfl
  have hb4:=hb3.setCell (i:=6) (.int .u64 dv)
  have k2:=aQ (w11.setCell ⟨b2,0,none⟩ (.int .i64 10)) b2 6 (.int .u64 dv)
  have kk:=k1.trans k2 λ_ _ h=>h
  refine Bw (R:=λx w'=>∃ r:aC,x=r.val∧(rn w' r F∧Frs w.heap.size r F)∧New w w') hb4 (kk.blk hz11 (by omega)) ⟨10,eS L,⟨0,none,0,0⟩,0,false,dv,ba,(L.map fZ).length,cb,ka,(L.map keyW).length,ck,none,0,0⟩ rfl λw' hk'=>⟨_,rfl,?_,(fin kk hk').2⟩
  obtain ⟨rb,rk⟩:=rowsB (fin kk hk').1
  rw [←hF]
  exact ⟨⟨rfl,rfl,⟨λ_=>False,sH _ _⟩,rfl,rfl,rfl,⟨rb,rfl⟩,⟨rk,rfl⟩,⟨uz _ _,rfl⟩⟩,.inr frB,.inr frK,.inl rfl,.inl rfl⟩
 |true=>
 rw [if_neg (by simp)] at hF
 refine ⟨_,_,rfl,eM rfl ⟨_,hb11.cell (i:=1) rfl,?_⟩⟩
 refine aH (Ey w11 (eS L) dv nodes) ?_
 rintro x w15 ⟨rv,rfl,hview,hn15'⟩
 refine aF.mk_ex rv ⟨_,rfl,?_⟩
 dsimp only at hF
 have hvok:=@xt (eS L) dv nodes
 generalize hvp:fH (eS L) dv nodes=vp at hF hview hvok ⊢
 obtain ⟨vw,ve⟩:=vp
 have hs15:=hn15'.size
 have hb15:=New.blk hn15' hb11
 refine mg (vs:=rv.cells) rfl (aF.single _) λb3 w17 hb3 hz17 hn17=>?_
 have hn1117:=hn15'.new hn17
 have hb17:=New.blk hn17 hb15
 unfold zA at hF
 refine bD (λhe=>?_) (λhe=>?_)
 ·rw [if_pos he] at hF
  exact bad w17 (Keep.of_new hn1117) hb17 hF.symm
 rw [if_neg (λe=>e he)] at hF
 obtain ⟨hval,hvn,hv5⟩:=hvok he
 dsimp only at hF hval hvn hv5 hview
 obtain ⟨_,_,hmem⟩:=ub hval
 refine aF.mk_ex rv ⟨aN hz17 rfl,?_⟩
 have hctl17:=(hctl.new hs.new).new (hn11.new hn1117)
 have hvw17:=eO.new hview hn17
 refine aH (EB hctl17 hL5 hvw17 (λm hm=>⟨⟨(hmem m hm).1.1,by have:=(hmem m hm).1.2;omega⟩,(hmem m hm).2⟩)) ?_
 rintro x w20 ⟨hn20,hdoors⟩
 have hb20:=New.blk hn20 hb17
 have hz20:=New.blk hn20 hz17
 have hn1120:=hn1117.new hn20
 generalize eW L vw.mem (List.replicate 6 0)=D at hF hdoors
 cases D with
 |none=>
  subst hdoors
  exact ⟨_,_,_,_,rfl,cP rfl (bad w20 (Keep.of_new hn1120) hb20 hF.symm)⟩
 |some dd=>
 obtain ⟨bd,rfl,hbd,hbdk,hdl⟩:=hdoors
 have hs17:=hn17.size
 have hs1117:=hn1117.size
 have hb2l:=hb11.lt
 refine ⟨_,_,_,_,rfl,eM rfl (aF.mk_ex rv ⟨aN hz20 rfl,eQ hb20 (by simp [aC.cells,aF.cells]) (aF.single rv),?_⟩)⟩
 rintro w23 rfl
 have hb23:=hb20.puts (o:=2) (i:=0) (vs:=rv.cells)
 have k1:=dO w20 b2 2 0 rv.cells
 refine ⟨⟨_,hb23.cell (i:=9) rfl⟩,hb23.frozen,?_⟩
 rintro w24 rfl
 have hb24:=hb23.setCell (i:=9) (.slice (some ⟨bd,0,none⟩) 6 6)
 have k2:=k1.trans (aQ (puts w20 ⟨b2,2,none⟩ 0 rv.cells) b2 9 (.slice (some ⟨bd,0,none⟩) 6 6)) λ_ _ h=>h
 have hb3l:=hz20.lt
 have hb23n:b3≠b2:=by omega
 have hz24:=k2.blk hz20 hb23n
 refine aF.mk_ex rv ⟨aN hz24 rfl,ba,_,cb,hb24.cell (i:=7) rfl,ka,_,ck,hb24.cell (i:=8) rfl,?_⟩
 have k11:Keep (λk=>k=b2) w11 ((puts w20 ⟨b2,2,none⟩ 0 rv.cells).setCell ⟨b2,9,none⟩ (.slice (some ⟨bd,0,none⟩) 6 6)):=(Keep.of_new hn1120).trans k2 λ_ _ h=>h
 have hv24:eO (λk=>k<w11.heap.size) ((puts w20 ⟨b2,2,none⟩ 0 rv.cells).setCell ⟨b2,9,none⟩ (.slice (some ⟨bd,0,none⟩) 6 6)) rv vw:=by
  have h0:=eO.new hvw17 hn20
  refine ⟨h0.num,h0.len,h0.cap,h0.rd.keep k2 ?_,h0.off,h0.small⟩
  rcases h0.off with e | e
  ·exact .inl e
  ·refine .inr ?_
   cases ha:rv.Members with
   |none=>trivial
   |some ad=>
    rw [ha] at e
    exact λhM=>e (by rw [show ad.block=b2 from hM];exact hb2l)
 obtain ⟨rb,rk⟩:=rowsB (k11.mono λ_ _ h=>.inr h)
 refine aH (CX hv24 (by rw [hvn];exact hnum) rb rfl rk rfl (by omega) (by omega)) ?_
 rintro x w25 ⟨rfl,hn25⟩
 have hb25:=New.blk hn25 hb24
 refine ⟨_,_,rfl,⟨_,hb25.cell (i:=4) rfl⟩,hb25.frozen,?_⟩
 rintro w26 rfl
 have hb26:=hb25.setCell (i:=4) (.int .i64 (jh vw (L.map fZ) (L.map keyW)))
 have k3:=aQ w25 b2 4 (.int .i64 (jh vw (L.map fZ) (L.map keyW)))
 refine ⟨⟨_,hb26.cell (i:=5) rfl⟩,hb26.frozen,?_⟩
 rintro w27 rfl
 have hb27:=hb26.setCell (i:=5) (.bool (nS vw (L.map keyW)))
 have k4:=aQ (w25.setCell ⟨b2,4,none⟩ (.int .i64 (jh vw (L.map fZ) (L.map keyW)))) b2 5 (.bool (nS vw (L.map keyW)))
 have k25:=(k2.new hn25).trans (k3.trans k4 λ_ _ h=>h) λ_ _ h=>h
 have kk:=(Keep.of_new (M:=λk=>k=b2) hn1120).trans k25 λ_ _ h=>h
 refine Bw (R:=λx w'=>∃ r:aC,x=r.val∧(rn w' r F∧Frs w.heap.size r F)∧New w w') hb27 (kk.blk hz11 (by omega)) ⟨0,eS L,rv,jh vw (L.map fZ) (L.map keyW),nS vw (L.map keyW),0,ba,(L.map fZ).length,cb,ka,(L.map keyW).length,ck,some ⟨bd,0,none⟩,6,6⟩ rfl λw' hk'=>⟨_,rfl,?_,(fin kk hk').2⟩
 obtain ⟨rb,rk⟩:=rowsB (fin kk hk').1
 rw [←hF]
 have k20:Keep (λk=>k=b1∨k=b2) w20 w':=(k25.mono λ_ _ h=>.inr h).trans (hk'.mono λ_ _ h=>.inl h) λ_ _ h=>h
 have hb1l:=hz2.lt
 refine ⟨⟨rfl,rfl,⟨λk=>k<w11.heap.size,?_⟩,rfl,rfl,rfl,⟨rb,rfl⟩,⟨rk,rfl⟩,⟨fF (k20.blk hbdk (by omega)) (by simp),by rw [hdl]⟩⟩,.inr frB,.inr frK,.inr λk hk=>by obtain ⟨o,ho⟩:=hk;simp at ho;have:=hnw11.size;omega,D9 hvw17.off hnw11.size⟩
 have h0:=eO.new hvw17 hn20
 refine ⟨h0.num,h0.len,h0.cap,h0.rd.keep k20 ?_,h0.off,h0.small⟩
 rcases h0.off with e | e
 ·exact .inl e
 ·refine .inr ?_
  cases ha:rv.Members with
  |none=>trivial
  |some ad=>
   rw [ha] at e
   refine λhM=>e ?_
   rcases hM with e' | e'
   ·rw [show ad.block=b1 from e'];have:=hs.new.size;have:=hn11.size;omega
   ·rw [show ad.block=b2 from e'];exact hb2l
end Go.Proofs.YtafopfaomkklpaaGreat
