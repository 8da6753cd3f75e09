import Derived.Test.YtgpmeaicjonenaaGreata26
import Derived.Test.YtgpmeaicjonenaaGreata19
set_option linter.unusedVariables false
namespace Go.Proofs.YtgpmeaicjonenaaGreat
open Go.Proofs.Tryz
open Go.Eng
def runL:List (List (List Done)→SR)→List (List Done)→SR
 | [],G=>ow G
 |f::fs,G=>ia (f G) (runL fs)
def pV (j:CJob):List (List (List Done)→SR):=[wX j,mF j,vS j,mE j,finM j]
def runM (j:CJob) (G:List (List Done)):SR:=runL (pV j) G
def sl (R:SR):Int×Int:=if R.ok=true then (0,3) else R.out
theorem okS1:l9 prog 186=true:=by kernel_rfl
theorem okS2:l9 prog 187=true:=by kernel_rfl
theorem okS3:l9 prog 188=true:=by kernel_rfl
theorem okS4:l9 prog 189=true:=by kernel_rfl
theorem okS5:l9 prog 190=true:=by kernel_rfl
def fnsL (cb:Nat):List Value:=[.func (.func 186) #[ptr cb] #[],.func (.func 187) #[ptr cb] #[],.func (.func 188) #[ptr cb] #[],.func (.func 189) #[ptr cb] #[],.func (.func 190) #[ptr cb] #[]]
variable {A:Nat→Prop} {w0 u:World} {cb tb:Nat} {r:aL} {m0:aE} {j:CJob}
theorem E3 {z:World} (hco:fN w0 z cb tb r m0 j) (hd:wY j) {T:TkX} {G:List (List Done)} (hT:TkAt A w0 z tb T G) (hcl:ou T) {i:Nat} (hi:i<5) :
  ∃ (f:FuncId) (F:List (List Done)→SR),(fnsL cb)[i]?=some (.func (.func f) #[ptr cb] #[])∧(pV j)[i]?=some F∧l9 prog f=true∧Does f [ptr cb] z (pT A w0 z tb z.heap.size (F G)):=by
 have h5:i=0∨i=1∨i=2∨i=3∨i=4:=by omega
 rcases h5 with rfl | rfl | rfl | rfl | rfl
 ·exact ⟨_,_,rfl,rfl,okS1,E0 hco hd hT hcl⟩
 ·exact ⟨_,_,rfl,rfl,okS2,E2 hco hT hcl⟩
 ·exact ⟨_,_,rfl,rfl,okS3,DY hco hT hcl⟩
 ·exact ⟨_,_,rfl,rfl,okS4,DZ hco hd hT hcl⟩
 ·exact ⟨_,_,rfl,rfl,okS5,Cb hco hd hT hcl⟩
theorem As {F:List (List Done)→SR} {l:List (List (List Done)→SR)} {i:Nat} (h:l[i]?=some F) (G:List (List Done)):runL (l.drop i) G=ia (F G) (runL (l.drop (i+1))):=by
 have hlt:=aN h
 rw [List.drop_eq_getElem_cons hlt]
 rw [List.getElem?_eq_getElem hlt] at h
 cases h
 rfl
theorem xM (G:List (List Done)):(ow G).ask=none∧(ow G).wrong=false:=⟨rfl,rfl⟩
theorem Au {j:CJob} {G:List (List Done)} {a:Int} {ws:List Int} {f:Int} (h:(logM j G a ws f).ok=true):(logM j G a ws f).ask=none∧(logM j G a ws f).wrong=false:=by
 unfold logM at h ⊢
 split
 ·exact xM G
 ·rename_i hn
  rw [if_neg hn] at h
  exact ⟨(k9 h).1,(k9 h).2.1⟩
theorem Cc {j:CJob} {G:List (List Done)} (h:(mF j G).ok=true):(mF j G).ask=none∧(mF j G).wrong=false:=by
 unfold mF at h ⊢
 split
 ·rename_i h1
  rw [if_pos h1] at h
  rw [h1] at h
  cases h
 ·rename_i h1
  rw [if_neg h1] at h
  split
  ·exact ⟨rfl,rfl⟩
  ·rename_i h2
   rw [if_neg h2] at h
   split
   ·rename_i h3
    rw [if_pos h3] at h
    cases h
   ·rename_i h3
    rw [if_neg h3] at h
    exact absurd h h3
theorem Cd {j:CJob} {G:List (List Done)} (h:(mE j G).ok=true):(mE j G).ask=none∧(mE j G).wrong=false:=⟨(k9 h).1,(k9 h).2.1⟩
theorem D3 {j:CJob} {G:List (List Done)} (h:(finM j G).ok=true):(finM j G).ask=none∧(finM j G).wrong=false:=by
 unfold finM at h ⊢
 split
 ·exact xM G
 ·rename_i hn
  rw [if_neg hn] at h
  exact ⟨(k9 h).1,(k9 h).2.1⟩
theorem E4 {j:CJob} (i:Nat) (F:List (List Done)→SR) (h:(pV j)[i]?=some F) (G:List (List Done)) (hk:(F G).ok=true):(F G).ask=none∧(F G).wrong=false:=by
 have hlt:=aN h
 have h5:i=0∨i=1∨i=2∨i=3∨i=4:=by unfold pV at hlt;simp at hlt <;> omega
 rcases h5 with rfl | rfl | rfl | rfl | rfl<;>cases h
 ·exact Au hk
 ·exact Cc hk
 ·exact Au hk
 ·exact Cd hk
 ·exact D3 hk
attribute [local irreducible] l9 nU sL
set_option maxRecDepth 20000 in
set_option maxHeartbeats 1000000 in
theorem FO (hco:fN w0 u cb tb r m0 j) (hd:wY j) {T:TkX} {G:List (List Done)} (hT:TkAt A w0 u tb T G) (hcl:ou T) :
  Does 136 [ptr cb] u λv u'=>v=aA.val ⟨(sl (runM j G)).1,(sl (runM j G)).2⟩∧jk A w0 u tb u.heap.size (runM j G) u':=by
 refine does Tryz.func136 ?_
 rw [ptr,mj]
 rintro b1 u1 hb1 hu1
 obtain ⟨hz1,hn1⟩:=aO hb1 hu1
 have hz1:Blk u1 b1 (aA.cells ⟨0,0⟩) TCO:=hz1
 clear hu1
 rintro b2 u2 hb2 hu2
 obtain ⟨hz2,hn2⟩:=aO hb2 hu2
 obtain ⟨TF,hz2⟩:∃ TF,Blk u2 b2 (fnsL cb) TF:=⟨_,hz2⟩
 clear hu2
 have hn12:=hn1.new hn2
 have hz12:=New.blk hn2 hz1
 have hl1:=hz12.lt
 have hl2:=hz2.lt
 have htl:=hT.blk.lt
 have hcl':=hco.blk.lt
 have hs1:=hn1.size
 refine aT mix (λq env z=>∃ (i:Nat) (Gi:List (List Done)) (jj:List Value),q=5 - i∧i≤5∧env=dN ⟨b1,0,none⟩ (some ⟨b2,0,none⟩) 5 5 5 i jj∧fN w0 z cb tb r m0 j∧(∃ T,TkAt A w0 z tb T Gi∧ou T)∧Keep (λk=>k=tb) u z∧Blk z b1 (aA.cells ⟨0,0⟩) TCO∧Blk z b2 (fnsL cb) TF∧runM j G=runL ((pV j).drop i) Gi) 5
  ⟨0,G,_,rfl,by omega,rfl,hco.new' hn12,⟨T,hT.new hn12,hcl⟩,Keep.of_new hn12,hz12,hz2,rfl⟩ ?_
 rintro q env z ⟨i,Gi,jj,rfl,hi,rfl,hcz,⟨Ti,hTi,hci⟩,hkz,hz1,hz2,hrun⟩
 rw [jm]
 refine aH (λhlt=>?_) (λhge=>?_)
 ·obtain ⟨f,F,hf,hF,hok,hdo⟩:=E3 hcz hd hTi hci (i:=i) (by omega)
  rw [As hF] at hrun
  refine bE (by omega) (by omega) ⟨_,hz2.cell (i:=0+i * 1) (by rw [Nat.zero_add,Nat.mul_one];exact hf),?_⟩
  refine nP hok (xs:=#[ptr cb]) (by simp) ?_
  refine aF hdo ?_
  rintro v u4 ⟨rfl,hsp⟩
  refine aA.mk_ex ⟨(F Gi).out.1,(F Gi).out.2⟩ ⟨(F Gi).ok,rfl,?_⟩
  refine gF (vs:=aA.cells ⟨(F Gi).out.1,(F Gi).out.2⟩) rfl (aA.single _) λb3 u5 hb3 hz3 hn5=>?_
  have hsz:=hkz.size
  have hlz:=hz1.lt
  have hsp':=(hsp.after hkz).new hn5
  have hz15:Blk u5 b1 (aA.cells ⟨0,0⟩) TCO:=New.blk hn5 (hsp.keep.blk hz1 (by omega))
  have hz25:=New.blk hn5 (hsp.keep.blk hz2 (by omega))
  unfold ia at hrun
  cases hk:(F Gi).ok with
  |false=>
   rw [if_neg (by rw [hk];simp)] at hrun
   refine gE rfl ?_
   refine aA.mk_ex ⟨(F Gi).out.1,(F Gi).out.2⟩ ⟨aI hz3 rfl,?_⟩
   refine il hz15 rfl (aA.single _) λu6 hz6 hk6=>?_
   refine aA.mk_ex ⟨(F Gi).out.1,(F Gi).out.2⟩ ⟨aI hz6 rfl,rfl,?_,?_⟩
   ·rw [hrun]
    unfold sl
    rw [if_neg (by rw [hk];simp)]
   ·rw [hrun]
    exact hsp'.put (Keep.refl _ _) (Keep.refl _ _) hk6 (by omega) (by omega) (by omega) (by omega)
  |true=>
   rw [if_pos hk] at hrun
   obtain ⟨ha,hw⟩:=E4 i F hF Gi hk
   obtain ⟨T',hT',hcl2⟩:=hsp'.clean ha hw
   rw [w64 (x:=(i:Int)+1) (by omega) (by omega)]
   exact ⟨5 - (i+1),by omega,i+1,(F Gi).got,_,rfl,by omega,rfl,(hcz.keep hsp.keep λk e=>by have h1:=hcz.tbl;have h2:=hcz.ne;exact ⟨by omega,by omega⟩).new' hn5,⟨T',hT',hcl2⟩,hsp'.keep,hz15,hz25,hrun⟩
 ·have hi5:i=5:=by omega
  subst hi5
  rw [ki,hrun]
  refine co_k hz1 rfl 0 3 λu4 hk4=>⟨rfl,?_⟩
  have h0:jk A w0 u tb z.heap.size (runL ((pV j).drop 5) Gi) z:=⟨hkz,Ti,hTi,hci.wrong,hci.al⟩
  have hsz:=hkz.size
  have hlz:=hz1.lt
  exact h0.put (Keep.refl _ _) (Keep.refl _ _) hk4 (by omega) (by omega) (by omega) (by omega)
end Go.Proofs.YtgpmeaicjonenaaGreat
namespace Go.Proofs.YtgpmeaicjonenaaGreat
open Go.Eng
def bZ (j:CJob) (G:List (List Done)):List Verb×(Int×Int)×Bool:=
 if j.valid≠0 then ([],(j.valid,0),true) else match (runM j G).ask with
 |some vs=>(vs,(0,0),false)
 |none=>if (runM j G).wrong=true∨(runM j G).got≠[] then ([],(6,0),true) else ([],sl (runM j G),true)
theorem D4 {w:World} {tb:Nat} {T:TkX} (hz:Blk w tb T.cells TTk):Does 128 [ptr tb] w λx w'=>x=.tuple #[.slice T.aa T.al T.ac,.bool (decide ((T.al:Int)>0))]∧New w w':=by
 refine does Tryz.func128 ?_
 rw [ptr,kz]
 rintro w1 hw1
 have hn1:New w w1:=by rw [hw1];exact aU _
 clear hw1
 exact ⟨λy=>New w1 y,Keep.refl _ _,_,_,_,λy hy=>(New.blk (hn1.new hy) hz).cell (i:=1) rfl,_,_,_,λy hy=>(New.blk (hn1.new hy) hz).cell (i:=1) rfl,rfl,hn1⟩
theorem D5 {w:World} {tb:Nat} {T:TkX} (hz:Blk w tb T.cells TTk):Does 129 [ptr tb] w λx w'=>x=.bool (T.wrong || decide ((T.gl:Int)>0))∧New w w':=by
 refine does Tryz.func129 ?_
 rw [ptr,jR]
 refine ⟨T.wrong,hz.cell (i:=2) rfl,?_⟩
 cases T.wrong
 ·exact er rfl ⟨_,_,_,hz.cell (i:=0) rfl,rfl,Keep.refl _ _⟩
 ·exact gE rfl ⟨rfl,Keep.refl _ _⟩
def yS (w:World) (j:CJob) (G:List (List Done)) (v:Value) (u:World):Prop:=
 ∃ (aa:Option Addr) (ac:Nat) (raws:List aJ),v=.tuple #[.slice aa raws.length ac,aA.val ⟨(bZ j G).2.1.1,(bZ j G).2.1.2⟩,.bool (bZ j G).2.2]∧New w u∧Rd u aa (eC raws).flatten∧(∀ k,isB aa k→w.heap.size≤k)∧Vs (λk=>k<w.heap.size) u raws (bZ j G).1
theorem yS.nil {w u:World} {j:CJob} {G:List (List Done)} {o:Int×Int} {b:Bool} (h:bZ j G=([],o,b)) (hn:New w u):yS w j G (.tuple #[.slice none 0 0,aA.val ⟨o.1,o.2⟩,.bool b]) u:=
 ⟨none,0,[],by rw [h];rfl,hn,.inl rfl,λk hk=>absurd hk noB,by rw [h];exact ⟨rfl,λi v x hv=>by simp at hv⟩⟩
theorem E5 {u:World} {b:Nat} {o:aA} (hz:Blk u b o.cells TCO) {K:aA→World→Prop} (hk:∀ u4,Keep (λk=>k=b) u u4→K o u4) :
  ∀ w1,w1=u.drew→∃ Sx:World→Prop,Sx w1∧aA.ex λr=>(∀ y,Sx y→aC y ⟨b,0,none⟩ 0 r.cells)∧wrAt w1 ⟨b,0,none⟩ 0 r.cells∧∀ w3,w3=puts w1 ⟨b,0,none⟩ 0 r.cells→aA.ex λres=>aC w3 ⟨b,0,none⟩ 0 res.cells∧w3=w3∧K res w3:=by
 rintro w1 hw1
 have hn1:New u w1:=by rw [hw1];exact aU _
 clear hw1
 have hz1:=New.blk hn1 hz
 refine ⟨λy=>New w1 y,Keep.refl _ _,aA.mk_ex o ⟨λy hy=>aI (New.blk hy hz1) rfl,?_⟩⟩
 exact il hz1 rfl (aA.single _) λw3 hz3 hk3=>aA.mk_ex o ⟨aI hz3 rfl,rfl,hk w3 ((Keep.of_new hn1).trans hk3 λ_ _ e=>e)⟩
theorem FP {u:World} {b:Nat} {o:aA} (hz:Blk u b o.cells TCO) (c f:Int) {K:aA→World→Prop} (hk:∀ u4,Keep (λk=>k=b) u u4→K ⟨c,f⟩ u4) :
  wrAt u ⟨b,0,none⟩ 0 [(.int .i64 c),(.int .i64 f)]∧∀ w2,w2=puts u ⟨b,0,none⟩ 0 [(.int .i64 c),(.int .i64 f)]→∀ w1,w1=w2.drew→∃ Sx:World→Prop,Sx w1∧aA.ex λr=>(∀ y,Sx y→aC y ⟨b,0,none⟩ 0 r.cells)∧wrAt w1 ⟨b,0,none⟩ 0 r.cells∧∀ w3,w3=puts w1 ⟨b,0,none⟩ 0 r.cells→aA.ex λres=>aC w3 ⟨b,0,none⟩ 0 res.cells∧w3=w3∧K res w3:=
 il hz (vs:=aA.cells ⟨c,f⟩) rfl (aA.single _) λw2 hz2 hk2=>E5 hz2 λu4 hk4=>hk u4 (hk2.trans hk4 λ_ _ e=>e)
set_option maxRecDepth 20000 in
set_option maxHeartbeats 4000000 in
theorem D6 {A:Nat→Prop} {w:World} {r:aL} {j:CJob} (hj:qT w r j) (hd:j.valid=0→wY j) {ga:Option Addr} {gl gc:Nat} {G:List (List Done)} (hg:lr A w ga G) (hgl:gl=G.length) (hgc:gl≤gc) :
  Does 100 [r.val,.slice ga gl gc] w (yS w j G):=by
 refine does Tryz.func100 ?_
 rw [sZ]
 rintro b1 u1 hb1 hu1
 obtain ⟨hz1,hn1⟩:=aO hb1 hu1
 have hz1:Blk u1 b1 r.cells 39:=hz1
 clear hu1
 rintro b2 u2 hb2 hu2
 obtain ⟨hz2,hn2⟩:=aO hb2 hu2
 have hz2:Blk u2 b2 (aA.cells ⟨0,0⟩) TCO:=hz2
 clear hu2
 have hn12:=hn1.new hn2
 have hs1:=hn1.size
 have hl1:=hz1.lt
 have hl2:=hz2.lt
 refine aL.mk_ex r ⟨aI (New.blk hn2 hz1) rfl,?_⟩
 refine aF (BX (hj.new hn12)) ?_
 rintro v u3 ⟨rfl,hn3⟩
 have hn13:=hn12.new hn3
 have hz23:=New.blk hn3 hz2
 refine ⟨_,rfl,cU (λhv=>?_) (λhv=>?_)⟩
 ·refine co_k hz23 rfl j.valid 0 λu4 hk4=>yS.nil (o:=(j.valid,0)) (b:=true) ?_ (hn13.trans hk4 λk hlt e=>by omega)
  unfold bZ
  rw [if_pos hv]
 have hgood:=DT hv
 have hdat:=hd hv
 obtain ⟨m0,hm0⟩:∃ m0,j.v.mem[0]?=some m0:=⟨_,List.getElem?_eq_getElem hgood.mem.1⟩
 rintro u5 hu5
 have hn5:New u3 u5:=by rw [hu5];exact aU _
 clear hu5
 have hn15:=hn13.new hn5
 have hz15:=New.blk ((hn2.new hn3).new hn5) hz1
 refine ⟨λy=>New u5 y,Keep.refl _ _,aL.mk_ex r ⟨λy hy=>aI (New.blk hy hz15) rfl,?_⟩⟩
 refine aF (C6 u5 ga gl gc) ?_
 rintro v u6 ⟨tb,rfl,htb,hz6,hn6⟩
 refine ⟨_,rfl,hn6,?_⟩
 rintro b3 u7 hb3 hu7
 obtain ⟨hz7,hn7⟩:=aO hb3 hu7
 have hz7:Blk u7 b3 (comC r tb ⟨0,0,false⟩) TCm:=hz7
 clear hu7
 have hs6:=hn6.size
 have hs15:=hn15.size
 have hs2:=hn2.size
 have hs3:=hn3.size
 have hs5:=hn5.size
 have hl6:=hz6.lt
 refine ⟨hn6.new hn7,aM.mk_ex r.View ⟨aI (New.blk (hn6.new hn7) hz15) rfl,?_⟩⟩
 obtain ⟨MV,hview⟩:=hj.view
 have hn17:=(hn15.new hn6).new hn7
 refine aF (vR (hview.new hn17) hm0) ?_
 rintro v u8 ⟨rfl,hn8⟩
 have hz8:=New.blk hn8 hz7
 refine aE.mk_ex m0 ⟨true,rfl,cK hz8 (by simp [comC,aE.cells,aL.cells]) (aE.single _),?_⟩
 rintro u9 hu9
 have hz9:Blk u9 b3 (comC r tb m0) TCm:=by rw [hu9];exact hz8.puts (o:=8) (i:=0) (vs:=m0.cells)
 have hk9:Keep (λk=>k=b3) u8 u9:=by rw [hu9];exact dD _ _ _ _ _
 clear hu9
 have hn19:New w u9:=(hn17.new hn8).trans hk9 λk hlt e=>by omega
 have hn69:New u6 u9:=(hn7.new hn8).trans hk9 λk hlt e=>by omega
 have hz69:Blk u9 tb (TkX.cells ⟨ga,gl,gc,none,0,0,false⟩) TTk:=New.blk hn69 hz6
 have hz29:Blk u9 b2 (aA.cells ⟨0,0⟩) TCO:=New.blk ((hn5.new hn6).new hn69) hz23
 have hco:fN w u9 b3 tb r m0 j:=⟨hz9,hj,hgood,hm0,hn19,by omega,by omega,by omega⟩
 have hT:TkAt A w u9 tb ⟨ga,gl,gc,none,0,0,false⟩ G:=⟨hz69,hg,hgl,hgc⟩
 have hcall:=FO hco hdat hT ⟨rfl,rfl⟩
 refine aF hcall ?_
 rintro v uA ⟨rfl,hsp⟩
 have hs9:=hn69.size
 have hzA2:Blk uA b2 (aA.cells ⟨0,0⟩) TCO:=hsp.keep.blk hz29 (by omega)
 refine aA.mk_ex ⟨(sl (runM j G)).1,(sl (runM j G)).2⟩ ⟨rfl,?_⟩
 refine il hzA2 rfl (aA.single _) λuB hzB2 hkB=>?_
 have hspB:=(hsp.after (u:=w) (Keep.of_new hn19)).put (B':=u9.heap.size) (Keep.refl _ _) (Keep.refl _ _) hkB (by omega) (by omega) (by omega) (Nat.le_refl _)
 have hnB:New w uB:=(Keep.refl _ w).trans hspB.keep λk hlt e=>by omega
 have hz3B:Blk uB b3 (comC r tb m0) TCm:=hkB.blk (hsp.keep.blk hz9 (by omega)) (by omega)
 obtain ⟨_,T,hTB,hTw,hTa⟩:=hspB
 refine ⟨_,hz3B.cell (i:=7) rfl,?_⟩
 refine aF (D4 hTB.blk) ?_
 rintro v uC ⟨rfl,hnC⟩
 have hz2C:=New.blk hnC hzB2
 cases hask:(runM j G).ask with
 |some vs=>
  rw [hask] at hTa
  obtain ⟨h0,w1,h1,h2,h3⟩:=hTa
  have hal:=h3.len
  refine ⟨_,_,_,_,rfl,gE (by simp;omega) ?_⟩
  refine co_k hz2C rfl 0 0 λuD hkD=>?_
  have h4:VB w1 uD T.aa T.al T.ac vs:=(h3.new hnC).keep hkD λk e=>by omega
  obtain ⟨⟨raws,ho,hv5⟩,hl5,hf5⟩:=h4
  have hr:=hv5.1
  have hw1:=h1.size
  have hnx:bZ j G=(vs,(0,0),false):=by
   unfold bZ
   rw [if_neg (by simpa using hv),hask]
  refine ⟨T.aa,T.ac,raws,?_,(hnB.new hnC).trans hkD λk hlt e=>by omega,ho.rd,λk hk=>by have:=hf5 k hk;omega,?_⟩
  ·rw [hnx,hal,hr]
  ·rw [hnx]
   exact hv5.keep (Keep.refl _ _) λk hlt e=>.inl (by omega)
 |none=>
  rw [hask] at hTa
  refine ⟨_,_,_,_,rfl,er (by simp;omega) ?_⟩
  refine ⟨_,(New.blk hnC hz3B).cell (i:=7) rfl,?_⟩
  refine aF (D5 (New.blk hnC hTB.blk)) ?_
  rintro v uD ⟨rfl,hnD⟩
  have hz2D:=New.blk hnD hz2C
  have hgl2:=hTB.gl
  refine ⟨_,rfl,?_⟩
  cases hm:(T.wrong || decide ((T.gl:Int)>0)) with
  |true=>
   refine FP hz2D 6 0 λuE hnE=>yS.nil (o:=(6,0)) (b:=true) ?_ (((hnB.new hnC).new hnD).trans hnE λk hlt e=>by omega)
   unfold bZ
   rw [if_neg (by simpa using hv),hask]
   refine if_pos ?_
   rw [hTw] at hm
   rw [Bool.or_eq_true] at hm
   rcases hm with hm | hm
   ·exact .inl hm
   ·right
    intro e
    rw [e] at hgl2
    simp at hm hgl2
    omega
  |false=>
   refine E5 hz2D λuE hnE=>yS.nil (o:=sl (runM j G)) (b:=true) ?_ (((hnB.new hnC).new hnD).trans hnE λk hlt e=>by omega)
   unfold bZ
   rw [if_neg (by simpa using hv),hask]
   refine if_neg ?_
   rw [hTw] at hm
   obtain ⟨hm1,hm2⟩:=Bool.or_eq_false_iff.1 hm
   rintro (e | e)
   ·rw [e] at hm1;cases hm1
   ·apply e
    apply List.eq_nil_of_length_eq_zero
    simp at hm2 <;> omega
end Go.Proofs.YtgpmeaicjonenaaGreat
namespace Go.Proofs.YtgpmeaicjonenaaGreat
open Go.Eng
def VOk (v:Verb):Prop:=1≤v.v.count
theorem VOk.pieces {v:Verb} (h:VOk v):0<v.v.pieces.length:=by
 refine List.length_pos_iff.2 (tZ _ _ _ h ?_)
 unfold VOk at h
 omega
structure bO (p:Pair):Prop where
 vok:∀ v ∈ p.verbs,VOk v
 idle:p.verbs=[]→p.executed=0
 zero:p.executed=0→p.words=[]
 rdy:p.rdy
theorem bO.done {p:Pair} (h:bO p):bO p.done:=by
 refine ⟨λv hv=>h.vok v (List.mem_of_mem_tail hv),λ_=>rfl,λ_=>rfl,?_⟩
 intro x xs hx
 have hm:x ∈ p.verbs.tail:=by rw [show p.verbs.tail=x::xs from hx];exact List.mem_cons_self
 exact (h.vok x (List.mem_of_mem_tail hm)).pieces
theorem bO.step {p:Pair} (h:bO p) (n:aP):bO (p.step n).1:=by
 unfold Pair.step
 split
 ·exact h
 ·rename_i x xs hx
  dsimp only
  split
  ·exact h.done
  ·split
   ·rename_i hlt
    refine ⟨h.vok,λe=>?_,λe=>by simp at e,?_⟩
    ·rw [hx] at e;cases e
    ·intro y ys hy
     have:x=y:=by
      have h1:p.verbs=y::ys:=hy
      rw [hx] at h1
      exact (List.cons.inj h1).1
     subst this
     exact hlt
   ·exact h.done
theorem bO.post {p:Pair} (h:bO p) {v:Verb} (hv:VOk v):bO { p with verbs:=p.verbs++[v] }:=by
 refine ⟨λx hx=>?_,λe=>by simp at e,h.zero,?_⟩
 ·rcases List.mem_append.1 hx with h1 | h1
  ·exact h.vok x h1
  ·simp at h1;rw [h1];exact hv
 ·intro x xs hx
  cases hp:p.verbs with
  |nil=>
   simp [hp] at hx
   rw [←hx.1]
   show p.executed<_
   rw [h.idle hp]
   exact hv.pieces
  |cons y ys=>
   simp [hp] at hx
   rw [←hx.1]
   exact h.rdy y ys hp
theorem vW (p:Pair) (n:aP):(p.step n).1.client=p.client∧(p.step n).1.inc=p.inc∧(p.step n).1.node=p.node:=by
 unfold Pair.step
 split
 ·exact ⟨rfl,rfl,rfl⟩
 ·dsimp only
  split
  ·exact ⟨rfl,rfl,rfl⟩
  ·split<;>exact ⟨rfl,rfl,rfl⟩
theorem yT (p:Pair) (n:aP):((p.step n).2.2=none∧(p.step n).1.verbs=p.verbs)∨(∃ d,(p.step n).2.2=some d∧(p.step n).1.verbs=p.verbs.tail∧p.verbs≠[]):=by
 unfold Pair.step
 split
 ·exact .inl ⟨rfl,rfl⟩
 ·rename_i hx
  dsimp only
  split
  ·exact .inr ⟨_,rfl,rfl,by rw [hx];simp⟩
  ·split
   ·exact .inl ⟨rfl,rfl⟩
   ·exact .inr ⟨_,rfl,rfl,by rw [hx];simp⟩
theorem ut {p:Pair} {x:Verb} {n:aP} (h:p.refusal x n=0):n.down=false∧x.v.valid 5 (n.words.length / 8:Nat)=0:=by
 unfold Pair.refusal at h
 split at h
 ·omega
 ·rename_i hd
  split at h
  ·omega
  ·rename_i hv
   exact ⟨by simpa using hd,by omega⟩
theorem vX {x:Verb} {n:aP} (hv:x.v.valid 5 (n.words.length / 8:Nat)=0) {pc:Int×Int} (hp:pc ∈ x.v.pieces):(exec x pc n).1.words.length=n.words.length:=by
 obtain ⟨hc,hi⟩:=nS hv
 obtain ⟨i1,i2,i3,i4,i5,i6,i7,i8,i9,i10,i11⟩:=fP hi
 unfold aJ.l1 at i10
 have hin:=kb _ _ _ (by omega) pc hp
 unfold exec
 split
 ·rfl
 ·split
  ·simp only [aP.write,List.length_append,List.length_take,List.length_drop]
   omega
  ·split
   ·simp only [aP.cas]
    split<;>simp
   ·split
    ·simp [aP.add]
    ·rfl
theorem xO {p:Pair} (h:bO p) (n:aP):(p.step n).2.1.words.length=n.words.length:=by
 unfold Pair.step
 split
 ·rfl
 ·rename_i x xs hx
  dsimp only
  split
  ·rfl
  ·rename_i hr
   have hv:=(ut (p:=p) (x:=x) (n:=n) (by omega)).2
   have hlt:=h.rdy x xs hx
   have hm:x.v.pieces.getD p.executed (0,0) ∈ x.v.pieces:=by
    rw [List.getD_eq_getElem?_getD,List.getElem?_eq_getElem hlt]
    exact List.getElem_mem _
   split
   ·exact vX hv hm
   ·exact vX hv hm
theorem rp:∀ {ls:List Lane} {j:Nat} {l l':Lane},ls[j]?=some l→pend (ls.set j l')+l.pair.verbs.length=pend ls+l'.pair.verbs.length
 | [],j,l,l',h=>by simp at h
 |a::ls,0,l,l',h=>by simp at h;subst h;simp [pend];omega
 |a::ls,j+1,l,l',h=>by
  have:=rp (ls:=ls) (j:=j) (l:=l) (l':=l') (by simpa using h)
  simp [pend] at this ⊢
  omega
theorem nC:∀ {ls:List Lane},pend ls=0→∀ l ∈ ls,l.pair.verbs=[]
 | [],_,l,h=>by simp at h
 |a::ls,h0,l,h=>by
  simp [pend] at h0
  rcases List.mem_cons.1 h with rfl | h
  ·exact h0.1
  ·exact nC (by simp [pend];exact h0.2) l h
structure Good (F:Fab):Prop where
 ok:ue F
 cl:∀ C ∈ F.clients,∀ l ∈ C.lanes,bO l.pair
 or:∀ p ∈ F.orphans,bO p
theorem Fab.cl_some {F:Fab} {c:Int} {C:Comp} (h:F.cl c=some C):0≤c∧F.clients[c.toNat]?=some C:=by
 unfold Fab.cl at h
 split at h
 ·cases h
 ·exact ⟨by omega,h⟩
theorem Good.setC {F:Fab} (h:Good F) {i:Nat} {C C':Comp} (hc:F.clients[i]?=some C) (h1:tt F.nodes.length i C') (h2:∀ l ∈ C'.lanes,bO l.pair):Good { F with clients:=F.clients.set i C' }:=by
 refine ⟨⟨h.ok.lines,h.ok.nodes,h.ok.words,by simpa using h.ok.clients,λk D hD=>?_,h.ok.orphan⟩,λD hD=>?_,h.or⟩
 ·simp only [List.getElem?_set] at hD
  split at hD
  ·split at hD
   ·rename_i e _
    cases hD
    rw [←e]
    exact h1
   ·cases hD
  ·exact h.ok.client k D hD
 ·rcases List.mem_or_eq_of_mem_set hD with h3 | rfl
  ·exact h.cl D h3
  ·exact h2
theorem Good.setN {F:Fab} (h:Good F) (i:Nat) {n':aP} (hn:n'.words.length=F.lines * 8):Good { F with nodes:=F.nodes.set i n' }:=by
 refine ⟨⟨h.ok.lines,by simpa using h.ok.nodes,λn hm=>?_,h.ok.clients,by simpa using h.ok.client,by simpa using h.ok.orphan⟩,h.cl,h.or⟩
 rcases List.mem_or_eq_of_mem_set hm with h3 | rfl
 ·exact h.ok.words n h3
 ·exact hn
theorem Good.take {F:Fab} (h:Good F) (c:Int):Good (F.take c).2:=by
 unfold Fab.take
 cases hc:F.cl c with
 |none=>exact h
 |some C=>
  obtain ⟨h0,h1⟩:=Fab.cl_some hc
  dsimp only
  split
  ·exact h
  ·cases hb:C.batch with
   |none=>exact h
   |some ds=>
    dsimp only
    split
    ·exact h
    ·rename_i hw
     have hC:=h.ok.client _ _ h1
     have hp:pend C.lanes=0:=by have:=hC.waiting;omega
     refine h.setC h1 ⟨hC.inc,hC.lanes,λj l hl=>?_,hC.waiting,?_,λds' e=>by cases e⟩ (h.cl C (List.mem_of_getElem? h1))
     ·have hL:=hC.lane j l hl
      have hve:=nC hp l (List.mem_of_getElem? hl)
      refine ⟨hL.client,hL.inc,hL.node,hL.places,λk hk=>?_,hL.rdy⟩
      have:=hL.places
      rw [hve] at this
      have:l.places=[]:=List.eq_nil_of_length_eq_zero this
      rw [this] at hk
      cases hk
     ·have:=hC.waiting
      have h3:C.waiting=0:=by omega
      rw [show ({ C with batch:=none }:Comp).waiting=C.waiting from rfl,h3]
      exact ⟨Nat.zero_le _,by simp⟩
theorem Ce {F:Fab} (h:Good F) {c:Int} {ds:List Done} (ht:(F.take c).1=some ds):ds.length≤1024:=by
 unfold Fab.take at ht
 cases hc:F.cl c with
 |none=>rw [hc] at ht;cases ht
 |some C=>
  rw [hc] at ht
  dsimp only at ht
  obtain ⟨h0,h1⟩:=Fab.cl_some hc
  split at ht
  ·cases ht
  ·cases hb:C.batch with
   |none=>rw [hb] at ht;cases ht
   |some es=>
    rw [hb] at ht
    dsimp only at ht
    split at ht
    ·cases ht
    ·cases ht
     have:=(h.ok.client _ _ h1).batch.2
     rw [hb] at this
     exact this
structure PInv (n i:Nat) (inc:Int) (k:Nat) (ls:List Lane):Prop where
 len:ls.length=n
 lane:∀ (j:Nat) (l:Lane),ls[j]?=some l→zQ i inc j k l∧bO l.pair
 pend:pend ls=k
def qE (l:Lane) (k:Nat) (v:Verb):Lane:=⟨{ l.pair with verbs:=l.pair.verbs++[v] },l.places++[k]⟩
theorem ta {C:Comp} {k:Nat} {v:Verb} {l:Lane} (hg:C.lanes[v.node.toNat]?=some l):(C.postOne k v).lanes=C.lanes.set v.node.toNat (qE l k v):=by
 show C.lanes.modify _ _=_
 apply List.ext_getElem?
 intro j
 obtain ⟨h1,h2⟩:=List.getElem?_eq_some_iff.1 hg
 rw [List.getElem?_modify,List.getElem?_set]
 by_cases e:v.node.toNat=j
 ·subst e
  simp [h1,h2,qE]
 ·simp [e]
theorem wZ {α:Type} {l:List α} {i j:Nat} {x y:α} (hi:i<l.length) (h:(l.set i x)[j]?=some y):(i=j∧y=x)∨(i≠j∧l[j]?=some y):=by
 by_cases e:i=j
 ·subst e
  rw [List.getElem?_set_self hi] at h
  exact .inl ⟨rfl,(Option.some.inj h).symm⟩
 ·rw [List.getElem?_set_ne e] at h
  exact .inr ⟨e,h⟩
theorem PInv.post {n i:Nat} {inc:Int} {k:Nat} {C:Comp} (h:PInv n i inc k C.lanes) {v:Verb} (h0:0≤v.node) (h1:v.node<n) (hv:VOk v):PInv n i inc (k+1) (C.postOne k v).lanes:=by
 have hlt:v.node.toNat<C.lanes.length:=by rw [h.len];omega
 have hg:C.lanes[v.node.toNat]?=some C.lanes[v.node.toNat]:=List.getElem?_eq_getElem hlt
 rw [ta hg]
 generalize C.lanes[v.node.toNat]=l0 at hg
 refine ⟨by simpa using h.len,λj l hl=>?_,?_⟩
 ·rcases wZ hlt hl with ⟨e,rfl⟩ | ⟨e,hl⟩
  ·obtain ⟨hL,hP⟩:=h.lane _ _ hg
   refine ⟨⟨hL.client,hL.inc,by rw [←e];exact hL.node,by simp [qE,hL.places],λq hq=>?_,(hP.post hv).rdy⟩,hP.post hv⟩
   rcases List.mem_append.1 hq with h3 | h3
   ·have:=hL.low q h3;omega
   ·simp at h3 <;> omega
  ·obtain ⟨hL,hP⟩:=h.lane j l hl
   exact ⟨⟨hL.client,hL.inc,hL.node,hL.places,λq hq=>by have:=hL.low q hq;omega,hL.rdy⟩,hP⟩
 ·have:=rp (l':=qE l0 k v) hg
  have h4:(qE l0 k v).pair.verbs.length=l0.pair.verbs.length+1:=by simp [qE]
  have h3:=h.pend
  omega
theorem PInv.posts {n i:Nat} {inc:Int}:∀ (vs:List Verb) (k:Nat) (C:Comp),PInv n i inc k C.lanes→(∀ v ∈ vs,0≤v.node∧v.node<n∧VOk v)→PInv n i inc (k+vs.length) (C.postFrom k vs).lanes
 | [],k,C,h,_=>h
 |v::vs,k,C,h,hv=>by
  obtain ⟨h0,h1,h2⟩:=hv v List.mem_cons_self
  have:=PInv.posts vs (k+1) (C.postOne k v) (h.post h0 h1 h2) λx hx=>hv x (List.mem_cons_of_mem _ hx)
  rw [Comp.postFrom,List.length_cons,Nat.add_comm vs.length 1,←Nat.add_assoc]
  exact this
theorem ml:∀ (vs:List Verb) (k:Nat) (C:Comp),(C.postFrom k vs).alive=C.alive∧(C.postFrom k vs).inc=C.inc
 | [],_,_=>⟨rfl,rfl⟩
 |v::vs,k,C=>by rw [Comp.postFrom];exact ml vs (k+1) (C.postOne k v)
theorem oJ {nodes lines:Int}:∀ {vs:List Verb},eP nodes lines vs=0→∀ v ∈ vs,v.v.valid nodes lines=0
 | [],_,v,hv=>by simp at hv
 |x::vs,h,v,hv=>by
  unfold eP at h
  split at h
  ·rename_i hx;exact absurd h hx
  ·rename_i hx
   rcases List.mem_cons.1 hv with rfl | hv
   ·omega
   ·exact oJ h v hv
theorem Good.post {F:Fab} (h:Good F) (c:Int) (vs:List Verb):Good (F.post c vs).2:=by
 unfold Fab.post
 cases hc:F.cl c with
 |none=>exact h
 |some C=>
  obtain ⟨h0,h1⟩:=Fab.cl_some hc
  have hC:=h.ok.client _ _ h1
  dsimp only
  split
  ·exact h
  rename_i ha
  split
  ·exact h
  rename_i hb
  split
  ·exact h
  rename_i hv0
  split
  ·exact h
  rename_i hv1
  split
  ·exact h
  rename_i hfb
  have hbn:C.batch=none:=by cases hB:C.batch with | none=>rfl | some x=>rw [hB] at hb;simp at hb
  have hal:C.alive=true:=by simpa using ha
  have hw0:C.waiting=0:=by have:=hC.batch.1;rw [hbn] at this;simpa using this
  have hp0:pend C.lanes=0:=by rw [←hC.waiting];exact hw0
  have hvs:∀ v ∈ vs,0≤v.node∧v.node<F.nodes.length∧VOk v:=by
   intro v hv
   obtain ⟨g1,g2⟩:=nS (oJ (Decidable.not_not.1 hfb) v hv)
   obtain ⟨i1,i2,i3,i4,i5,i6,i7⟩:=fP g2
   exact ⟨i5,i6,g1⟩
  have hln:C.lanes.length=F.nodes.length:=by rw [hC.lanes,hal];rfl
  have hinv:PInv F.nodes.length c.toNat C.inc 0 C.lanes:=by
   refine ⟨hln,λj l hl=>?_,hp0⟩
   have hL:=hC.lane j l hl
   refine ⟨⟨hL.client,hL.inc,hL.node,hL.places,λq hq=>?_,hL.rdy⟩,h.cl C (List.mem_of_getElem? h1) l (List.mem_of_getElem? hl)⟩
   have h3:=hL.low q hq
   rw [hbn] at h3
   simp at h3
  have hfin:=PInv.posts vs 0 C hinv hvs
  rw [Nat.zero_add] at hfin
  obtain ⟨s1,s2⟩:=ml vs 0 C
  refine h.setC h1 ⟨?_,?_,λj l hl=>?_,?_,?_,?_⟩ λl hl=>?_
  ·show 0≤(C.postFrom 0 vs).inc∧(C.postFrom 0 vs).inc≤59
   rw [s2];exact hC.inc
  ·show (C.postFrom 0 vs).lanes.length=if (C.postFrom 0 vs).alive then _ else _
   rw [s1,hal,hfin.len];rfl
  ·have:=(hfin.lane j l hl).1
   show zQ c.toNat (C.postFrom 0 vs).inc j _ l
   rw [s2]
   simpa [Comp.posted'] using this
  ·show vs.length=pend (C.postFrom 0 vs).lanes
   rw [hfin.pend]
  ·show vs.length≤_∧_
   simp [Comp.posted']
   omega
  ·intro ds hds
   simp [Comp.posted'] at hds
   rw [←hds]
   simp
   omega
  ·obtain ⟨j,hj⟩:=List.mem_iff_getElem?.1 hl
   exact (hfin.lane j l hj).2
theorem tt.comes {n i:Nat} {C:Comp} (hC:tt n i C) {j:Nat} {l:Lane} (hl:C.lanes[j]?=some l) (nd:aP) (hP:bO l.pair):tt n i (C.comes j l (l.pair.step nd).1 (l.pair.step nd).2.2):=by
 have hL:=hC.lane j l hl
 have hlt:=(List.getElem?_eq_some_iff.1 hl).1
 obtain ⟨s1,s2,s3⟩:=vW l.pair nd
 have hPs:=hP.step nd
 rcases yT l.pair nd with ⟨e1,e2⟩ | ⟨d,e1,e2,e3⟩
 ·rw [e1]
  refine ⟨hC.inc,?_,λk l' hl'=>?_,?_,hC.batch,hC.full⟩
  ·show (C.lanes.set j _).length=_
   rw [List.length_set]
   exact hC.lanes
  ·rcases wZ hlt hl' with ⟨e,rfl⟩ | ⟨e,hl'⟩
   ·exact ⟨s1.trans hL.client,s2.trans hL.inc,by rw [←e];exact s3.trans hL.node,by show l.places.length=(l.pair.step nd).1.verbs.length;rw [hL.places,e2],hL.low,hPs.rdy⟩
   ·exact hC.lane k l' hl'
  ·have:=rp (l':={ l with pair:=(l.pair.step nd).1 }) hl
   show C.waiting=pend (C.lanes.set j { l with pair:=(l.pair.step nd).1 })
   have hw:=hC.waiting
   have h5:({ l with pair:=(l.pair.step nd).1 }:Lane).pair.verbs.length=l.pair.verbs.length:=by show (l.pair.step nd).1.verbs.length=_;rw [e2]
   omega
 ·rw [e1]
  have hpl:0<l.pair.verbs.length:=List.length_pos_iff.2 e3
  have hbl:((C.comes j l (l.pair.step nd).1 (some d)).batch.getD []).length=(C.batch.getD []).length:=by
   cases hb:C.batch<;>simp [Comp.comes,hb]
  refine ⟨hC.inc,?_,λk l' hl'=>?_,?_,?_,?_⟩
  ·show (C.lanes.set j _).length=_
   rw [List.length_set]
   exact hC.lanes
  ·rw [hbl]
   rcases wZ hlt hl' with ⟨e,rfl⟩ | ⟨e,hl'⟩
   ·refine ⟨s1.trans hL.client,s2.trans hL.inc,by rw [←e];exact s3.trans hL.node,?_,λq hq=>hL.low q (List.mem_of_mem_tail hq),hPs.rdy⟩
    show l.places.tail.length=(l.pair.step nd).1.verbs.length
    rw [e2,List.length_tail,List.length_tail,hL.places]
   ·exact hC.lane k l' hl'
  ·have:=rp (l':=⟨(l.pair.step nd).1,l.places.tail⟩) hl
   show C.waiting - 1=pend (C.lanes.set j ⟨(l.pair.step nd).1,l.places.tail⟩)
   have hw:=hC.waiting
   have h5:(⟨(l.pair.step nd).1,l.places.tail⟩:Lane).pair.verbs.length=l.pair.verbs.length - 1:=by show (l.pair.step nd).1.verbs.length=_;rw [e2,List.length_tail]
   omega
  ·rw [hbl]
   have:=hC.batch
   show C.waiting - 1≤_∧_
   omega
  ·intro ds hds
   cases hb:C.batch with
   |none=>simp [Comp.comes,hb] at hds
   |some es=>
    simp [Comp.comes,hb] at hds
    rw [←hds,List.length_set]
    exact hC.full es hb
theorem yU {C:Comp} {j:Nat} {l:Lane} {nd:aP} (hP:bO l.pair) (hc:∀ l ∈ C.lanes,bO l.pair):∀ l' ∈ (C.comes j l (l.pair.step nd).1 (l.pair.step nd).2.2).lanes,bO l'.pair:=by
 intro l' hl'
 cases hd:(l.pair.step nd).2.2 with
 |none=>
  rw [hd] at hl'
  rcases List.mem_or_eq_of_mem_set hl' with h | rfl
  ·exact hc l' h
  ·exact hP.step nd
 |some d=>
  rw [hd] at hl'
  rcases List.mem_or_eq_of_mem_set hl' with h | rfl
  ·exact hc l' h
  ·exact hP.step nd
theorem Good.orphans {F:Fab} (h:Good F) {os:List Pair} (ho:∀ p ∈ os,(0≤p.node∧p.node<F.nodes.length)∧bO p):Good { F with orphans:=os }:=
 ⟨⟨h.ok.lines,h.ok.nodes,h.ok.words,h.ok.clients,h.ok.client,λp hp=>⟨(ho p hp).1.1,(ho p hp).1.2,(ho p hp).2.rdy⟩⟩,h.cl,λp hp=>(ho p hp).2⟩
theorem Good.orph {F:Fab} (h:Good F):∀ p ∈ F.orphans,(0≤p.node∧p.node<F.nodes.length)∧bO p:=λp hp=>⟨⟨(h.ok.orphan p hp).1,(h.ok.orphan p hp).2.1⟩,h.or p hp⟩
theorem Good.drop {F:Fab} (h:Good F) (c:Int):Good (F.drop c).2:=by
 unfold Fab.drop
 split
 ·exact h
 ·exact h.orphans λp hp=>h.orph p (List.mem_of_mem_eraseIdx hp)
theorem Good.stepOrphan {F:Fab} (h:Good F) (i:Nat):Good (F.stepOrphan i).2:=by
 unfold Fab.stepOrphan
 split
 ·exact h
 ·rename_i p hp
  split
  ·exact h
  ·rename_i n hn
   dsimp only
   have hm:=List.mem_of_getElem? hp
   have hP:=h.or p hm
   have hw:=h.ok.words n (List.mem_of_getElem? hn)
   have h2:=h.setN p.node.toNat (n':=(p.step n).2.1) (by rw [xO hP];exact hw)
   have hno:=(h.orph p hm).1
   have hs:=(vW p n).2.2
   refine h2.orphans (os:=if (p.step n).1.verbs.length=0 then F.orphans.eraseIdx i else F.orphans.set i (p.step n).1) λq hq=>?_
   have hlen:(F.nodes.set p.node.toNat (p.step n).2.1).length=F.nodes.length:=by simp
   show (0≤q.node∧q.node<((F.nodes.set p.node.toNat (p.step n).2.1).length:Int))∧_
   rw [hlen]
   split at hq
   ·exact h.orph q (List.mem_of_mem_eraseIdx hq)
   ·rcases List.mem_or_eq_of_mem_set hq with h3 | rfl
    ·exact h.orph q h3
    ·exact ⟨by rw [hs];exact hno,hP.step n⟩
theorem Good.step {F:Fab} (h:Good F) (x:eI):Good (F.step x).2:=by
 unfold Fab.step
 split
 ·exact h.stepOrphan _
 split
 ·exact h
 split
 ·exact h
 rename_i C hc
 obtain ⟨h0,h1⟩:=Fab.cl_some hc
 split
 ·exact h
 split
 ·rename_i l n hl hn
  split
  ·exact h
  dsimp only
  have hm:=List.mem_of_getElem? h1
  have hP:=h.cl C hm l (List.mem_of_getElem? hl)
  have hw:=h.ok.words n (List.mem_of_getElem? hn)
  have h2:=h.setN x.node.toNat (n':=(l.pair.step n).2.1) (by rw [xO hP];exact hw)
  refine h2.setC h1 ?_ (yU hP (h.cl C hm))
  have:=(h.ok.client _ _ h1).comes hl n hP
  simpa using this
 ·exact h
theorem Good.die {F:Fab} (h:Good F) (c:Int):Good (F.die c).2:=by
 unfold Fab.die
 cases hc:F.cl c with
 |none=>exact h
 |some C=>
  obtain ⟨h0,h1⟩:=Fab.cl_some hc
  have hC:=h.ok.client _ _ h1
  dsimp only
  split
  ·exact h
  ·have h2:=h.setC h1 (C':={ C with alive:=false,lanes:=[],batch:=none,waiting:=0 }) ⟨hC.inc,rfl,λj l hl=>by simp at hl,rfl,by simp,λds e=>by cases e⟩ (λl hl=>by simp at hl)
   refine h2.orphans λp hp=>?_
   rcases List.mem_append.1 hp with h3 | h3
   ·exact h.orph p h3
   ·obtain ⟨h4,h5⟩:=List.mem_filter.1 h3
    obtain ⟨l,hl,rfl⟩:=List.mem_map.1 h4
    obtain ⟨j,hj⟩:=List.mem_iff_getElem?.1 hl
    have hL:=hC.lane j l hj
    have hjl:=(List.getElem?_eq_some_iff.1 hj).1
    have hnl:=hC.lanes
    refine ⟨?_,h.cl C (List.mem_of_getElem? h1) l hl⟩
    rw [hL.node]
    split at hnl
    ·exact ⟨by omega,by show (j:Int)<(F.nodes.length:Int);omega⟩
    ·omega
theorem tG (n i:Nat) (inc:Int) (j:Nat) (l:Lane) (h:(dI n i inc)[j]?=some l):l=lP i inc j∧j<n:=by
 unfold dI at h
 rw [List.getElem?_map] at h
 cases hr:(List.range n)[j]? with
 |none=>rw [hr] at h;cases h
 |some k=>
  rw [hr] at h
  obtain ⟨h1,h2⟩:=List.getElem?_eq_some_iff.1 hr
  simp at h1 h2 h
  subst h2
  exact ⟨h.symm,h1⟩
theorem yV (n i:Nat) (inc:Int):pend (dI n i inc)=0:=by
 unfold dI pend
 rw [List.map_map]
 induction n with
 |zero=>rfl
 |succ n ih=>rw [List.range_succ,List.map_append,List.sum_append,ih];rfl
theorem Good.fresh {n c lines:Nat} (hn:1≤n∧n≤5) (hc:1≤c∧c≤6) (hl:98≤lines∧lines≤256):Good (Fab.fresh n c lines):=by
 have hg:∀ (j:Nat) (l:Lane) (i:Nat),(dI n i 1)[j]?=some l→bO l.pair:=by
  intro j l i hl
  obtain ⟨rfl,_⟩:=tG _ _ _ _ _ hl
  exact ⟨λv hv=>by simp [lP] at hv,λ_=>rfl,λ_=>rfl,λx xs e=>by simp [lP] at e⟩
 refine ⟨⟨by simp [Fab.fresh];omega,by simp [Fab.fresh];omega,λx hx=>?_,by simp [Fab.fresh];omega,λi C hC=>?_,λp hp=>by simp [Fab.fresh] at hp⟩,λC hC l hl=>?_,λp hp=>by simp [Fab.fresh] at hp⟩
 ·simp [Fab.fresh] at hx
  rw [hx.2]
  show (fmt lines n).length=lines * 8
  exact Ah _ _
 ·have hC':((List.range c).map (gI n))[i]?=some C:=hC
  rw [List.getElem?_map] at hC'
  cases hr:(List.range c)[i]? with
  |none=>rw [hr] at hC';cases hC'
  |some k=>
   rw [hr] at hC'
   obtain ⟨h1,h2⟩:=List.getElem?_eq_some_iff.1 hr
   simp at h1 h2 hC'
   subst h2
   rw [←hC']
   refine ⟨by simp [gI],by simp [gI,dI,Fab.fresh],λj l hl=>?_,?_,by simp [gI],λds e=>by simp [gI] at e⟩
   ·have hgl:=hg j l i hl
    obtain ⟨rfl,_⟩:=tG _ _ _ _ _ hl
    exact ⟨rfl,rfl,rfl,rfl,λk hk=>by simp [lP] at hk,hgl.rdy⟩
   ·show 0=pend (dI n i 1)
    rw [yV]
 ·simp [Fab.fresh] at hC
  obtain ⟨i,_,rfl⟩:=hC
  obtain ⟨j,hj⟩:=List.mem_iff_getElem?.1 hl
  exact hg j l i hj
end Go.Proofs.YtgpmeaicjonenaaGreat
