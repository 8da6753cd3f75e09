import Derived.Test.YtegepanmkjemjaaGreatu27
set_option linter.unusedVariables false
namespace Go.Proofs.YtegepanmkjemjaaGreat
open Go.Proofs.Tryz
open Go.Eng
def runL:List (List (List Done)→SR)→List (List Done)→SR
 | [],G=>vW G
 |f::fs,G=>lA (f G) (runL fs)
def rh (j:CJob):List (List (List Done)→SR):=[Av j,qk j,yY j,oC j,finM j]
def runM (j:CJob) (G:List (List Done)):SR:=runL (rh j) G
def sA (R:SR):Int×Int:=if R.ok=true then (0,3) else R.out
theorem okS1:mh prog 147=true:=by kernel_rfl
theorem okS2:mh prog 148=true:=by kernel_rfl
theorem okS3:mh prog 149=true:=by kernel_rfl
theorem okS4:mh prog 150=true:=by kernel_rfl
theorem okS5:mh prog 151=true:=by kernel_rfl
def fnsL (cb:Nat):List Value:=[.func (.func 147) #[ptr cb] #[],.func (.func 148) #[ptr cb] #[],.func (.func 149) #[ptr cb] #[],.func (.func 150) #[ptr cb] #[],.func (.func 151) #[ptr cb] #[]]
variable {A:Nat→Prop} {w0 u:World} {cb tb:Nat} {r:aL} {m0:aC} {j:CJob}
theorem Fm {z:World} (hco:fR w0 z cb tb r m0 j) (hd:xi j) {T:TkX} {G:List (List Done)} (hT:TkAt A w0 z tb T G) (hcl:oB T) {i:Nat} (hi:i<5) :
  ∃ (f:FuncId) (F:List (List Done)→SR),(fnsL cb)[i]?=some (.func (.func f) #[ptr cb] #[])∧(rh j)[i]?=some F∧mh prog f=true∧Does f [ptr cb] z (qi A w0 z tb z.heap.size (F G)):=by
 have h5:i=0∨i=1∨i=2∨i=3∨i=4:=by omega
 rcases h5 with rfl | rfl | rfl | rfl | rfl
 ·exact ⟨_,_,rfl,rfl,okS1,Fj hco hd hT hcl⟩
 ·exact ⟨_,_,rfl,rfl,okS2,Fl hco hT hcl⟩
 ·exact ⟨_,_,rfl,rfl,okS3,Ed hco hT hcl⟩
 ·exact ⟨_,_,rfl,rfl,okS4,Ee hco hd hT hcl⟩
 ·exact ⟨_,_,rfl,rfl,okS5,Co hco hd hT hcl⟩
theorem Az {F:List (List Done)→SR} {l:List (List (List Done)→SR)} {i:Nat} (h:l[i]?=some F) (G:List (List Done)):runL (l.drop i) G=lA (F G) (runL (l.drop (i+1))):=by
 have hlt:=aP h
 rw [List.drop_eq_getElem_cons hlt]
 rw [List.getElem?_eq_getElem hlt] at h
 cases h
 rfl
theorem xY (G:List (List Done)):(vW G).ask=none∧(vW G).wrong=false:=⟨rfl,rfl⟩
theorem AA {j:CJob} {G:List (List Done)} {a:Int} {ws:List Int} {f:Int} (h:(logM j G a ws f).ok=true):(logM j G a ws f).ask=none∧(logM j G a ws f).wrong=false:=by
 unfold logM at h ⊢
 split
 ·exact xY G
 ·rename_i hn
  rw [if_neg hn] at h
  exact ⟨(ln h).1,(ln h).2.1⟩
theorem Cp {j:CJob} {G:List (List Done)} (h:(qk j G).ok=true):(qk j G).ask=none∧(qk j G).wrong=false:=by
 unfold qk at h ⊢
 split
 ·rename_i h1
  rw [if_pos h1] at h
  rw [h1] at h
  cases h
 ·rename_i h1
  rw [if_neg h1] at h
  split
  ·exact ⟨rfl,rfl⟩
  ·rename_i h2
   rw [if_neg h2] at h
   split
   ·rename_i h3
    rw [if_pos h3] at h
    cases h
   ·rename_i h3
    rw [if_neg h3] at h
    exact absurd h h3
theorem Cq {j:CJob} {G:List (List Done)} (h:(oC j G).ok=true):(oC j G).ask=none∧(oC j G).wrong=false:=⟨(ln h).1,(ln h).2.1⟩
theorem Ei {j:CJob} {G:List (List Done)} (h:(finM j G).ok=true):(finM j G).ask=none∧(finM j G).wrong=false:=by
 unfold finM at h ⊢
 split
 ·exact xY G
 ·rename_i hn
  rw [if_neg hn] at h
  exact ⟨(ln h).1,(ln h).2.1⟩
theorem Fn {j:CJob} (i:Nat) (F:List (List Done)→SR) (h:(rh j)[i]?=some F) (G:List (List Done)) (hk:(F G).ok=true):(F G).ask=none∧(F G).wrong=false:=by
 have hlt:=aP h
 have h5:i=0∨i=1∨i=2∨i=3∨i=4:=by unfold rh at hlt;simp at hlt <;> omega
 rcases h5 with rfl | rfl | rfl | rfl | rfl<;>cases h
 ·exact AA hk
 ·exact Cp hk
 ·exact AA hk
 ·exact Cq hk
 ·exact Ei hk
attribute [local irreducible] mh n0 ta
set_option maxRecDepth 20000 in
set_option maxHeartbeats 1000000 in
theorem Gd (hco:fR w0 u cb tb r m0 j) (hd:xi j) {T:TkX} {G:List (List Done)} (hT:TkAt A w0 u tb T G) (hcl:oB T) :
  Does 108 [ptr cb] u λv u'=>v=aA.val ⟨(sA (runM j G)).1,(sA (runM j G)).2⟩∧jx A w0 u tb u.heap.size (runM j G) u':=by
 refine does Tryz.func108 ?_
 rw [ptr,mz]
 rintro b1 u1 hb1 hu1
 obtain ⟨hz1,hn1⟩:=aN hb1 hu1
 have hz1:Blk u1 b1 (aA.cells ⟨0,0⟩) TCO:=hz1
 clear hu1
 rintro b2 u2 hb2 hu2
 obtain ⟨hz2,hn2⟩:=aN hb2 hu2
 obtain ⟨TF,hz2⟩:∃ TF,Blk u2 b2 (fnsL cb) TF:=⟨_,hz2⟩
 clear hu2
 have hn12:=hn1.new hn2
 have hz12:=New.blk hn2 hz1
 have hl1:=hz12.lt
 have hl2:=hz2.lt
 have htl:=hT.blk.lt
 have hcl':=hco.blk.lt
 have hs1:=hn1.size
 refine aR mix (λq env z=>∃ (i:Nat) (Gi:List (List Done)) (jj:List Value),q=5 - i∧i≤5∧env=dI ⟨b1,0,none⟩ (some ⟨b2,0,none⟩) 5 5 5 i jj∧fR w0 z cb tb r m0 j∧(∃ T,TkAt A w0 z tb T Gi∧oB T)∧Keep (λk=>k=tb) u z∧Blk z b1 (aA.cells ⟨0,0⟩) TCO∧Blk z b2 (fnsL cb) TF∧runM j G=runL ((rh j).drop i) Gi) 5
  ⟨0,G,_,rfl,by omega,rfl,hco.new' hn12,⟨T,hT.new hn12,hcl⟩,Keep.of_new hn12,hz12,hz2,rfl⟩ ?_
 rintro q env z ⟨i,Gi,jj,rfl,hi,rfl,hcz,⟨Ti,hTi,hci⟩,hkz,hz1,hz2,hrun⟩
 rw [jy]
 refine aH (λhlt=>?_) (λhge=>?_)
 ·obtain ⟨f,F,hf,hF,hok,hdo⟩:=Fm hcz hd hTi hci (i:=i) (by omega)
  rw [Az hF] at hrun
  refine aX (by omega) (by omega) ⟨_,hz2.cell (i:=0+i * 1) (by rw [Nat.zero_add,Nat.mul_one];exact hf),?_⟩
  refine nV hok (xs:=#[ptr cb]) (by simp) ?_
  refine aF hdo ?_
  rintro v u4 ⟨rfl,hsp⟩
  refine aA.mk_ex ⟨(F Gi).out.1,(F Gi).out.2⟩ ⟨(F Gi).ok,rfl,?_⟩
  refine ii (vs:=aA.cells ⟨(F Gi).out.1,(F Gi).out.2⟩) rfl (aA.single _) λb3 u5 hb3 hz3 hn5=>?_
  have hsz:=hkz.size
  have hlz:=hz1.lt
  have hsp':=(hsp.after hkz).new hn5
  have hz15:Blk u5 b1 (aA.cells ⟨0,0⟩) TCO:=New.blk hn5 (hsp.keep.blk hz1 (by omega))
  have hz25:=New.blk hn5 (hsp.keep.blk hz2 (by omega))
  unfold lA at hrun
  cases hk:(F Gi).ok with
  |false=>
   rw [if_neg (by rw [hk];simp)] at hrun
   refine kf rfl ?_
   refine aA.mk_ex ⟨(F Gi).out.1,(F Gi).out.2⟩ ⟨aJ hz3 rfl,?_⟩
   refine ic hz15 rfl (aA.single _) λu6 hz6 hk6=>?_
   refine aA.mk_ex ⟨(F Gi).out.1,(F Gi).out.2⟩ ⟨aJ hz6 rfl,rfl,?_,?_⟩
   ·rw [hrun]
    unfold sA
    rw [if_neg (by rw [hk];simp)]
   ·rw [hrun]
    exact hsp'.put (Keep.refl _ _) (Keep.refl _ _) hk6 (by omega) (by omega) (by omega) (by omega)
  |true=>
   rw [if_pos hk] at hrun
   obtain ⟨ha,hw⟩:=Fn i F hF Gi hk
   obtain ⟨T',hT',hcl2⟩:=hsp'.clean ha hw
   rw [w64 (x:=(i:Int)+1) (by omega) (by omega)]
   exact ⟨5 - (i+1),by omega,i+1,(F Gi).got,_,rfl,by omega,rfl,(hcz.keep hsp.keep λk e=>by have h1:=hcz.tbl;have h2:=hcz.ne;exact ⟨by omega,by omega⟩).new' hn5,⟨T',hT',hcl2⟩,hsp'.keep,hz15,hz25,hrun⟩
 ·have hi5:i=5:=by omega
  subst hi5
  rw [kp,hrun]
  refine co_k hz1 rfl 0 3 λu4 hk4=>⟨rfl,?_⟩
  have h0:jx A w0 u tb z.heap.size (runL ((rh j).drop 5) Gi) z:=⟨hkz,Ti,hTi,hci.wrong,hci.al⟩
  have hsz:=hkz.size
  have hlz:=hz1.lt
  exact h0.put (Keep.refl _ _) (Keep.refl _ _) hk4 (by omega) (by omega) (by omega) (by omega)
end Go.Proofs.YtegepanmkjemjaaGreat
namespace Go.Proofs.YtegepanmkjemjaaGreat
open Go.Eng
def dE (j:CJob) (G:List (List Done)):List Verb×(Int×Int)×Bool:=
 if j.valid≠0 then ([],(j.valid,0),true) else match (runM j G).ask with
 |some vs=>(vs,(0,0),false)
 |none=>if (runM j G).wrong=true∨(runM j G).got≠[] then ([],(6,0),true) else ([],sA (runM j G),true)
theorem Ej {w:World} {tb:Nat} {T:TkX} (hz:Blk w tb T.cells TTk):Does 100 [ptr tb] w λx w'=>x=.tuple #[.slice T.aa T.al T.ac,.bool (decide ((T.al:Int)>0))]∧New w w':=by
 refine does Tryz.func100 ?_
 rw [ptr,o7]
 rintro w1 hw1
 have hn1:New w w1:=by rw [hw1];exact aT _
 clear hw1
 exact ⟨λy=>New w1 y,Keep.refl _ _,_,_,_,λy hy=>(New.blk (hn1.new hy) hz).cell (i:=1) rfl,_,_,_,λy hy=>(New.blk (hn1.new hy) hz).cell (i:=1) rfl,rfl,hn1⟩
theorem Ek {w:World} {tb:Nat} {T:TkX} (hz:Blk w tb T.cells TTk):Does 101 [ptr tb] w λx w'=>x=.bool (T.wrong || decide ((T.gl:Int)>0))∧New w w':=by
 refine does Tryz.func101 ?_
 rw [ptr,nr]
 refine ⟨T.wrong,hz.cell (i:=2) rfl,?_⟩
 cases T.wrong
 ·exact dO rfl ⟨_,_,_,hz.cell (i:=0) rfl,rfl,Keep.refl _ _⟩
 ·exact kf rfl ⟨rfl,Keep.refl _ _⟩
def yZ (w:World) (j:CJob) (G:List (List Done)) (v:Value) (u:World):Prop:=
 ∃ (aa:Option Addr) (ac:Nat) (raws:List aK),v=.tuple #[.slice aa raws.length ac,aA.val ⟨(dE j G).2.1.1,(dE j G).2.1.2⟩,.bool (dE j G).2.2]∧New w u∧Rd u aa (eC raws).flatten∧(∀ k,isB aa k→w.heap.size≤k)∧Vs (λk=>k<w.heap.size) u raws (dE j G).1
theorem yZ.nil {w u:World} {j:CJob} {G:List (List Done)} {o:Int×Int} {b:Bool} (h:dE j G=([],o,b)) (hn:New w u):yZ w j G (.tuple #[.slice none 0 0,aA.val ⟨o.1,o.2⟩,.bool b]) u:=
 ⟨none,0,[],by rw [h];rfl,hn,.inl rfl,λk hk=>absurd hk noB,by rw [h];exact ⟨rfl,λi v x hv=>by simp at hv⟩⟩
theorem Fo {u:World} {b:Nat} {o:aA} (hz:Blk u b o.cells TCO) {K:aA→World→Prop} (hk:∀ u4,Keep (λk=>k=b) u u4→K o u4) :
  ∀ w1,w1=u.drew→∃ Sx:World→Prop,Sx w1∧aA.ex λr=>(∀ y,Sx y→aE y ⟨b,0,none⟩ 0 r.cells)∧wrAt w1 ⟨b,0,none⟩ 0 r.cells∧∀ w3,w3=puts w1 ⟨b,0,none⟩ 0 r.cells→aA.ex λres=>aE w3 ⟨b,0,none⟩ 0 res.cells∧w3=w3∧K res w3:=by
 rintro w1 hw1
 have hn1:New u w1:=by rw [hw1];exact aT _
 clear hw1
 have hz1:=New.blk hn1 hz
 refine ⟨λy=>New w1 y,Keep.refl _ _,aA.mk_ex o ⟨λy hy=>aJ (New.blk hy hz1) rfl,?_⟩⟩
 exact ic hz1 rfl (aA.single _) λw3 hz3 hk3=>aA.mk_ex o ⟨aJ hz3 rfl,rfl,hk w3 ((Keep.of_new hn1).trans hk3 λ_ _ e=>e)⟩
theorem Ge {u:World} {b:Nat} {o:aA} (hz:Blk u b o.cells TCO) (c f:Int) {K:aA→World→Prop} (hk:∀ u4,Keep (λk=>k=b) u u4→K ⟨c,f⟩ u4) :
  wrAt u ⟨b,0,none⟩ 0 [(.int .i64 c),(.int .i64 f)]∧∀ w2,w2=puts u ⟨b,0,none⟩ 0 [(.int .i64 c),(.int .i64 f)]→∀ w1,w1=w2.drew→∃ Sx:World→Prop,Sx w1∧aA.ex λr=>(∀ y,Sx y→aE y ⟨b,0,none⟩ 0 r.cells)∧wrAt w1 ⟨b,0,none⟩ 0 r.cells∧∀ w3,w3=puts w1 ⟨b,0,none⟩ 0 r.cells→aA.ex λres=>aE w3 ⟨b,0,none⟩ 0 res.cells∧w3=w3∧K res w3:=
 ic hz (vs:=aA.cells ⟨c,f⟩) rfl (aA.single _) λw2 hz2 hk2=>Fo hz2 λu4 hk4=>hk u4 (hk2.trans hk4 λ_ _ e=>e)
set_option maxRecDepth 20000 in
set_option maxHeartbeats 4000000 in
theorem El {A:Nat→Prop} {w:World} {r:aL} {j:CJob} (hj:rf w r j) (hd:j.valid=0→xi j) {ga:Option Addr} {gl gc:Nat} {G:List (List Done)} (hg:mv A w ga G) (hgl:gl=G.length) (hgc:gl≤gc) :
  Does 76 [r.val,.slice ga gl gc] w (yZ w j G):=by
 refine does Tryz.func76 ?_
 rw [tv]
 rintro b1 u1 hb1 hu1
 obtain ⟨hz1,hn1⟩:=aN hb1 hu1
 have hz1:Blk u1 b1 r.cells 34:=hz1
 clear hu1
 rintro b2 u2 hb2 hu2
 obtain ⟨hz2,hn2⟩:=aN hb2 hu2
 have hz2:Blk u2 b2 (aA.cells ⟨0,0⟩) TCO:=hz2
 clear hu2
 have hn12:=hn1.new hn2
 have hs1:=hn1.size
 have hl1:=hz1.lt
 have hl2:=hz2.lt
 refine aL.mk_ex r ⟨aJ (New.blk hn2 hz1) rfl,?_⟩
 refine aF (B8 (hj.new hn12)) ?_
 rintro v u3 ⟨rfl,hn3⟩
 have hn13:=hn12.new hn3
 have hz23:=New.blk hn3 hz2
 refine ⟨_,rfl,cM (λhv=>?_) (λhv=>?_)⟩
 ·refine co_k hz23 rfl j.valid 0 λu4 hk4=>yZ.nil (o:=(j.valid,0)) (b:=true) ?_ (hn13.trans hk4 λk hlt e=>by omega)
  unfold dE
  rw [if_pos hv]
 have hgood:=D9 hv
 have hdat:=hd hv
 obtain ⟨m0,hm0⟩:∃ m0,j.v.mem[0]?=some m0:=⟨_,List.getElem?_eq_getElem hgood.mem.1⟩
 rintro u5 hu5
 have hn5:New u3 u5:=by rw [hu5];exact aT _
 clear hu5
 have hn15:=hn13.new hn5
 have hz15:=New.blk ((hn2.new hn3).new hn5) hz1
 refine ⟨λy=>New u5 y,Keep.refl _ _,aL.mk_ex r ⟨λy hy=>aJ (New.blk hy hz15) rfl,?_⟩⟩
 refine aF (Fc u5 ga gl gc) ?_
 rintro v u6 ⟨tb,rfl,htb,hz6,hn6⟩
 refine ⟨_,rfl,hn6,?_⟩
 rintro b3 u7 hb3 hu7
 obtain ⟨hz7,hn7⟩:=aN hb3 hu7
 have hz7:Blk u7 b3 (comC r tb ⟨0,0,false⟩) TCm:=hz7
 clear hu7
 have hs6:=hn6.size
 have hs15:=hn15.size
 have hs2:=hn2.size
 have hs3:=hn3.size
 have hs5:=hn5.size
 have hl6:=hz6.lt
 refine ⟨hn6.new hn7,aM.mk_ex r.View ⟨aJ (New.blk (hn6.new hn7) hz15) rfl,?_⟩⟩
 obtain ⟨MV,hview⟩:=hj.view
 have hn17:=(hn15.new hn6).new hn7
 refine aF (As (hview.new hn17) hm0) ?_
 rintro v u8 ⟨rfl,hn8⟩
 have hz8:=New.blk hn8 hz7
 refine aC.mk_ex m0 ⟨true,rfl,cH hz8 (by simp [comC,aC.cells,aL.cells]) (aC.single _),?_⟩
 rintro u9 hu9
 have hz9:Blk u9 b3 (comC r tb m0) TCm:=by rw [hu9];exact hz8.puts (o:=8) (i:=0) (vs:=m0.cells)
 have hk9:Keep (λk=>k=b3) u8 u9:=by rw [hu9];exact dL _ _ _ _ _
 clear hu9
 have hn19:New w u9:=(hn17.new hn8).trans hk9 λk hlt e=>by omega
 have hn69:New u6 u9:=(hn7.new hn8).trans hk9 λk hlt e=>by omega
 have hz69:Blk u9 tb (TkX.cells ⟨ga,gl,gc,none,0,0,false⟩) TTk:=New.blk hn69 hz6
 have hz29:Blk u9 b2 (aA.cells ⟨0,0⟩) TCO:=New.blk ((hn5.new hn6).new hn69) hz23
 have hco:fR w u9 b3 tb r m0 j:=⟨hz9,hj,hgood,hm0,hn19,by omega,by omega,by omega⟩
 have hT:TkAt A w u9 tb ⟨ga,gl,gc,none,0,0,false⟩ G:=⟨hz69,hg,hgl,hgc⟩
 have hcall:=Gd hco hdat hT ⟨rfl,rfl⟩
 refine aF hcall ?_
 rintro v uA ⟨rfl,hsp⟩
 have hs9:=hn69.size
 have hzA2:Blk uA b2 (aA.cells ⟨0,0⟩) TCO:=hsp.keep.blk hz29 (by omega)
 refine aA.mk_ex ⟨(sA (runM j G)).1,(sA (runM j G)).2⟩ ⟨rfl,?_⟩
 refine ic hzA2 rfl (aA.single _) λuB hzB2 hkB=>?_
 have hspB:=(hsp.after (u:=w) (Keep.of_new hn19)).put (B':=u9.heap.size) (Keep.refl _ _) (Keep.refl _ _) hkB (by omega) (by omega) (by omega) (Nat.le_refl _)
 have hnB:New w uB:=(Keep.refl _ w).trans hspB.keep λk hlt e=>by omega
 have hz3B:Blk uB b3 (comC r tb m0) TCm:=hkB.blk (hsp.keep.blk hz9 (by omega)) (by omega)
 obtain ⟨_,T,hTB,hTw,hTa⟩:=hspB
 refine ⟨_,hz3B.cell (i:=7) rfl,?_⟩
 refine aF (Ej hTB.blk) ?_
 rintro v uC ⟨rfl,hnC⟩
 have hz2C:=New.blk hnC hzB2
 cases hask:(runM j G).ask with
 |some vs=>
  rw [hask] at hTa
  obtain ⟨h0,w1,h1,h2,h3⟩:=hTa
  have hal:=h3.len
  refine ⟨_,_,_,_,rfl,kf (by simp;omega) ?_⟩
  refine co_k hz2C rfl 0 0 λuD hkD=>?_
  have h4:VB w1 uD T.aa T.al T.ac vs:=(h3.new hnC).keep hkD λk e=>by omega
  obtain ⟨⟨raws,ho,hv5⟩,hl5,hf5⟩:=h4
  have hr:=hv5.1
  have hw1:=h1.size
  have hnx:dE j G=(vs,(0,0),false):=by
   unfold dE
   rw [if_neg (by simpa using hv),hask]
  refine ⟨T.aa,T.ac,raws,?_,(hnB.new hnC).trans hkD λk hlt e=>by omega,ho.rd,λk hk=>by have:=hf5 k hk;omega,?_⟩
  ·rw [hnx,hal,hr]
  ·rw [hnx]
   exact hv5.keep (Keep.refl _ _) λk hlt e=>.inl (by omega)
 |none=>
  rw [hask] at hTa
  refine ⟨_,_,_,_,rfl,dO (by simp;omega) ?_⟩
  refine ⟨_,(New.blk hnC hz3B).cell (i:=7) rfl,?_⟩
  refine aF (Ek (New.blk hnC hTB.blk)) ?_
  rintro v uD ⟨rfl,hnD⟩
  have hz2D:=New.blk hnD hz2C
  have hgl2:=hTB.gl
  refine ⟨_,rfl,?_⟩
  cases hm:(T.wrong || decide ((T.gl:Int)>0)) with
  |true=>
   refine Ge hz2D 6 0 λuE hnE=>yZ.nil (o:=(6,0)) (b:=true) ?_ (((hnB.new hnC).new hnD).trans hnE λk hlt e=>by omega)
   unfold dE
   rw [if_neg (by simpa using hv),hask]
   refine if_pos ?_
   rw [hTw] at hm
   rw [Bool.or_eq_true] at hm
   rcases hm with hm | hm
   ·exact .inl hm
   ·right
    intro e
    rw [e] at hgl2
    simp at hm hgl2
    omega
  |false=>
   refine Fo hz2D λuE hnE=>yZ.nil (o:=sA (runM j G)) (b:=true) ?_ (((hnB.new hnC).new hnD).trans hnE λk hlt e=>by omega)
   unfold dE
   rw [if_neg (by simpa using hv),hask]
   refine if_neg ?_
   rw [hTw] at hm
   obtain ⟨hm1,hm2⟩:=Bool.or_eq_false_iff.1 hm
   rintro (e | e)
   ·rw [e] at hm1;cases hm1
   ·apply e
    apply List.eq_nil_of_length_eq_zero
    simp at hm2 <;> omega
end Go.Proofs.YtegepanmkjemjaaGreat
