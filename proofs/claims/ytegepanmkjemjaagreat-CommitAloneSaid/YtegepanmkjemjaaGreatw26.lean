import Derived.Test.YtegepanmkjemjaaGreatw25
import Derived.Test.YtegepanmkjemjaaGreatw19
set_option linter.unusedVariables false
namespace Go.Proofs.YtegepanmkjemjaaGreat
open Go.Eng
def cH (j:CJob) (G:List (List Done)):List Verb×(Int×Int)×Bool:=
 if j.valid≠0 then ([],(j.valid,0),true) else match (runM j G).ask with
 |some vs=>(vs,(0,0),false)
 |none=>if (runM j G).wrong=true∨(runM j G).got≠[] then ([],(6,0),true) else ([],tt (runM j G),true)
theorem EY {w:World} {tb:Nat} {T:TkX} (hz:Blk w tb T.cells TTk):Does 100 [ptr tb] w λx w'=>x=.tuple #[.slice T.aa T.al T.ac,.bool (decide ((T.al:Int)>0))]∧New w w':=by
 refine does Tryz.func100 ?_
 rw [ptr,pJ]
 rintro w1 hw1
 have hn1:New w w1:=by rw [hw1];exact aV _
 clear hw1
 exact ⟨λy=>New w1 y,Keep.refl _ _,_,_,_,λy hy=>(New.blk (hn1.new hy) hz).cell (i:=1) rfl,_,_,_,λy hy=>(New.blk (hn1.new hy) hz).cell (i:=1) rfl,rfl,hn1⟩
theorem EZ {w:World} {tb:Nat} {T:TkX} (hz:Blk w tb T.cells TTk):Does 101 [ptr tb] w λx w'=>x=.bool (T.wrong || decide ((T.gl:Int)>0))∧New w w':=by
 refine does Tryz.func101 ?_
 rw [ptr,nW]
 refine ⟨T.wrong,hz.cell (i:=2) rfl,?_⟩
 cases T.wrong
 ·exact cU rfl ⟨_,_,_,hz.cell (i:=0) rfl,rfl,Keep.refl _ _⟩
 ·exact jt rfl ⟨rfl,Keep.refl _ _⟩
def zJ (w:World) (j:CJob) (G:List (List Done)) (v:Value) (u:World):Prop:=
 ∃ (aa:Option Addr) (ac:Nat) (raws:List aL),v=.tuple #[.slice aa raws.length ac,aA.val ⟨(cH j G).2.1.1,(cH j G).2.1.2⟩,.bool (cH j G).2.2]∧New w u∧Rd u aa (eH raws).flatten∧(∀ k,isB aa k→w.heap.size≤k)∧Vs (λk=>k<w.heap.size) u raws (cH j G).1
theorem zJ.nil {w u:World} {j:CJob} {G:List (List Done)} {o:Int×Int} {b:Bool} (h:cH j G=([],o,b)) (hn:New w u):zJ w j G (.tuple #[.slice none 0 0,aA.val ⟨o.1,o.2⟩,.bool b]) u:=
 ⟨none,0,[],by rw [h];rfl,hn,.inl rfl,λk hk=>absurd hk noB,by rw [h];exact ⟨rfl,λi v x hv=>by simp at hv⟩⟩
theorem Ge {u:World} {b:Nat} {o:aA} (hz:Blk u b o.cells TCO) {K:aA→World→Prop} (hk:∀ u4,Keep (λk=>k=b) u u4→K o u4) :
  ∀ w1,w1=u.drew→∃ Sx:World→Prop,Sx w1∧aA.ex λr=>(∀ y,Sx y→aG y ⟨b,0,none⟩ 0 r.cells)∧wrAt w1 ⟨b,0,none⟩ 0 r.cells∧∀ w3,w3=puts w1 ⟨b,0,none⟩ 0 r.cells→aA.ex λres=>aG w3 ⟨b,0,none⟩ 0 res.cells∧w3=w3∧K res w3:=by
 rintro w1 hw1
 have hn1:New u w1:=by rw [hw1];exact aV _
 clear hw1
 have hz1:=New.blk hn1 hz
 refine ⟨λy=>New w1 y,Keep.refl _ _,aA.mk_ex o ⟨λy hy=>aK (New.blk hy hz1) rfl,?_⟩⟩
 exact gJ hz1 rfl (aA.single _) λw3 hz3 hk3=>aA.mk_ex o ⟨aK hz3 rfl,rfl,hk w3 ((Keep.of_new hn1).trans hk3 λ_ _ e=>e)⟩
theorem G1 {u:World} {b:Nat} {o:aA} (hz:Blk u b o.cells TCO) (c f:Int) {K:aA→World→Prop} (hk:∀ u4,Keep (λk=>k=b) u u4→K ⟨c,f⟩ u4) :
  wrAt u ⟨b,0,none⟩ 0 [(.int .i64 c),(.int .i64 f)]∧∀ w2,w2=puts u ⟨b,0,none⟩ 0 [(.int .i64 c),(.int .i64 f)]→∀ w1,w1=w2.drew→∃ Sx:World→Prop,Sx w1∧aA.ex λr=>(∀ y,Sx y→aG y ⟨b,0,none⟩ 0 r.cells)∧wrAt w1 ⟨b,0,none⟩ 0 r.cells∧∀ w3,w3=puts w1 ⟨b,0,none⟩ 0 r.cells→aA.ex λres=>aG w3 ⟨b,0,none⟩ 0 res.cells∧w3=w3∧K res w3:=
 gJ hz (vs:=aA.cells ⟨c,f⟩) rfl (aA.single _) λw2 hz2 hk2=>Ge hz2 λu4 hk4=>hk u4 (hk2.trans hk4 λ_ _ e=>e)
set_option maxRecDepth 20000 in
set_option maxHeartbeats 4000000 in
theorem E0 {A:Nat→Prop} {w:World} {r:aH} {j:CJob} (hj:rS w r j) (hd:j.valid=0→xZ j) {ga:Option Addr} {gl gc:Nat} {G:List (List Done)} (hg:mS A w ga G) (hgl:gl=G.length) (hgc:gl≤gc) :
  Does 76 [r.val,.slice ga gl gc] w (zJ w j G):=by
 refine does Tryz.func76 ?_
 rw [ud]
 rintro b1 u1 hb1 hu1
 obtain ⟨hz1,hn1⟩:=aN hb1 hu1
 have hz1:Blk u1 b1 r.cells 34:=hz1
 clear hu1
 rintro b2 u2 hb2 hu2
 obtain ⟨hz2,hn2⟩:=aN hb2 hu2
 have hz2:Blk u2 b2 (aA.cells ⟨0,0⟩) TCO:=hz2
 clear hu2
 have hn12:=hn1.new hn2
 have hs1:=hn1.size
 have hl1:=hz1.lt
 have hl2:=hz2.lt
 refine aH.mk_ex r ⟨aK (New.blk hn2 hz1) rfl,?_⟩
 refine aE (CL (hj.new hn12)) ?_
 rintro v u3 ⟨rfl,hn3⟩
 have hn13:=hn12.new hn3
 have hz23:=New.blk hn3 hz2
 refine ⟨_,rfl,cR (λhv=>?_) (λhv=>?_)⟩
 ·refine co_k hz23 rfl j.valid 0 λu4 hk4=>zJ.nil (o:=(j.valid,0)) (b:=true) ?_ (hn13.trans hk4 λk hlt e=>by omega)
  unfold cH
  rw [if_pos hv]
 have hgood:=EO hv
 have hdat:=hd hv
 obtain ⟨m0,hm0⟩:∃ m0,j.v.mem[0]?=some m0:=⟨_,List.getElem?_eq_getElem hgood.mem.1⟩
 rintro u5 hu5
 have hn5:New u3 u5:=by rw [hu5];exact aV _
 clear hu5
 have hn15:=hn13.new hn5
 have hz15:=New.blk ((hn2.new hn3).new hn5) hz1
 refine ⟨λy=>New u5 y,Keep.refl _ _,aH.mk_ex r ⟨λy hy=>aK (New.blk hy hz15) rfl,?_⟩⟩
 refine aE (FY u5 ga gl gc) ?_
 rintro v u6 ⟨tb,rfl,htb,hz6,hn6⟩
 refine ⟨_,rfl,hn6,?_⟩
 rintro b3 u7 hb3 hu7
 obtain ⟨hz7,hn7⟩:=aN hb3 hu7
 have hz7:Blk u7 b3 (comC r tb ⟨0,0,false⟩) TCm:=hz7
 clear hu7
 have hs6:=hn6.size
 have hs15:=hn15.size
 have hs2:=hn2.size
 have hs3:=hn3.size
 have hs5:=hn5.size
 have hl6:=hz6.lt
 refine ⟨hn6.new hn7,aM.mk_ex r.View ⟨aK (New.blk (hn6.new hn7) hz15) rfl,?_⟩⟩
 obtain ⟨MV,hview⟩:=hj.view
 have hn17:=(hn15.new hn6).new hn7
 refine aE (Be (hview.new hn17) hm0) ?_
 rintro v u8 ⟨rfl,hn8⟩
 have hz8:=New.blk hn8 hz7
 refine aF.mk_ex m0 ⟨true,rfl,bZ hz8 (by simp [comC,aF.cells,aH.cells]) (aF.single _),?_⟩
 rintro u9 hu9
 have hz9:Blk u9 b3 (comC r tb m0) TCm:=by rw [hu9];exact hz8.puts (o:=8) (i:=0) (vs:=m0.cells)
 have hk9:Keep (λk=>k=b3) u8 u9:=by rw [hu9];exact cT _ _ _ _ _
 clear hu9
 have hn19:New w u9:=(hn17.new hn8).trans hk9 λk hlt e=>by omega
 have hn69:New u6 u9:=(hn7.new hn8).trans hk9 λk hlt e=>by omega
 have hz69:Blk u9 tb (TkX.cells ⟨ga,gl,gc,none,0,0,false⟩) TTk:=New.blk hn69 hz6
 have hz29:Blk u9 b2 (aA.cells ⟨0,0⟩) TCO:=New.blk ((hn5.new hn6).new hn69) hz23
 have hco:fZ w u9 b3 tb r m0 j:=⟨hz9,hj,hgood,hm0,hn19,by omega,by omega,by omega⟩
 have hT:TkAt A w u9 tb ⟨ga,gl,gc,none,0,0,false⟩ G:=⟨hz69,hg,hgl,hgc⟩
 have hcall:=G0 hco hdat hT ⟨rfl,rfl⟩
 refine aE hcall ?_
 rintro v uA ⟨rfl,hsp⟩
 have hs9:=hn69.size
 have hzA2:Blk uA b2 (aA.cells ⟨0,0⟩) TCO:=hsp.keep.blk hz29 (by omega)
 refine aA.mk_ex ⟨(tt (runM j G)).1,(tt (runM j G)).2⟩ ⟨rfl,?_⟩
 refine gJ hzA2 rfl (aA.single _) λuB hzB2 hkB=>?_
 have hspB:=(hsp.after (u:=w) (Keep.of_new hn19)).put (B':=u9.heap.size) (Keep.refl _ _) (Keep.refl _ _) hkB (by omega) (by omega) (by omega) (Nat.le_refl _)
 have hnB:New w uB:=(Keep.refl _ w).trans hspB.keep λk hlt e=>by omega
 have hz3B:Blk uB b3 (comC r tb m0) TCm:=hkB.blk (hsp.keep.blk hz9 (by omega)) (by omega)
 obtain ⟨_,T,hTB,hTw,hTa⟩:=hspB
 refine ⟨_,hz3B.cell (i:=7) rfl,?_⟩
 refine aE (EY hTB.blk) ?_
 rintro v uC ⟨rfl,hnC⟩
 have hz2C:=New.blk hnC hzB2
 cases hask:(runM j G).ask with
 |some vs=>
  rw [hask] at hTa
  obtain ⟨h0,w1,h1,h2,h3⟩:=hTa
  have hal:=h3.len
  refine ⟨_,_,_,_,rfl,jt (by simp;omega) ?_⟩
  refine co_k hz2C rfl 0 0 λuD hkD=>?_
  have h4:VB w1 uD T.aa T.al T.ac vs:=(h3.new hnC).keep hkD λk e=>by omega
  obtain ⟨⟨raws,ho,hv5⟩,hl5,hf5⟩:=h4
  have hr:=hv5.1
  have hw1:=h1.size
  have hnx:cH j G=(vs,(0,0),false):=by
   unfold cH
   rw [if_neg (by simpa using hv),hask]
  refine ⟨T.aa,T.ac,raws,?_,(hnB.new hnC).trans hkD λk hlt e=>by omega,ho.rd,λk hk=>by have:=hf5 k hk;omega,?_⟩
  ·rw [hnx,hal,hr]
  ·rw [hnx]
   exact hv5.keep (Keep.refl _ _) λk hlt e=>.inl (by omega)
 |none=>
  rw [hask] at hTa
  refine ⟨_,_,_,_,rfl,cU (by simp;omega) ?_⟩
  refine ⟨_,(New.blk hnC hz3B).cell (i:=7) rfl,?_⟩
  refine aE (EZ (New.blk hnC hTB.blk)) ?_
  rintro v uD ⟨rfl,hnD⟩
  have hz2D:=New.blk hnD hz2C
  have hgl2:=hTB.gl
  refine ⟨_,rfl,?_⟩
  cases hm:(T.wrong || decide ((T.gl:Int)>0)) with
  |true=>
   refine G1 hz2D 6 0 λuE hnE=>zJ.nil (o:=(6,0)) (b:=true) ?_ (((hnB.new hnC).new hnD).trans hnE λk hlt e=>by omega)
   unfold cH
   rw [if_neg (by simpa using hv),hask]
   refine if_pos ?_
   rw [hTw] at hm
   rw [Bool.or_eq_true] at hm
   rcases hm with hm | hm
   ·exact .inl hm
   ·right
    intro e
    rw [e] at hgl2
    simp at hm hgl2
    omega
  |false=>
   refine Ge hz2D λuE hnE=>zJ.nil (o:=tt (runM j G)) (b:=true) ?_ (((hnB.new hnC).new hnD).trans hnE λk hlt e=>by omega)
   unfold cH
   rw [if_neg (by simpa using hv),hask]
   refine if_neg ?_
   rw [hTw] at hm
   obtain ⟨hm1,hm2⟩:=Bool.or_eq_false_iff.1 hm
   rintro (e | e)
   ·rw [e] at hm1;cases hm1
   ·apply e
    apply List.eq_nil_of_length_eq_zero
    simp at hm2 <;> omega
end Go.Proofs.YtegepanmkjemjaaGreat
namespace Go.Proofs.YtegepanmkjemjaaGreat
open Go.Eng
def VOk (v:Verb):Prop:=1≤v.v.count
theorem VOk.pieces {v:Verb} (h:VOk v):0<v.v.pieces.length:=by
 refine List.length_pos_iff.2 (uY _ _ _ h ?_)
 unfold VOk at h
 omega
structure bR (p:Pair):Prop where
 vok:∀ v ∈ p.verbs,VOk v
 idle:p.verbs=[]→p.executed=0
 zero:p.executed=0→p.words=[]
 rdy:p.rdy
theorem bR.done {p:Pair} (h:bR p):bR p.done:=by
 refine ⟨λv hv=>h.vok v (List.mem_of_mem_tail hv),λ_=>rfl,λ_=>rfl,?_⟩
 intro x xs hx
 have hm:x ∈ p.verbs.tail:=by rw [show p.verbs.tail=x::xs from hx];exact List.mem_cons_self
 exact (h.vok x (List.mem_of_mem_tail hm)).pieces
theorem bR.step {p:Pair} (h:bR p) (n:aP):bR (p.step n).1:=by
 unfold Pair.step
 split
 ·exact h
 ·rename_i x xs hx
  dsimp only
  split
  ·exact h.done
  ·split
   ·rename_i hlt
    refine ⟨h.vok,λe=>?_,λe=>by simp at e,?_⟩
    ·rw [hx] at e;cases e
    ·intro y ys hy
     have:x=y:=by
      have h1:p.verbs=y::ys:=hy
      rw [hx] at h1
      exact (List.cons.inj h1).1
     subst this
     exact hlt
   ·exact h.done
theorem bR.post {p:Pair} (h:bR p) {v:Verb} (hv:VOk v):bR { p with verbs:=p.verbs++[v] }:=by
 refine ⟨λx hx=>?_,λe=>by simp at e,h.zero,?_⟩
 ·rcases List.mem_append.1 hx with h1 | h1
  ·exact h.vok x h1
  ·simp at h1;rw [h1];exact hv
 ·intro x xs hx
  cases hp:p.verbs with
  |nil=>
   simp [hp] at hx
   rw [←hx.1]
   show p.executed<_
   rw [h.idle hp]
   exact hv.pieces
  |cons y ys=>
   simp [hp] at hx
   rw [←hx.1]
   exact h.rdy y ys hp
theorem wR (p:Pair) (n:aP):(p.step n).1.client=p.client∧(p.step n).1.inc=p.inc∧(p.step n).1.node=p.node:=by
 unfold Pair.step
 split
 ·exact ⟨rfl,rfl,rfl⟩
 ·dsimp only
  split
  ·exact ⟨rfl,rfl,rfl⟩
  ·split<;>exact ⟨rfl,rfl,rfl⟩
theorem zK (p:Pair) (n:aP):((p.step n).2.2=none∧(p.step n).1.verbs=p.verbs)∨(∃ d,(p.step n).2.2=some d∧(p.step n).1.verbs=p.verbs.tail∧p.verbs≠[]):=by
 unfold Pair.step
 split
 ·exact .inl ⟨rfl,rfl⟩
 ·rename_i hx
  dsimp only
  split
  ·exact .inr ⟨_,rfl,rfl,by rw [hx];simp⟩
  ·split
   ·exact .inl ⟨rfl,rfl⟩
   ·exact .inr ⟨_,rfl,rfl,by rw [hx];simp⟩
theorem vv {p:Pair} {x:Verb} {n:aP} (h:p.refusal x n=0):n.down=false∧x.v.valid 5 (n.words.length / 8:Nat)=0:=by
 unfold Pair.refusal at h
 split at h
 ·omega
 ·rename_i hd
  split at h
  ·omega
  ·rename_i hv
   exact ⟨by simpa using hd,by omega⟩
theorem wS {x:Verb} {n:aP} (hv:x.v.valid 5 (n.words.length / 8:Nat)=0) {pc:Int×Int} (hp:pc ∈ x.v.pieces):(exec x pc n).1.words.length=n.words.length:=by
 obtain ⟨hc,hi⟩:=oJ hv
 obtain ⟨i1,i2,i3,i4,i5,i6,i7,i8,i9,i10,i11⟩:=gz hi
 unfold aL.l1 at i10
 have hin:=kx _ _ _ (by omega) pc hp
 unfold exec
 split
 ·rfl
 ·split
  ·simp only [aP.write,List.length_append,List.length_take,List.length_drop]
   omega
  ·split
   ·simp only [aP.cas]
    split<;>simp
   ·split
    ·simp [aP.add]
    ·rfl
theorem yD {p:Pair} (h:bR p) (n:aP):(p.step n).2.1.words.length=n.words.length:=by
 unfold Pair.step
 split
 ·rfl
 ·rename_i x xs hx
  dsimp only
  split
  ·rfl
  ·rename_i hr
   have hv:=(vv (p:=p) (x:=x) (n:=n) (by omega)).2
   have hlt:=h.rdy x xs hx
   have hm:x.v.pieces.getD p.executed (0,0) ∈ x.v.pieces:=by
    rw [List.getD_eq_getElem?_getD,List.getElem?_eq_getElem hlt]
    exact List.getElem_mem _
   split
   ·exact wS hv hm
   ·exact wS hv hm
theorem sA:∀ {ls:List Lane} {j:Nat} {l l':Lane},ls[j]?=some l→pend (ls.set j l')+l.pair.verbs.length=pend ls+l'.pair.verbs.length
 | [],j,l,l',h=>by simp at h
 |a::ls,0,l,l',h=>by simp at h;subst h;simp [pend];omega
 |a::ls,j+1,l,l',h=>by
  have:=sA (ls:=ls) (j:=j) (l:=l) (l':=l') (by simpa using h)
  simp [pend] at this ⊢
  omega
theorem mA:∀ {ls:List Lane},pend ls=0→∀ l ∈ ls,l.pair.verbs=[]
 | [],_,l,h=>by simp at h
 |a::ls,h0,l,h=>by
  simp [pend] at h0
  rcases List.mem_cons.1 h with rfl | h
  ·exact h0.1
  ·exact mA (by simp [pend];exact h0.2) l h
structure Good (F:Fab):Prop where
 ok:vj F
 cl:∀ C ∈ F.clients,∀ l ∈ C.lanes,bR l.pair
 or:∀ p ∈ F.orphans,bR p
theorem Fab.cl_some {F:Fab} {c:Int} {C:Comp} (h:F.cl c=some C):0≤c∧F.clients[c.toNat]?=some C:=by
 unfold Fab.cl at h
 split at h
 ·cases h
 ·exact ⟨by omega,h⟩
theorem Good.setC {F:Fab} (h:Good F) {i:Nat} {C C':Comp} (hc:F.clients[i]?=some C) (h1:v8 F.nodes.length i C') (h2:∀ l ∈ C'.lanes,bR l.pair):Good { F with clients:=F.clients.set i C' }:=by
 refine ⟨⟨h.ok.lines,h.ok.nodes,h.ok.words,by simpa using h.ok.clients,λk D hD=>?_,h.ok.orphan⟩,λD hD=>?_,h.or⟩
 ·simp only [List.getElem?_set] at hD
  split at hD
  ·split at hD
   ·rename_i e _
    cases hD
    rw [←e]
    exact h1
   ·cases hD
  ·exact h.ok.client k D hD
 ·rcases List.mem_or_eq_of_mem_set hD with h3 | rfl
  ·exact h.cl D h3
  ·exact h2
theorem Good.setN {F:Fab} (h:Good F) (i:Nat) {n':aP} (hn:n'.words.length=F.lines * 8):Good { F with nodes:=F.nodes.set i n' }:=by
 refine ⟨⟨h.ok.lines,by simpa using h.ok.nodes,λn hm=>?_,h.ok.clients,by simpa using h.ok.client,by simpa using h.ok.orphan⟩,h.cl,h.or⟩
 rcases List.mem_or_eq_of_mem_set hm with h3 | rfl
 ·exact h.ok.words n h3
 ·exact hn
theorem Good.take {F:Fab} (h:Good F) (c:Int):Good (F.take c).2:=by
 unfold Fab.take
 cases hc:F.cl c with
 |none=>exact h
 |some C=>
  obtain ⟨h0,h1⟩:=Fab.cl_some hc
  dsimp only
  split
  ·exact h
  ·cases hb:C.batch with
   |none=>exact h
   |some ds=>
    dsimp only
    split
    ·exact h
    ·rename_i hw
     have hC:=h.ok.client _ _ h1
     have hp:pend C.lanes=0:=by have:=hC.waiting;omega
     refine h.setC h1 ⟨hC.inc,hC.lanes,λj l hl=>?_,hC.waiting,?_,λds' e=>by cases e⟩ (h.cl C (List.mem_of_getElem? h1))
     ·have hL:=hC.lane j l hl
      have hve:=mA hp l (List.mem_of_getElem? hl)
      refine ⟨hL.client,hL.inc,hL.node,hL.places,λk hk=>?_,hL.rdy⟩
      have:=hL.places
      rw [hve] at this
      have:l.places=[]:=List.eq_nil_of_length_eq_zero this
      rw [this] at hk
      cases hk
     ·have:=hC.waiting
      have h3:C.waiting=0:=by omega
      rw [show ({ C with batch:=none }:Comp).waiting=C.waiting from rfl,h3]
      exact ⟨Nat.zero_le _,by simp⟩
theorem C6 {F:Fab} (h:Good F) {c:Int} {ds:List Done} (ht:(F.take c).1=some ds):ds.length≤1024:=by
 unfold Fab.take at ht
 cases hc:F.cl c with
 |none=>rw [hc] at ht;cases ht
 |some C=>
  rw [hc] at ht
  dsimp only at ht
  obtain ⟨h0,h1⟩:=Fab.cl_some hc
  split at ht
  ·cases ht
  ·cases hb:C.batch with
   |none=>rw [hb] at ht;cases ht
   |some es=>
    rw [hb] at ht
    dsimp only at ht
    split at ht
    ·cases ht
    ·cases ht
     have:=(h.ok.client _ _ h1).batch.2
     rw [hb] at this
     exact this
structure PInv (n i:Nat) (inc:Int) (k:Nat) (ls:List Lane):Prop where
 len:ls.length=n
 lane:∀ (j:Nat) (l:Lane),ls[j]?=some l→AJ i inc j k l∧bR l.pair
 pend:pend ls=k
def rz (l:Lane) (k:Nat) (v:Verb):Lane:=⟨{ l.pair with verbs:=l.pair.verbs++[v] },l.places++[k]⟩
theorem ue {C:Comp} {k:Nat} {v:Verb} {l:Lane} (hg:C.lanes[v.node.toNat]?=some l):(C.postOne k v).lanes=C.lanes.set v.node.toNat (rz l k v):=by
 show C.lanes.modify _ _=_
 apply List.ext_getElem?
 intro j
 obtain ⟨h1,h2⟩:=List.getElem?_eq_some_iff.1 hg
 rw [List.getElem?_modify,List.getElem?_set]
 by_cases e:v.node.toNat=j
 ·subst e
  simp [h1,h2,rz]
 ·simp [e]
theorem x3 {α:Type} {l:List α} {i j:Nat} {x y:α} (hi:i<l.length) (h:(l.set i x)[j]?=some y):(i=j∧y=x)∨(i≠j∧l[j]?=some y):=by
 by_cases e:i=j
 ·subst e
  rw [List.getElem?_set_self hi] at h
  exact .inl ⟨rfl,(Option.some.inj h).symm⟩
 ·rw [List.getElem?_set_ne e] at h
  exact .inr ⟨e,h⟩
theorem PInv.post {n i:Nat} {inc:Int} {k:Nat} {C:Comp} (h:PInv n i inc k C.lanes) {v:Verb} (h0:0≤v.node) (h1:v.node<n) (hv:VOk v):PInv n i inc (k+1) (C.postOne k v).lanes:=by
 have hlt:v.node.toNat<C.lanes.length:=by rw [h.len];omega
 have hg:C.lanes[v.node.toNat]?=some C.lanes[v.node.toNat]:=List.getElem?_eq_getElem hlt
 rw [ue hg]
 generalize C.lanes[v.node.toNat]=l0 at hg
 refine ⟨by simpa using h.len,λj l hl=>?_,?_⟩
 ·rcases x3 hlt hl with ⟨e,rfl⟩ | ⟨e,hl⟩
  ·obtain ⟨hL,hP⟩:=h.lane _ _ hg
   refine ⟨⟨hL.client,hL.inc,by rw [←e];exact hL.node,by simp [rz,hL.places],λq hq=>?_,(hP.post hv).rdy⟩,hP.post hv⟩
   rcases List.mem_append.1 hq with h3 | h3
   ·have:=hL.low q h3;omega
   ·simp at h3 <;> omega
  ·obtain ⟨hL,hP⟩:=h.lane j l hl
   exact ⟨⟨hL.client,hL.inc,hL.node,hL.places,λq hq=>by have:=hL.low q hq;omega,hL.rdy⟩,hP⟩
 ·have:=sA (l':=rz l0 k v) hg
  have h4:(rz l0 k v).pair.verbs.length=l0.pair.verbs.length+1:=by simp [rz]
  have h3:=h.pend
  omega
theorem PInv.posts {n i:Nat} {inc:Int}:∀ (vs:List Verb) (k:Nat) (C:Comp),PInv n i inc k C.lanes→(∀ v ∈ vs,0≤v.node∧v.node<n∧VOk v)→PInv n i inc (k+vs.length) (C.postFrom k vs).lanes
 | [],k,C,h,_=>h
 |v::vs,k,C,h,hv=>by
  obtain ⟨h0,h1,h2⟩:=hv v List.mem_cons_self
  have:=PInv.posts vs (k+1) (C.postOne k v) (h.post h0 h1 h2) λx hx=>hv x (List.mem_cons_of_mem _ hx)
  rw [Comp.postFrom,List.length_cons,Nat.add_comm vs.length 1,←Nat.add_assoc]
  exact this
theorem mW:∀ (vs:List Verb) (k:Nat) (C:Comp),(C.postFrom k vs).alive=C.alive∧(C.postFrom k vs).inc=C.inc
 | [],_,_=>⟨rfl,rfl⟩
 |v::vs,k,C=>by rw [Comp.postFrom];exact mW vs (k+1) (C.postOne k v)
theorem pC {nodes lines:Int}:∀ {vs:List Verb},eR nodes lines vs=0→∀ v ∈ vs,v.v.valid nodes lines=0
 | [],_,v,hv=>by simp at hv
 |x::vs,h,v,hv=>by
  unfold eR at h
  split at h
  ·rename_i hx;exact absurd h hx
  ·rename_i hx
   rcases List.mem_cons.1 hv with rfl | hv
   ·omega
   ·exact pC h v hv
theorem Good.post {F:Fab} (h:Good F) (c:Int) (vs:List Verb):Good (F.post c vs).2:=by
 unfold Fab.post
 cases hc:F.cl c with
 |none=>exact h
 |some C=>
  obtain ⟨h0,h1⟩:=Fab.cl_some hc
  have hC:=h.ok.client _ _ h1
  dsimp only
  split
  ·exact h
  rename_i ha
  split
  ·exact h
  rename_i hb
  split
  ·exact h
  rename_i hv0
  split
  ·exact h
  rename_i hv1
  split
  ·exact h
  rename_i hfb
  have hbn:C.batch=none:=by cases hB:C.batch with | none=>rfl | some x=>rw [hB] at hb;simp at hb
  have hal:C.alive=true:=by simpa using ha
  have hw0:C.waiting=0:=by have:=hC.batch.1;rw [hbn] at this;simpa using this
  have hp0:pend C.lanes=0:=by rw [←hC.waiting];exact hw0
  have hvs:∀ v ∈ vs,0≤v.node∧v.node<F.nodes.length∧VOk v:=by
   intro v hv
   obtain ⟨g1,g2⟩:=oJ (pC (Decidable.not_not.1 hfb) v hv)
   obtain ⟨i1,i2,i3,i4,i5,i6,i7⟩:=gz g2
   exact ⟨i5,i6,g1⟩
  have hln:C.lanes.length=F.nodes.length:=by rw [hC.lanes,hal];rfl
  have hinv:PInv F.nodes.length c.toNat C.inc 0 C.lanes:=by
   refine ⟨hln,λj l hl=>?_,hp0⟩
   have hL:=hC.lane j l hl
   refine ⟨⟨hL.client,hL.inc,hL.node,hL.places,λq hq=>?_,hL.rdy⟩,h.cl C (List.mem_of_getElem? h1) l (List.mem_of_getElem? hl)⟩
   have h3:=hL.low q hq
   rw [hbn] at h3
   simp at h3
  have hfin:=PInv.posts vs 0 C hinv hvs
  rw [Nat.zero_add] at hfin
  obtain ⟨s1,s2⟩:=mW vs 0 C
  refine h.setC h1 ⟨?_,?_,λj l hl=>?_,?_,?_,?_⟩ λl hl=>?_
  ·show 0≤(C.postFrom 0 vs).inc∧(C.postFrom 0 vs).inc≤59
   rw [s2];exact hC.inc
  ·show (C.postFrom 0 vs).lanes.length=if (C.postFrom 0 vs).alive then _ else _
   rw [s1,hal,hfin.len];rfl
  ·have:=(hfin.lane j l hl).1
   show AJ c.toNat (C.postFrom 0 vs).inc j _ l
   rw [s2]
   simpa [Comp.posted'] using this
  ·show vs.length=pend (C.postFrom 0 vs).lanes
   rw [hfin.pend]
  ·show vs.length≤_∧_
   simp [Comp.posted']
   omega
  ·intro ds hds
   simp [Comp.posted'] at hds
   rw [←hds]
   simp
   omega
  ·obtain ⟨j,hj⟩:=List.mem_iff_getElem?.1 hl
   exact (hfin.lane j l hj).2
theorem v8.comes {n i:Nat} {C:Comp} (hC:v8 n i C) {j:Nat} {l:Lane} (hl:C.lanes[j]?=some l) (nd:aP) (hP:bR l.pair):v8 n i (C.comes j l (l.pair.step nd).1 (l.pair.step nd).2.2):=by
 have hL:=hC.lane j l hl
 have hlt:=(List.getElem?_eq_some_iff.1 hl).1
 obtain ⟨s1,s2,s3⟩:=wR l.pair nd
 have hPs:=hP.step nd
 rcases zK l.pair nd with ⟨e1,e2⟩ | ⟨d,e1,e2,e3⟩
 ·rw [e1]
  refine ⟨hC.inc,?_,λk l' hl'=>?_,?_,hC.batch,hC.full⟩
  ·show (C.lanes.set j _).length=_
   rw [List.length_set]
   exact hC.lanes
  ·rcases x3 hlt hl' with ⟨e,rfl⟩ | ⟨e,hl'⟩
   ·exact ⟨s1.trans hL.client,s2.trans hL.inc,by rw [←e];exact s3.trans hL.node,by show l.places.length=(l.pair.step nd).1.verbs.length;rw [hL.places,e2],hL.low,hPs.rdy⟩
   ·exact hC.lane k l' hl'
  ·have:=sA (l':={ l with pair:=(l.pair.step nd).1 }) hl
   show C.waiting=pend (C.lanes.set j { l with pair:=(l.pair.step nd).1 })
   have hw:=hC.waiting
   have h5:({ l with pair:=(l.pair.step nd).1 }:Lane).pair.verbs.length=l.pair.verbs.length:=by show (l.pair.step nd).1.verbs.length=_;rw [e2]
   omega
 ·rw [e1]
  have hpl:0<l.pair.verbs.length:=List.length_pos_iff.2 e3
  have hbl:((C.comes j l (l.pair.step nd).1 (some d)).batch.getD []).length=(C.batch.getD []).length:=by
   cases hb:C.batch<;>simp [Comp.comes,hb]
  refine ⟨hC.inc,?_,λk l' hl'=>?_,?_,?_,?_⟩
  ·show (C.lanes.set j _).length=_
   rw [List.length_set]
   exact hC.lanes
  ·rw [hbl]
   rcases x3 hlt hl' with ⟨e,rfl⟩ | ⟨e,hl'⟩
   ·refine ⟨s1.trans hL.client,s2.trans hL.inc,by rw [←e];exact s3.trans hL.node,?_,λq hq=>hL.low q (List.mem_of_mem_tail hq),hPs.rdy⟩
    show l.places.tail.length=(l.pair.step nd).1.verbs.length
    rw [e2,List.length_tail,List.length_tail,hL.places]
   ·exact hC.lane k l' hl'
  ·have:=sA (l':=⟨(l.pair.step nd).1,l.places.tail⟩) hl
   show C.waiting - 1=pend (C.lanes.set j ⟨(l.pair.step nd).1,l.places.tail⟩)
   have hw:=hC.waiting
   have h5:(⟨(l.pair.step nd).1,l.places.tail⟩:Lane).pair.verbs.length=l.pair.verbs.length - 1:=by show (l.pair.step nd).1.verbs.length=_;rw [e2,List.length_tail]
   omega
  ·rw [hbl]
   have:=hC.batch
   show C.waiting - 1≤_∧_
   omega
  ·intro ds hds
   cases hb:C.batch with
   |none=>simp [Comp.comes,hb] at hds
   |some es=>
    simp [Comp.comes,hb] at hds
    rw [←hds,List.length_set]
    exact hC.full es hb
theorem zL {C:Comp} {j:Nat} {l:Lane} {nd:aP} (hP:bR l.pair) (hc:∀ l ∈ C.lanes,bR l.pair):∀ l' ∈ (C.comes j l (l.pair.step nd).1 (l.pair.step nd).2.2).lanes,bR l'.pair:=by
 intro l' hl'
 cases hd:(l.pair.step nd).2.2 with
 |none=>
  rw [hd] at hl'
  rcases List.mem_or_eq_of_mem_set hl' with h | rfl
  ·exact hc l' h
  ·exact hP.step nd
 |some d=>
  rw [hd] at hl'
  rcases List.mem_or_eq_of_mem_set hl' with h | rfl
  ·exact hc l' h
  ·exact hP.step nd
theorem Good.orphans {F:Fab} (h:Good F) {os:List Pair} (ho:∀ p ∈ os,(0≤p.node∧p.node<F.nodes.length)∧bR p):Good { F with orphans:=os }:=
 ⟨⟨h.ok.lines,h.ok.nodes,h.ok.words,h.ok.clients,h.ok.client,λp hp=>⟨(ho p hp).1.1,(ho p hp).1.2,(ho p hp).2.rdy⟩⟩,h.cl,λp hp=>(ho p hp).2⟩
theorem Good.orph {F:Fab} (h:Good F):∀ p ∈ F.orphans,(0≤p.node∧p.node<F.nodes.length)∧bR p:=λp hp=>⟨⟨(h.ok.orphan p hp).1,(h.ok.orphan p hp).2.1⟩,h.or p hp⟩
theorem Good.drop {F:Fab} (h:Good F) (c:Int):Good (F.drop c).2:=by
 unfold Fab.drop
 split
 ·exact h
 ·exact h.orphans λp hp=>h.orph p (List.mem_of_mem_eraseIdx hp)
theorem Good.stepOrphan {F:Fab} (h:Good F) (i:Nat):Good (F.stepOrphan i).2:=by
 unfold Fab.stepOrphan
 split
 ·exact h
 ·rename_i p hp
  split
  ·exact h
  ·rename_i n hn
   dsimp only
   have hm:=List.mem_of_getElem? hp
   have hP:=h.or p hm
   have hw:=h.ok.words n (List.mem_of_getElem? hn)
   have h2:=h.setN p.node.toNat (n':=(p.step n).2.1) (by rw [yD hP];exact hw)
   have hno:=(h.orph p hm).1
   have hs:=(wR p n).2.2
   refine h2.orphans (os:=if (p.step n).1.verbs.length=0 then F.orphans.eraseIdx i else F.orphans.set i (p.step n).1) λq hq=>?_
   have hlen:(F.nodes.set p.node.toNat (p.step n).2.1).length=F.nodes.length:=by simp
   show (0≤q.node∧q.node<((F.nodes.set p.node.toNat (p.step n).2.1).length:Int))∧_
   rw [hlen]
   split at hq
   ·exact h.orph q (List.mem_of_mem_eraseIdx hq)
   ·rcases List.mem_or_eq_of_mem_set hq with h3 | rfl
    ·exact h.orph q h3
    ·exact ⟨by rw [hs];exact hno,hP.step n⟩
theorem Good.step {F:Fab} (h:Good F) (x:ez):Good (F.step x).2:=by
 unfold Fab.step
 split
 ·exact h.stepOrphan _
 split
 ·exact h
 split
 ·exact h
 rename_i C hc
 obtain ⟨h0,h1⟩:=Fab.cl_some hc
 split
 ·exact h
 split
 ·rename_i l n hl hn
  split
  ·exact h
  dsimp only
  have hm:=List.mem_of_getElem? h1
  have hP:=h.cl C hm l (List.mem_of_getElem? hl)
  have hw:=h.ok.words n (List.mem_of_getElem? hn)
  have h2:=h.setN x.node.toNat (n':=(l.pair.step n).2.1) (by rw [yD hP];exact hw)
  refine h2.setC h1 ?_ (zL hP (h.cl C hm))
  have:=(h.ok.client _ _ h1).comes hl n hP
  simpa using this
 ·exact h
theorem Good.die {F:Fab} (h:Good F) (c:Int):Good (F.die c).2:=by
 unfold Fab.die
 cases hc:F.cl c with
 |none=>exact h
 |some C=>
  obtain ⟨h0,h1⟩:=Fab.cl_some hc
  have hC:=h.ok.client _ _ h1
  dsimp only
  split
  ·exact h
  ·have h2:=h.setC h1 (C':={ C with alive:=false,lanes:=[],batch:=none,waiting:=0 }) ⟨hC.inc,rfl,λj l hl=>by simp at hl,rfl,by simp,λds e=>by cases e⟩ (λl hl=>by simp at hl)
   refine h2.orphans λp hp=>?_
   rcases List.mem_append.1 hp with h3 | h3
   ·exact h.orph p h3
   ·obtain ⟨h4,h5⟩:=List.mem_filter.1 h3
    obtain ⟨l,hl,rfl⟩:=List.mem_map.1 h4
    obtain ⟨j,hj⟩:=List.mem_iff_getElem?.1 hl
    have hL:=hC.lane j l hj
    have hjl:=(List.getElem?_eq_some_iff.1 hj).1
    have hnl:=hC.lanes
    refine ⟨?_,h.cl C (List.mem_of_getElem? h1) l hl⟩
    rw [hL.node]
    split at hnl
    ·exact ⟨by omega,by show (j:Int)<(F.nodes.length:Int);omega⟩
    ·omega
theorem uG (n i:Nat) (inc:Int) (j:Nat) (l:Lane) (h:(dY n i inc)[j]?=some l):l=mi i inc j∧j<n:=by
 unfold dY at h
 rw [List.getElem?_map] at h
 cases hr:(List.range n)[j]? with
 |none=>rw [hr] at h;cases h
 |some k=>
  rw [hr] at h
  obtain ⟨h1,h2⟩:=List.getElem?_eq_some_iff.1 hr
  simp at h1 h2 h
  subst h2
  exact ⟨h.symm,h1⟩
theorem zM (n i:Nat) (inc:Int):pend (dY n i inc)=0:=by
 unfold dY pend
 rw [List.map_map]
 induction n with
 |zero=>rfl
 |succ n ih=>rw [List.range_succ,List.map_append,List.sum_append,ih];rfl
theorem Good.fresh {n c lines:Nat} (hn:1≤n∧n≤5) (hc:1≤c∧c≤6) (hl:98≤lines∧lines≤256):Good (Fab.fresh n c lines):=by
 have hg:∀ (j:Nat) (l:Lane) (i:Nat),(dY n i 1)[j]?=some l→bR l.pair:=by
  intro j l i hl
  obtain ⟨rfl,_⟩:=uG _ _ _ _ _ hl
  exact ⟨λv hv=>by simp [mi] at hv,λ_=>rfl,λ_=>rfl,λx xs e=>by simp [mi] at e⟩
 refine ⟨⟨by simp [Fab.fresh];omega,by simp [Fab.fresh];omega,λx hx=>?_,by simp [Fab.fresh];omega,λi C hC=>?_,λp hp=>by simp [Fab.fresh] at hp⟩,λC hC l hl=>?_,λp hp=>by simp [Fab.fresh] at hp⟩
 ·simp [Fab.fresh] at hx
  rw [hx.2]
  show (fmt lines n).length=lines * 8
  exact A6 _ _
 ·have hC':((List.range c).map (nq n))[i]?=some C:=hC
  rw [List.getElem?_map] at hC'
  cases hr:(List.range c)[i]? with
  |none=>rw [hr] at hC';cases hC'
  |some k=>
   rw [hr] at hC'
   obtain ⟨h1,h2⟩:=List.getElem?_eq_some_iff.1 hr
   simp at h1 h2 hC'
   subst h2
   rw [←hC']
   refine ⟨by simp [nq],by simp [nq,dY,Fab.fresh],λj l hl=>?_,?_,by simp [nq],λds e=>by simp [nq] at e⟩
   ·have hgl:=hg j l i hl
    obtain ⟨rfl,_⟩:=uG _ _ _ _ _ hl
    exact ⟨rfl,rfl,rfl,rfl,λk hk=>by simp [mi] at hk,hgl.rdy⟩
   ·show 0=pend (dY n i 1)
    rw [zM]
 ·simp [Fab.fresh] at hC
  obtain ⟨i,_,rfl⟩:=hC
  obtain ⟨j,hj⟩:=List.mem_iff_getElem?.1 hl
  exact hg j l i hj
end Go.Proofs.YtegepanmkjemjaaGreat
namespace Go.Proofs.YtegepanmkjemjaaGreat
open Go.Proofs.Tryz
open Go.Eng
structure TW (A:Nat→Prop) (χ:Nat→Tag) (w:World) (fb:Nat) (L:Nat→Prop) (u:World) (B:Nat→Prop) (ξ:Nat→Tag) (X:FabX):Prop where
 next:Next A B χ ξ w u
 fab:aY (λk=>B k∨L k) ξ u fb X
 loc:∀ k,L k→w.heap.size≤k∧k<u.heap.size∧ξ k=.imm
theorem TW.start {A:Nat→Prop} {χ:Nat→Tag} {w w2:World} {fb:Nat} {X:FabX} (h:aY A χ w fb X) (hn:New w w2) {L:Nat→Prop} (hL:∀ k,L k→w.heap.size≤k∧k<w2.heap.size):TW A χ w fb L w2 A χ X:=by
 refine ⟨h.refl hn,?_,λk hk=>⟨(hL k hk).1,(hL k hk).2,h.fresh (hL k hk).1⟩⟩
 refine (h.widen hn).recolor (λk hk=>?_) λk hk=>.inl (h.avoid k hk)
 rcases hk with hk | hk
 ·exact .inl hk
 ·exact .inr (hL k hk)
theorem TW.op {A:Nat→Prop} {χ:Nat→Tag} {w u u':World} {fb:Nat} {L B:Nat→Prop} {ξ:Nat→Tag} {X:FabX} (t:TW A χ w fb L u B ξ X) {F:Fab} {K:(Nat→Prop)→Prop} (p:dD (λk=>B k∨L k) ξ u fb F u' K) :
  ∃ B' ξ' X',TW A χ w fb L u' B' ξ' X'∧X'.pure=F∧K (λk=>B' k∨L k)∧Keep (λk=>B k∨L k) u u'∧(∀ k,k<u.heap.size→B' k∨L k→B k∨L k)∧(∀ k,L k→u'.heap[k]?=u.heap[k]?):=by
 obtain ⟨A',ξ',X',n,hF,hX,hK⟩:=p
 have hA:A'=λk=>iQ A χ ξ' w k∨L k:=by
  funext k
  apply propext
  rw [n.iff k]
  constructor
  ·rintro (h1 | ⟨h1,h2 | h2,h3⟩)
   ·exact .inl (.inl h1)
   ·rcases (t.next.iff k).1 h2 with h4 | h4
    ·exact absurd h3 h4
    ·exact .inl (.inr h4)
   ·exact .inr h2
  ·rintro ((h1 | ⟨h1,h2,h3⟩) | h1)
   ·exact .inl h1
   ·refine .inr ⟨Nat.lt_of_lt_of_le h1 t.next.keep.size,.inl ((t.next.iff k).2 (.inr ⟨h1,h2,h3⟩)),?_⟩
    by_cases hc:ξ k=.imm
    ·exact hc
    ·exact absurd h3 (t.next.grow k h1 hc)
   ·obtain ⟨_,h2,h3⟩:=t.loc k h1
    exact .inr ⟨h2,.inr h1,h3⟩
 have hkB:Keep (λk=>B k∨L k) u u':=n.keep.mono λk _ hc=>t.fab.avoid k hc
 refine ⟨iQ A χ ξ' w,ξ',X',⟨⟨t.next.keep.trans n.keep λk hk hc=>t.next.grow k hk hc,λk hk hc=>t.next.grow k hk (n.grow k (Nat.lt_of_lt_of_le hk t.next.keep.size) hc),λk=>Iff.rfl⟩,hA▸hF,λk hk=>?_⟩,hX,hA▸hK,hkB,λk hk hc=>?_,λk hk=>?_⟩
 ·obtain ⟨h1,h2,h3⟩:=t.loc k hk
  refine ⟨h1,Nat.lt_of_lt_of_le h2 n.keep.size,?_⟩
  by_cases hc:ξ' k=.imm
  ·exact hc
  ·exact absurd h3 (n.grow k h2 hc)
 ·have hc':A' k:=by rw [hA];exact hc
  rcases (n.iff k).1 hc' with h4 | h4
  ·exact t.fab.avoid k (n.grow k hk h4)
  ·exact h4.2.1
 ·obtain ⟨_,h2,h3⟩:=t.loc k hk
  exact n.keep.block k h2 λhc=>hc h3
theorem TW.local {A:Nat→Prop} {χ:Nat→Tag} {w u u':World} {fb:Nat} {L B:Nat→Prop} {ξ:Nat→Tag} {X:FabX} (t:TW A χ w fb L u B ξ X) {S:Nat→Prop} (hk:Keep S u u') (hS:∀ k,S k→L k):TW A χ w fb L u' B ξ X:=by
 refine ⟨⟨t.next.keep.trans hk λk hlt hs=>?_,t.next.grow,t.next.iff⟩,t.fab.other hk λk hs=>⟨.inr (hS k hs),(t.loc k (hS k hs)).2.2⟩,λk hl=>⟨(t.loc k hl).1,Nat.lt_of_lt_of_le (t.loc k hl).2.1 hk.size,(t.loc k hl).2.2⟩⟩
 have:=(t.loc k (hS k hs)).1
 omega
theorem TW.new {A:Nat→Prop} {χ:Nat→Tag} {w u u':World} {fb:Nat} {L B:Nat→Prop} {ξ:Nat→Tag} {X:FabX} (t:TW A χ w fb L u B ξ X) (hn:New u u'):TW A χ w fb L u' B ξ X:=
 t.local hn λ_ h=>h.elim
theorem TW.done {A:Nat→Prop} {χ:Nat→Tag} {w u:World} {fb:Nat} {L B:Nat→Prop} {ξ:Nat→Tag} {X:FabX} (t:TW A χ w fb L u B ξ X) {K:(Nat→Prop)→Prop} (hK:K B):dD A χ w fb X.pure u K:=
 ⟨B,ξ,X,t.next,t.fab.recolor (λk hk=>.inl hk) (λk hk=>(t.next.iff k).2 (.inl hk)),rfl,hK⟩
theorem Off.keep {A A':Nat→Prop} {w:World} {a:Option Addr} {xs:List Value} (hr:Rd w a xs) (ho:xs=[]∨Off A a) (hM:∀ k,k<w.heap.size→A' k→A k):xs=[]∨Off A' a:=by
 rcases ho with ho | ho
 ·exact .inl ho
 ·by_cases hx:xs=[]
  ·exact .inl hx
  ·refine .inr ?_
   cases a with
   |none=>trivial
   |some a=>
    intro hm
    exact ho (hM _ (hr.lt hx) hm)
theorem mS.keep {A A':Nat→Prop} {w w':World} {a:Option Addr} {G:List (List Done)} (h:mS A w a G) (hk:Keep A w w') (hM:∀ k,k<w.heap.size→A' k→A k):mS A' w' a G:=by
 obtain ⟨rows,hl,hr,ho,hd⟩:=h
 refine ⟨rows,hl,hr.keep hk ho,Off.keep hr ho hM,λi r ds h5 h6=>?_⟩
 obtain ⟨h1,h2,h3,h4⟩:=hd i r ds h5 h6
 exact ⟨h1.keep hk h2,Off.keep h1 h2 hM,h3.keep hk hM,h4⟩
abbrev TSS:TypeId:=46
abbrev TSD:TypeId:=99
theorem wT (rows:List Row):∀ u ∈ qK rows,single u=true:=by
 intro u hu
 simp only [qK,List.mem_map] at hu
 obtain ⟨r,_,rfl⟩:=hu
 rfl
theorem C7 {B:Nat→Prop} {z:World} {ga:Option Addr} {gc:Nat} {G:List (List Done)} (hg:mS B z ga G) (hl:G.length≤1000000) {b:Nat} {raw:List bF} {ds:List Done} {c:Nat} (hb:Blk z b (kA raw).flatten TD) (hds:Ds B z raw ds) (hnb:¬ B b) (hdl:ds.length≤1024) (hlow:∀ k,B k→k<z.heap.size) {n:Nat} (hn:n=raw.length)
  {K:Nat→Option Addr→Nat→Nat→World→Prop} (hk:∀ b3 ap cap z',z.heap.size≤b3→mS B z' ap (G++[ds])→G.length+1≤cap→New z z'→K b3 ap (G.length+1) cap z') :
  ∃ (ap:Option Addr) (ap_len ap_cap:Nat),∃ w9,(Builtin.append_ #[TSS,TSS] TSS #[(.slice none 0 0),(.slice ga G.length gc)]).run prog z=.ok (.slice ap ap_len ap_cap) w9∧∀ b3 w10,b3=w9.heap.size→w10=w9.alloc (.cells #[.slice (some ⟨b,0,none⟩) n c] TSD)→
   ∃ (ap1:Option Addr) (ap1_len ap1_cap:Nat),∃ w11,(Builtin.append_ #[TSS,TSS] TSS #[(.slice ap ap_len ap_cap),(.slice (some ⟨b3,0,none⟩) 1 1)]).run prog w10=.ok (.slice ap1 ap1_len ap1_cap) w11∧K b3 ap1 ap1_len ap1_cap w11:=by
 obtain ⟨inf,hi,hz,hsz,hby⟩:=j8 (T:=TSD) (z:=.slice none 0 0) (n:=1) (m:=24) (by kernel_rfl)
 obtain ⟨rows,hrl,hr,ho,hd⟩:=hg
 have hon:Owns z TSD inf.size none 0 0 []:=Owns.nil _ _ _
 have hrv:(qK rows).length=G.length:=by simp [qK,hrl]
 obtain ⟨ap,apc,z9,hrun,hown,hk9,hap⟩:=Owns.append (P:=prog) (t:=TSS) (ty:=TSS) Tryz.underlying46 hi hz (by rw [hsz];rfl) (by omega) hon (s:=ga) (m:=G.length) (c:=gc) (news:=qK rows) (by rw [hsz,hrv];omega) hr (wT rows) (by omega) (by rw [hby];omega)
 have hn9:New z z9:=hk9.mono λk _ hb=>by obtain ⟨o,ho⟩:=hb;cases ho
 have hfr9:∀ k,isB ap k→z.heap.size≤k:=λk hk=>by
  rcases hap with e | e
  ·rw [e] at hk;obtain ⟨o,ho⟩:=hk;cases ho
  ·rw [e] at hk;obtain ⟨o,ho⟩:=hk;simp at ho <;> omega
 refine ⟨ap,0+G.length,apc,z9,hrun,?_⟩
 rw [Nat.zero_add,List.nil_append] at hown
 rw [Nat.zero_add]
 refine push_k Tryz.underlying46 hi hz (by rw [hsz];rfl) (by omega) hown (vs:=[.slice (some ⟨b,0,none⟩) n c]) (by rw [hsz];rfl) (by intro v hv;simp at hv;subst hv;rfl) (by omega) (by omega) ?_
 intro b3 ap1 cap1 z11 hb3 ho11 hk11 hap1
 have hn11:New z z11:=qd hn9 hk11 hfr9
 have hs9:=hn9.size
 refine hk b3 ap1 cap1 z11 (by omega) ?_ ho11.le hn11
 have hfr11:∀ k,isB ap1 k→z.heap.size≤k:=λk hk=>by
  rcases hap1 k hk with h1 | h1
  ·exact hfr9 k h1
  ·omega
 have hrows:qK rows++[.slice (some ⟨b,0,none⟩) n c]=qK (rows++[⟨some ⟨b,0,none⟩,c,raw⟩]):=by simp [qK,hn]
 have hrd:Rd z11 ap1 (qK (rows++[⟨some ⟨b,0,none⟩,c,raw⟩])):=by rw [←hrows];exact ho11.rd
 refine ⟨rows++[⟨some ⟨b,0,none⟩,c,raw⟩],by simp [hrl],hrd,qg hrd λk hk hb=>?_,λi r es h5 h6=>?_⟩
 ·have h1:=hfr11 k hk
  have h2:=hlow k hb
  omega
 ·rw [List.getElem?_append] at h5 h6
  rw [hrl] at h5
  split at h5
  ·rename_i hlt
   rw [if_pos hlt] at h6
   obtain ⟨h1,h2,h3,h4⟩:=hd i r es h5 h6
   exact ⟨h1.new hn11,h2,h3.keep (Keep.of_new hn11) (λ_ _ h=>h),h4⟩
  ·rename_i hlt
   rw [if_neg hlt] at h6
   have hi0:i - G.length=0:=by
    have:=(List.getElem?_eq_some_iff.1 h5).1
    simp at this <;> omega
   rw [hi0] at h5 h6
   simp at h5 h6
   subst h5 h6
   refine ⟨fG (New.blk hn11 hb) (by rw [List.drop_zero];exact List.take_of_length_le (Nat.le_refl _)),.inr hnb,hds.keep (Keep.of_new hn11) (λ_ _ h=>h),hdl⟩
end Go.Proofs.YtegepanmkjemjaaGreat
