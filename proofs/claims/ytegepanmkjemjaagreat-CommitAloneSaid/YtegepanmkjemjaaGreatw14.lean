import Derived.Test.YtegepanmkjemjaaGreatw13
set_option linter.unusedVariables false
namespace Go.Proofs.YtegepanmkjemjaaGreat
open Go.Eng
abbrev TCh:TypeId:=136
def ez.cells (x:ez):List Value:=[.int .i64 x.orphan,.int .i64 x.client,.int .i64 x.node]
def ez.val (x:ez):Value:=.agg x.cells.toArray
theorem CD (C:Comp) (j:Nat) (l:Lane) (p:Pair) (od:Option Done) (hj:j<C.lanes.length) :
  ({ C with lanes:=C.lanes.set j ⟨p,l.places⟩ }:Comp).done1 j p l.places od=C.comes j l p od:=by
 cases od with
 |none=>rfl
 |some x=>simp [Comp.done1,Comp.comes]
theorem qG:∀ {l:List Nat} {x:Nat},x ∈ l→x≤l.sum
 |y::l,x,h=>by
  rw [List.sum_cons]
  rcases List.mem_cons.1 h with rfl | h
  ·omega
  ·have:=qG h;omega
theorem aY.widen {A:Nat→Prop} {χ:Nat→Tag} {w w':World} {fb:Nat} {X:FabX} (h:aY A χ w fb X) (hk:New w w'):aY (λk=>A k∨(w.heap.size≤k∧k<w'.heap.size)) χ w' fb X:=by
 have m:rm (λ_=>False) A (λk=>A k∨(w.heap.size≤k∧k<w'.heap.size)) χ χ w w':=⟨hk,id,h.avoid,λk hlt hc=>hc.elim id (λhc=>by omega),λ_ _ _ _=>rfl,λk hc=>.inl (h.avoid k hc)⟩
 have hs:=hk.size
 refine ⟨m.avoid',λk hc=>hc.elim (λhc=>by have:=h.low k hc;omega) (λhc=>hc.2),New.blk hk h.fab,h.ftag,h.nodes.new hk,h.ntag,λi x hx=>(h.node i x hx).moved m id id,New.blk hk h.cls,h.ctag,
  λi c hc=>(h.client i c hc).moved m λ_ _=>id,h.orphs.new hk,h.otag,λp hp=>⟨(bP.moved m (h.orphan p hp).1 (h.orphan p hp).2 id (by simp)).1,(h.orphan p hp).2⟩,h.nodup⟩
set_option maxHeartbeats 3200000 in
theorem AR {A:Nat→Prop} {χ:Nat→Tag} {w:World} {fb:Nat} {X:FabX} (h:aY A χ w fb X) (hok:vj X.pure) (x:ez):Does 63 [ptr fb,x.val] w λv w'=>
  v=.bool (X.pure.step x).1∧dD A χ w fb (X.pure.step x).2 w' λ_=>True:=by
 refine does Tryz.func63 ?_
 refine Eq.mpr (ol fb x.orphan x.client x.node w _) ?_
 rintro b1 w1 hb1 hw1
 obtain ⟨hbx,hn1⟩:=aN hb1 hw1
 clear hw1
 have hF1:=h.new hn1
 have hbx:Blk w1 b1 x.cells TCh:=hbx
 refine ⟨_,hbx.cell (i:=0) rfl,aJ (λh0=>?_) (λh0=>?_)⟩
 ·obtain ⟨i,hi⟩:∃ i:Nat,x.orphan=i:=⟨x.orphan.toNat,by omega⟩
  have hst:X.pure.step x=X.pure.stepOrphan i:=by
   unfold Fab.step
   rw [if_pos (by omega),hi]
   rfl
  refine ⟨_,hbx.cell (i:=0) rfl,?_⟩
  rw [hi]
  refine aE (wo hF1 hok i) ?_
  rintro v w2 ⟨rfl,hp⟩
  refine ⟨_,rfl,?_⟩
  rw [hst]
  exact ⟨rfl,dD.trans (h.refl hn1) hp⟩
 refine ⟨_,hbx.cell (i:=0) rfl,aJ (λh1=>?_) (λh1=>?_)⟩
 ·have hst:X.pure.step x=(false,X.pure):=by unfold Fab.step;rw [if_neg (by omega),if_pos h1]
  rw [hst]
  exact ⟨rfl,dD.same h hn1 trivial⟩
 have hst0:X.pure.step x=match X.pure.cl x.client with
  |none=>(false,X.pure)
  |some C=>if x.node<0 then (false,X.pure) else match C.lanes[x.node.toNat]?,X.pure.nodes[x.node.toNat]? with
   |some l,some n=>if l.pair.verbs.length=0 then (false,X.pure) else
    (true,{ X.pure with nodes:=X.pure.nodes.set x.node.toNat (l.pair.step n).2.1,clients:=X.pure.clients.set x.client.toNat (C.comes x.node.toNat l (l.pair.step n).1 (l.pair.step n).2.2) })
   | _,_=>(false,X.pure):=by
  unfold Fab.step
  rw [if_neg (by omega),if_neg h1]
  rfl
 refine ⟨_,hbx.cell (i:=1) rfl,?_⟩
 rcases X.cl_cases x.client with ⟨c1,c2⟩ | ⟨i,c,c0,hc,c2⟩
 ·refine aE (jv hF1 c2) ?_
  rintro v w3 ⟨rfl,rfl⟩
  rw [c1] at hst0
  refine ⟨_,rfl,?_⟩
  intro w4 hw4
  refine ⟨λ_=>True,trivial,?_⟩
  rw [hst0]
  exact ⟨rfl,dD.same h (hn1.new (by rw [hw4];exact aV _)) trivial⟩
 have hxl:=aO hc
 rw [c0]
 refine aE (gB hF1 hc) ?_
 rintro v w3 ⟨rfl,rfl⟩
 rw [c2] at hst0
 refine ⟨_,rfl,?_⟩
 intro w4 hw4
 have hn4:New w3 w4:=by rw [hw4];exact aV _
 clear hw4
 have hF4:=hF1.new hn4
 have hb4:=New.blk hn4 hbx
 refine ⟨λu=>New w4 u,Keep.refl _ _,?_⟩
 refine ⟨_,λu hu=>(New.blk hu hb4).cell (i:=2) rfl,aJ (λh2=>?_) (λh2=>?_)⟩
 ·simp only [if_pos h2] at hst0
  rw [hst0]
  exact ⟨rfl,dD.same h (hn1.new hn4) trivial⟩
 simp only [if_neg h2] at hst0
 obtain ⟨j,hj⟩:∃ j:Nat,x.node=j:=⟨x.node.toNat,by omega⟩
 have hjn:x.node.toNat=j:=by omega
 rw [hjn] at hst0
 have hco:=hok.client i c.pure (by simp [FabX.pure,hc])
 refine ⟨_,λu hu=>(New.blk hu hb4).cell (i:=2) rfl,?_⟩
 refine ⟨_,_,_,λu hu=>(hF4.new hu).ccell (k:=2) hc rfl,aJ (λh3=>?_) (λh3=>?_)⟩
 ·have e:c.pure.lanes[j]?=none:=List.getElem?_eq_none (by
   have:c.pure.lanes.length=c.lanes.length:=by simp [aZ.pure]
   have h3':x.node≥(c.lanes.length:Int):=h3
   omega)
  simp only [e] at hst0
  rw [hst0]
  exact ⟨rfl,dD.same h (hn1.new hn4) trivial⟩
 have h3':¬ x.node≥(c.lanes.length:Int):=h3
 have hjl:j<c.lanes.length:=by omega
 obtain ⟨l,hl⟩:∃ l,c.lanes[j]?=some l:=⟨c.lanes[j],by simp [hjl]⟩
 have hjn2:j<X.nodes.length:=by
  have h5:=hco.lanes
  have e1:c.pure.lanes.length=c.lanes.length:=by simp [aZ.pure]
  have e2:X.pure.nodes.length=X.nodes.length:=by simp [FabX.pure]
  split at h5<;>omega
 obtain ⟨y,hy⟩:∃ y,X.nodes[j]?=some y:=⟨X.nodes[j],by simp [hjn2]⟩
 have elp:c.pure.lanes[j]?=some l.pure:=by simp [aZ.pure,hl]
 have eyp:X.pure.nodes[j]?=some y.n:=by simp [FabX.pure,hy]
 simp only [elp,eyp] at hst0
 have hlo:=hco.lane j l.pure elp
 refine ⟨_,_,_,λu hu=>(hF4.new hu).ccell (k:=2) hc rfl,_,λu hu=>(New.blk hu hb4).cell (i:=2) rfl,?_⟩
 obtain ⟨g,hga,hgi,⟨gcs,hgb⟩,hgc,hgk⟩:=Owns.row (hF4.client i c hc).own (gZ c.lanes) (by omega) (gA hl)
 have hgt:χ g=.lanes i:=(hF4.client i c hc).tag g ⟨0,hga⟩
 show idxS c.la c.lanes.length x.node 2 _
 rw [hga,hj]
 refine bB (by omega) (by omega) ?_
 rw [Int.toNat_natCast]
 refine ⟨some ⟨l.pb,0,none⟩,λu hu=>eF hu (hgk 0 _ rfl) id,?_⟩
 refine aE (qA ((hF4.client i c hc).lane j l hl).pair) ?_
 rintro v w5 ⟨rfl,rfl⟩
 refine ⟨_,rfl,Keep.refl _ _,bH (λh6=>?_) (λh6=>?_)⟩
 ·have:l.pure.pair.verbs.length=0:=by show l.p.verbs.length=0;omega
  rw [if_pos this] at hst0
  rw [hst0]
  exact ⟨rfl,dD.same h (hn1.new hn4) trivial⟩
 have hpos:¬ l.pure.pair.verbs.length=0:=by show ¬ l.p.verbs.length=0;omega
 rw [if_neg hpos] at hst0
 intro w6 hw6
 have hn6:New w5 w6:=by rw [hw6];exact aV _
 clear hw6
 have hF6:=hF4.new hn6
 have hb6:=New.blk hn6 hb4
 refine ⟨λu=>New w6 u,Keep.refl _ _,_,_,_,λu hu=>(hF6.new hu).ccell (k:=2) hc rfl,_,λu hu=>(New.blk hu hb6).cell (i:=2) rfl,?_⟩
 show idxS c.la c.lanes.length x.node 2 _
 rw [hga,hj]
 refine bB (by omega) (by omega) ?_
 rw [Int.toNat_natCast]
 intro w7 hw7
 have hn7:New w6 w7:=by rw [hw7];exact aV _
 clear hw7
 have hF7:=hF6.new hn7
 have hb7:=New.blk hn7 hb6
 have hn57:New w5 w7:=hn6.new hn7
 have hn07:New w w7:=(hn1.new hn4).new hn57
 have hb1i:χ b1=.imm:=h.fresh (by omega)
 have hcx7:=hF7.client i c hc
 have hlx7:=hcx7.lane j l hl
 have hya7:=hF7.node j y hy
 refine ⟨λu=>Keep (λk=>lM i j j (χ k)) w7 u,Keep.refl _ _,some ⟨l.pb,0,none⟩,λu hu=>eF hu (eF hn57 (hgk 0 _ rfl) id) (by show ¬ lM i j j (χ g);rw [hgt];simp [lM]),?_⟩
 refine ⟨_,_,_,λu hu=>(hu.blk hF7.fab (by rw [hF7.ftag];simp [lM])).cell (i:=1) rfl,_,λu hu=>(hu.blk hb7 (by rw [hb1i];simp [lM])).cell (i:=2) rfl,?_⟩
 refine rn (v:=ptr y.b) (i:=j) hF7.nodes (by simp [hy]) hj λad2 hcell2 had2=>⟨some ⟨y.b,0,none⟩,λu hu=>eF hu hcell2 ?_,?_⟩
 ·obtain ⟨g2,hg2,rfl⟩:=had2
  show ¬ lM i j j (χ g2)
  rw [hF7.ntag g2 ⟨0,hg2⟩]
  simp [lM]
 have hwait:c.waiting≤1024:=by
  have h8:=hco.batch
  have e:c.pure.waiting=c.waiting:=rfl
  omega
 have hplen:l.places.length=l.p.verbs.length:=hlo.places
 have hpl:∀ od:Option Done,od.isSome=true→∃ bb p0 ps,l.places=p0::ps∧p0<c.raw.length∧c.bb=some bb∧0<c.waiting:=by
  intro od _
  cases hps:l.places with
  |nil=>rw [hps] at hplen;exact absurd hplen.symm (by show ¬ l.p.verbs.length=0;omega)
  |cons p0 ps=>
   have hlow:=hlo.low p0 (by show p0 ∈ l.places;rw [hps];simp)
   have hcx:=h.client i c hc
   cases hbb:c.bb with
   |none=>simp [aZ.pure,hbb] at hlow
   |some bb=>
    simp [aZ.pure,hbb] at hlow
    refine ⟨bb,p0,ps,rfl,by rw [hcx.ds.1];exact hlow,rfl,?_⟩
    have h8:=hco.waiting
    have e:c.pure.waiting=c.waiting:=rfl
    have h9:l.p.verbs.length≤pend c.pure.lanes:=by
     unfold pend
     exact qG (List.mem_map.2 ⟨l.pure,List.mem_of_getElem? elp,rfl⟩)
    have h10:l.p.verbs.length≠0:=hpos
    omega
 have hstep:∀ (A0:Nat→Prop) w7' r w8 (hnn:aY A0 χ w7' fb X),sx A0 l.pb y.b y.bw l.p y.n w7' r w8→∃ A1 χ1 d p',r=.tuple #[d.val,.bool (l.p.pure.step y.n).2.2.isSome]∧Next A0 A1 χ χ1 w7' w8∧
   aY A1 χ1 w8 fb { X with nodes:=X.nodes.set j { y with n:=(l.p.pure.step y.n).2.1 },clients:=X.clients.set i { c with lanes:=c.lanes.set j { l with p:=p' } } }∧p'.pure=(l.p.pure.step y.n).1∧
   Keep (λk=>lM i j j (χ k)) w7' w8∧(∀ x,(l.p.pure.step y.n).2.2=some x→kq A1 w8 d x):=by
  intro A0 w7' r w8 hF7' hS
  have hlx:=(hF7'.client i c hc).lane j l hl
  have hya:=hF7'.node j y hy
  obtain ⟨χ',d,p',rfl,hp',hnode',hk3,hg3,hs3,hl3,ht3,hP3,hd3⟩:=wj hlx.pair hlx.tag (by simp) (λk hc=>hF7'.lowt hc) hF7'.avoid hya.wtag hS
  obtain ⟨nx,hF3⟩:=hF7'.setPair hc hl hy hk3 hg3 hs3 hl3 hnode' hP3 ht3
  exact ⟨_,_,d,p',rfl,nx,hF3,hp',hk3,hd3⟩
 have hcall:∀ (A0:Nat→Prop) w7',aY A0 χ w7' fb X→Does 82 [.pointer (some ⟨l.pb,0,none⟩),.pointer (some ⟨y.b,0,none⟩)] w7' (sx A0 l.pb y.b y.bw l.p y.n w7'):=by
  intro A0 w7' hF7'
  have hlx:=(hF7'.client i c hc).lane j l hl
  have hya:=hF7'.node j y hy
  exact AI hlx.pair hya.node (hF7'.avoid _ (by rw [hya.wtag];simp)) (hF7'.avoid _ (by rw [hya.tag];simp)) (λhb=>by have:=hlx.tag _ (.inr (.inr hb));rw [hya.wtag] at this;cases this) hlo.rdy
 have hfin:∀ w10 b2 A1 χ1 d p' w7',New w7 w7'→Next A A1 χ χ1 w7' w10→aY A1 χ1 w10 fb { X with nodes:=X.nodes.set j { y with n:=(l.p.pure.step y.n).2.1 },clients:=X.clients.set i { c with lanes:=c.lanes.set j { l with p:=p' } } }→p'.pure=(l.p.pure.step y.n).1→
   Blk w10 b2 (bF.cells d) TD→(∀ x,(l.p.pure.step y.n).2.2=some x→kq A1 w10 d x)→∀ w' A' χ' X',Next A1 A' χ1 χ' w10 w'→aY A' χ' w' fb X'→
   X'.pure=(FabX.pure { X with nodes:=X.nodes.set j { y with n:=(l.p.pure.step y.n).2.1 },clients:=X.clients.set i { c with lanes:=c.lanes.set j { l with p:=p' } } }).setC i ((aZ.pure { c with lanes:=c.lanes.set j { l with p:=p' } }).done1 j p'.pure l.places (l.p.pure.step y.n).2.2)→
   (Value.bool true=.bool (X.pure.step x).1∧dD A χ w fb (X.pure.step x).2 w' λ_=>True):=by
  intro w10 b2 A1 χ1 d p' w7' hnn nx hF hp' hbox hd w' A' χ' X' nx' hF' hX'
  rw [hst0]
  refine ⟨rfl,A',χ',X',((h.refl (hn07.new hnn)).trans nx).trans nx',hF',?_,trivial⟩
  rw [hX',FabX.setPair_pure,c0]
  have e1:(aZ.pure { c with lanes:=c.lanes.set j { l with p:=p' } })={ c.pure with lanes:=c.pure.lanes.set j ⟨p'.pure,l.pure.places⟩ }:=by simp [aZ.pure,List.map_set,cE.pure]
  have e2:l.places=l.pure.places:=rfl
  rw [e1,e2,CD _ _ _ _ _ (by simpa [aZ.pure] using hjl),hp']
  simp [Fab.setC]
  exact ⟨rfl,rfl⟩
 have hclq:∀ p':cX,(X.clients.set i { c with lanes:=c.lanes.set j { l with p:=p' } })[i]?=some { c with lanes:=c.lanes.set j { l with p:=p' } }:=λp'=>by simp [hxl]
 have hlq:∀ p':cX,(c.lanes.set j { l with p:=p' })[j]?=some { l with p:=p' }:=λp'=>by simp [hjl]
 refine ⟨?_,?_⟩
 ·refine aE (hcall A w7 hF7) ?_
  intro r w8 hS
  obtain ⟨A1,χ1,d,p',rfl,nx,hF8,hp',hk8,hd8⟩:=hstep A w7 r w8 hF7 hS
  refine ⟨_,_,_,_,_,rfl,hk8,?_⟩
  rintro b2 w9 hb2 hw9
  obtain ⟨hz9,hn9⟩:=aN hb2 hw9
  refine ⟨hk8.new hn9,bZ (vs:=d.cells) hz9 (by simp [bF.cells]) (bF.single d),?_⟩
  intro w10 hw10
  obtain ⟨hz10,hn10⟩:=mL (vs:=d.cells) hz9 (by simp [bF.cells]) hn9 (by omega) hw10
  clear hw9 hw10
  have hF10:=hF8.new hn10
  have hd10:∀ x,(l.p.pure.step y.n).2.2=some x→kq A1 w10 d x:=λx hx=>(hd8 x hx).keep (Keep.of_new hn10) λ_ _ h=>h
  exact wk (R:=λv w'=>v=.bool (X.pure.step x).1∧dD A χ w fb (X.pure.step x).2 w' λ_=>True) hF10 (hclq p') (hlq p') hga hz10 (l.p.pure.step y.n).2.2 hd10 (hpl _) (by show l.places.length≤1024;rw [hplen];exact hlx7.pair.len) hwait
   (hfin w10 b2 A1 χ1 d p' w7 (Keep.refl _ _) (nx.new hn10) hF10 hp' hz10 hd10)
 ·rintro b3 w16 hb3 hw16
  obtain ⟨hz16,hn16⟩:=aN hb3 hw16
  clear hw16
  refine ⟨Keep.of_new hn16,?_⟩
  refine aE (hcall _ w16 (hF7.widen hn16)) ?_
  intro r w17 hS
  obtain ⟨A1,χ1,d,p',rfl,nx,hF17,hp',hk17,hd17⟩:=hstep _ w16 r w17 (hF7.widen hn16) hS
  have hb3i:χ b3=.imm:=hF7.fresh (by omega)
  have hz17:=hk17.blk hz16 (by rw [hb3i];simp [lM])
  refine ⟨_,_,_,_,_,rfl,(Keep.of_new hn16).trans hk17 (λk _ h=>h),bZ (vs:=d.cells) hz17 (by simp [bF.cells]) (bF.single d),?_⟩
  intro w18 hw18
  have hz18:Blk w18 b3 d.cells TD:=by
   have hw:w18=puts w17 ⟨b3,0,none⟩ 0 d.cells:=hw18
   rw [hw]
   have:=hz17.puts (o:=0) (i:=0) (vs:=d.cells)
   rw [gI (by simp [bF.cells])] at this
   exact this
  have hk18:Keep (λk=>k=b3) w17 w18:=by rw [hw18];exact cT _ _ _ _ _
  clear hw18
  have hb3l:b3<w16.heap.size:=hz16.lt
  have hs16:=hn16.size
  have hA3:A1 b3:=(nx.iff b3).2 (.inr ⟨hb3l,.inr ⟨by omega,hb3l⟩,hb3i⟩)
  have hχ3:χ1 b3=.imm:=by
   by_cases hc:χ1 b3=.imm
   ·exact hc
   ·exact absurd hb3i (nx.grow b3 hb3l hc)
  have hF18:=hF17.other hk18 (λk hk=>by rw [hk];exact ⟨hA3,hχ3⟩)
  have hsub:∀ k,iQ A χ χ1 w7 k→A1 k:=by
   intro k hk
   refine (nx.iff k).2 ?_
   rcases hk with hk | hk
   ·exact .inl hk
   ·exact .inr ⟨by omega,.inl hk.2.1,hk.2.2⟩
  have hF18':=hF18.recolor hsub (λk hc=>.inl hc)
  have hnx:Next A (iQ A χ χ1 w7) χ χ1 w7 w18:=by
   refine ⟨((Keep.of_new hn16).trans nx.keep λ_ _ h=>h).trans hk18 λk hlt e=>by omega,λk hlt hc=>nx.grow k (by omega) hc,λ_=>Iff.rfl⟩
  have hd18:∀ x,(l.p.pure.step y.n).2.2=some x→kq (iQ A χ χ1 w7) w18 d x:=λx hx=>(hd17 x hx).keep (hk18.mono λk _ e=>by rw [e];exact hA3) λk _ hc=>hsub k hc
  exact wk (R:=λv w'=>v=.bool (X.pure.step x).1∧dD A χ w fb (X.pure.step x).2 w' λ_=>True) hF18' (hclq p') (hlq p') hga hz18 (l.p.pure.step y.n).2.2 hd18 (hpl _) (by show l.places.length≤1024;rw [hplen];exact hlx7.pair.len) hwait
   (hfin w18 b3 _ χ1 d p' w7 (Keep.refl _ _) hnx hF18' hp' hz18 hd18)
end Go.Proofs.YtegepanmkjemjaaGreat
namespace Go.Proofs.YtegepanmkjemjaaGreat
open Go.Proofs.Tryz
open Go.Eng
theorem yp {α:Type} {l:List α} {k:Nat} {x:α} (h:l[k]?=some x):l.drop k=x::l.drop (k+1):=by
 obtain ⟨h1,h2⟩:=List.getElem?_eq_some_iff.1 h
 rw [List.drop_eq_getElem_cons h1,h2]
def qH (l:List ez):List (List Value):=l.map ez.cells
theorem uu (l:List ez):∀ r ∈ qH l,r.length=3:=by
 intro r hr;simp only [qH,List.mem_map] at hr;obtain ⟨l,_,rfl⟩:=hr;rfl
theorem uv {l:List ez} {i:Nat} {x:ez} (h:l[i]?=some x):(qH l)[i]?=some x.cells:=by simp [qH,h]
structure ChAt (w u:World) (a:Option Addr) (cap:Nat) (out:List ez):Prop where
 new:New w u
 own:Owns u TCh 3 a out.length cap (qH out).flatten
 fresh:∀ k,isB a k→w.heap.size≤k
theorem ChAt.step {w u u':World} {a:Option Addr} {cap:Nat} {out:List ez} (h:ChAt w u a cap out) (hn:New u u'):ChAt w u' a cap out:=⟨h.new.new hn,h.own.new hn,h.fresh⟩
theorem ChAt.append {w u u1:World} {a:Option Addr} {cap b:Nat} {out:List ez} (h:ChAt w u a cap out) (x:ez) (hb:b=u.heap.size) (hw:u1=u.alloc (.cells x.cells.toArray 136)) (hl:out.length≤1000000000) :
  ∃ a' cap' u2,(Builtin.append_ #[132,132] 132 #[.slice a out.length cap,.slice (some ⟨b,0,none⟩) 1 1]).run prog u1=.ok (.slice a' (out++[x]).length cap') u2∧ChAt w u2 a' cap' (out++[x]):=by
 obtain ⟨hz,hn⟩:=aN hb hw
 have h1:=h.step hn
 obtain ⟨ti,hi,hzz,hsz,hby⟩:=j8 (T:=136) (z:=.agg #[.int .i64 0,.int .i64 0,.int .i64 0]) (n:=3) (m:=24) (by kernel_rfl)
 have hown:Owns u1 TCh ti.size a out.length cap (qH out).flatten:=by rw [hsz];exact h1.own
 obtain ⟨ap,apc,w7,hrun,hown7,hk7,hap⟩:=hown.append (P:=prog) (t:=132) (ty:=132) Tryz.underlying132 hi hzz (by rw [hsz];rfl) (by omega)
  (s:=some ⟨b,0,none⟩) (m:=1) (c:=1) (news:=x.cells) (by rw [hsz];rfl) (fG hz (by simp [ez.cells])) (by simp [ez.cells,single]) (by omega) (by rw [hby];omega)
 rw [hsz] at hown7
 have hf:(qH (out++[x])).flatten=(qH out).flatten++x.cells:=by simp [qH]
 refine ⟨ap,apc,w7,by simpa using hrun,h1.new.trans hk7 λk hlt hk=>?_,?_,λk hk=>?_⟩
 ·have:=h.fresh k hk;omega
 ·rw [hf];simpa using hown7
 ·rcases hap with e | e
  ·exact h.fresh k (e▸hk)
  ·obtain ⟨o,ho⟩:=hk
   rw [e] at ho
   simp at ho
   have:=h.new.size
   have:=hn.size
   omega
theorem ChAt.nil (w:World):ChAt w w none 0 []:=⟨Keep.refl _ _,Owns.nil _ _ _,λk ⟨o,ho⟩=>by cases ho⟩
theorem ou (i:Nat):∀ (j:Nat) (ls:List Lane),(dF i j ls).length≤ls.length
 | _,[]=>by simp [dF]
 |j,l::ls=>by
  have:=ou i (j+1) ls
  simp only [dF,List.length_append,List.length_cons]
  split<;>simp<;>omega
theorem kS {n:Nat}:∀ (i:Nat) (cs:List Comp),(∀ c ∈ cs,c.lanes.length≤n)→(cJ i cs).length≤cs.length * n
 | _,[],_=>by simp [cJ]
 |i,c::cs,h=>by
  have h1:=kS (i+1) cs λc hc=>h c (List.mem_cons_of_mem _ hc)
  have h2:=ou i 0 c.lanes
  have h3:=h c (List.mem_cons_self ..)
  simp only [cJ,List.length_append,List.length_cons,Nat.add_mul,Nat.one_mul]
  omega
theorem kT:∀ (i:Nat) (ps:List Pair),(eO i ps).length=ps.length
 | _,[]=>rfl
 |i,p::ps=>by simp [eO,kT (i+1) ps]
set_option maxHeartbeats 3200000 in
theorem AS {A:Nat→Prop} {χ:Nat→Tag} {w:World} {fb:Nat} {X:FabX} (h:aY A χ w fb X) (hok:vj X.pure) (hob:X.orphans.length≤100000000):Does 62 [ptr fb] w λv w'=>
  ∃ a cap,v=.slice a X.pure.choices.length cap∧ChAt w w' a cap X.pure.choices:=by
 refine does Tryz.func62 ?_
 rw [ptr,me]
 have hlc:∀ c ∈ X.pure.clients,c.lanes.length≤5:=by
  intro c hc
  obtain ⟨i,hi⟩:=List.mem_iff_getElem?.1 hc
  have h1:=(hok.client i c hi).lanes
  have h2:=hok.nodes
  split at h1<;>omega
 have hcl:X.pure.clients.length=X.clients.length:=by simp [FabX.pure]
 have hcle:=kS 0 X.pure.clients hlc
 have hcl6:=hok.clients
 have hpg:∀ (i:Nat) (c:aZ),X.clients[i]?=some c→X.pure.clients[i]?=some c.pure:=λi c hc=>by simp [FabX.pure,hc]
 refine ⟨_,_,_,h.fab.cell rfl,?_⟩
 refine aQ mix (λm env u=>∃ (i:Nat) (jj:List Value) (a:Option Addr) (cap:Nat) (out:List ez),i≤X.clients.length∧m=X.clients.length - i∧env=cZ ⟨fb,0,none⟩ a out.length cap (some ⟨X.cb,0,none⟩) X.clients.length X.clients.length X.clients.length i jj∧
   ChAt w u a cap out∧out++cJ i (X.pure.clients.drop i)=cJ 0 X.pure.clients) X.clients.length ⟨0,_,none,0,[],by omega,by omega,rfl,ChAt.nil w,rfl⟩ ?_
 rintro m env u ⟨i,jj,a,cap,out,hi,rfl,rfl,hch,hout⟩
 rw [iM]
 refine aJ (λhlt=>?_) (λhlt=>?_)
 ·have hil:i<X.clients.length:=by omega
  obtain ⟨c,hc⟩:∃ c,X.clients[i]?=some c:=⟨X.clients[i],by simp [hil]⟩
  have hF:=h.new hch.new
  refine bB (by omega) (by omega) ?_
  rw [Int.toNat_natCast]
  have hcells:aG u ⟨X.cb,0+i * 7,none⟩ 0 c.cells:=kJ λk v hv=>by
   have:=hF.ccell hc hv
   simpa using this
  refine ⟨_,_,_,_,_,_,_,_,_,_,_,hcells,?_⟩
  rintro b1 w1 hb1 hw1
  obtain ⟨hz,hn1⟩:=aN hb1 hw1
  refine ⟨bZ (vs:=c.cells) hz (by simp [aZ.cells]) (by simp [aZ.cells,single]),?_⟩
  intro w2 hw2
  obtain ⟨hz2,hn2⟩:=mL (vs:=c.cells) hz (by simp [aZ.cells]) hn1 (by omega) hw2
  clear hw1 hw2 hz hn1
  refine ⟨_,_,_,hz2.cell (i:=2) rfl,?_⟩
  have hdrop:X.pure.clients.drop i=c.pure::X.pure.clients.drop (i+1):=by
   rw [qE (by omega)]
   congr 1
   have:=hpg i c hc
   rw [List.getElem?_eq_getElem (by omega)] at this
   simpa using this
  rw [hdrop] at hout
  have hpl:c.pure.lanes.length=c.lanes.length:=by simp [aZ.pure]
  have hl5:=hlc c.pure (List.mem_of_getElem? (hpg i c hc))
  refine aQ mix (λm env z=>∃ (j:Nat) (j2:List Value) (a':Option Addr) (cap':Nat) (out':List ez),j≤c.lanes.length∧m=c.lanes.length - j∧env=cC ⟨fb,0,none⟩ a' out'.length cap' i (some ⟨X.cb,0,none⟩) X.clients.length X.clients.length X.clients.length i c.la c.lanes.length c.lc c.lanes.length j j2∧
   ChAt w z a' cap' out'∧out'++dF i j (c.pure.lanes.drop j)++cJ (i+1) (X.pure.clients.drop (i+1))=cJ 0 X.pure.clients) c.lanes.length ⟨0,_,a,cap,out,by omega,by omega,rfl,hch.step hn2,by rw [←hout];simp [cJ]⟩ ?_
  rintro m env z ⟨j,j2,a',cap',out',hj,rfl,rfl,hch',hout'⟩
  rw [iN]
  have hF':=h.new hch'.new
  have hlen':out'.length≤30:=by
   have:=congrArg List.length hout'
   simp only [List.length_append] at this
   omega
  refine aJ (λhlt2=>?_) (λhlt2=>?_)
  ·have hjl:j<c.lanes.length:=by omega
   obtain ⟨l,hl⟩:∃ l,c.lanes[j]?=some l:=⟨c.lanes[j],by simp [hjl]⟩
   obtain ⟨g,hga,_,_,hgc,_⟩:=Owns.row (hF'.client i c hc).own (gZ c.lanes) (by omega) (gA hl)
   rw [hga]
   refine bB (by omega) (by omega) ?_
   rw [Int.toNat_natCast]
   refine ⟨_,_,_,_,hgc,?_⟩
   rintro b3 w3 hb3 hw3
   obtain ⟨hz3,hn3⟩:=aN hb3 hw3
   refine ⟨bZ (vs:=l.cells) hz3 (by simp [cE.cells]) (by simp [cE.cells,single]),?_⟩
   intro w4 hw4
   obtain ⟨hz4,hn4⟩:=mL (vs:=l.cells) hz3 (by simp [cE.cells]) hn3 (by omega) hw4
   clear hw3 hw4 hz3 hn3
   refine ⟨_,hz4.cell (i:=0) rfl,?_⟩
   have hlx:=((hF'.new hn4).client i c hc).lane j l hl
   refine aE (qA hlx.pair) ?_
   rintro v w5 ⟨rfl,rfl⟩
   have hdl:c.pure.lanes.drop j=l.pure::c.pure.lanes.drop (j+1):=by
    rw [qE (by omega)]
    congr 1
    have:c.pure.lanes[j]?=some l.pure:=by simp [aZ.pure,hl]
    rw [List.getElem?_eq_getElem (by omega)] at this
    simpa using this
   rw [hdl] at hout'
   have hch5:=hch'.step hn4
   rw [←hga]
   refine ⟨_,rfl,aJ (λhp=>?_) (λhp=>?_)⟩
   ·have hp':0<l.pure.pair.verbs.length:=by show 0<l.p.verbs.length;omega
    rintro b6 w6 hb6 hw6
    obtain ⟨ap,apc,w7,hrun,hch7⟩:=hch5.append ⟨-1,i,j⟩ hb6 hw6 (by omega)
    refine ⟨ap,_,apc,w7,hrun,?_⟩
    rw [show IntKind.i64.wrap ((j:Int)+1)=((j+1:Nat):Int) by rw [w64 (by omega) (by omega)];rfl]
    refine ⟨c.lanes.length - (j+1),by omega,j+1,_,ap,apc,out'++[⟨-1,i,j⟩],by omega,rfl,rfl,hch7,?_⟩
    rw [←hout']
    simp [dF,hp']
   ·have hp':¬ 0<l.pure.pair.verbs.length:=by show ¬ 0<l.p.verbs.length;omega
    rw [show IntKind.i64.wrap ((j:Int)+1)=((j+1:Nat):Int) by rw [w64 (by omega) (by omega)];rfl]
    refine ⟨c.lanes.length - (j+1),by omega,j+1,_,a',cap',out',by omega,rfl,rfl,hch5,?_⟩
    rw [←hout']
    simp [dF,hp']
  ·have hje:j=c.lanes.length:=by omega
   rw [ke]
   rw [show IntKind.i64.wrap ((i:Int)+1)=((i+1:Nat):Int) by rw [w64 (by omega) (by omega)];rfl]
   refine ⟨X.clients.length - (i+1),by omega,i+1,_,a',cap',out',by omega,rfl,rfl,hch',?_⟩
   rw [←hout',hje,←hpl,List.drop_length]
   simp [dF]
 ·have hie:i=X.clients.length:=by omega
  rw [hie,←hcl,List.drop_length] at hout
  have hout1:out=cJ 0 X.pure.clients:=by simpa [cJ] using hout
  rw [kd]
  have hF:=h.new hch.new
  refine ⟨_,_,_,hF.fab.cell (i:=3) rfl,?_⟩
  have hol:X.pure.orphans.length=X.orphans.length:=by simp [FabX.pure]
  refine aQ mix (λm env z=>∃ (i:Nat) (jj:List Value) (a:Option Addr) (cap:Nat) (out:List ez),i≤X.orphans.length∧m=X.orphans.length - i∧env=dA a out.length cap X.oa X.orphans.length X.oc X.orphans.length i jj∧
   ChAt w z a cap out∧out++eO i (X.pure.orphans.drop i)=X.pure.choices) X.orphans.length ⟨0,_,a,cap,out,by omega,by omega,rfl,hch,by rw [hout1];rfl⟩ ?_
  rintro m env z ⟨k,j3,a3,cap3,out3,hk,rfl,rfl,hch3,hout3⟩
  rw [iO]
  have hF3:=h.new hch3.new
  have hlen3:out3.length≤100000030:=by
   have:=congrArg List.length hout3
   simp only [List.length_append,Fab.choices,kT] at this
   omega
  refine aJ (λhlt3=>?_) (λhlt3=>?_)
  ·have hkl:k<X.orphans.length:=by omega
   obtain ⟨b,p,ho⟩:∃ b p,X.orphans[k]?=some (b,p):=⟨X.orphans[k].1,X.orphans[k].2,by simp [hkl]⟩
   have hop:=(hF3.orphan _ (List.mem_of_getElem? ho)).1
   refine rn (v:=ptr b) (i:=k) hF3.orphs (by simp [ho]) rfl λad hcell _=>⟨some ⟨b,0,none⟩,hcell,?_⟩
   refine aE (AB hop) ?_
   rintro v w5 ⟨rfl,rfl⟩
   refine ⟨_,rfl,?_⟩
   refine aE (AC hop) ?_
   rintro v w6 ⟨rfl,rfl⟩
   refine ⟨_,rfl,?_⟩
   rintro b6 w6 hb6 hw6
   obtain ⟨ap,apc,w7,hrun,hch7⟩:=hch3.append ⟨k,p.client,p.node⟩ hb6 hw6 (by omega)
   refine ⟨ap,_,apc,w7,hrun,?_⟩
   rw [show IntKind.i64.wrap ((k:Int)+1)=((k+1:Nat):Int) by rw [w64 (by omega) (by omega)];rfl]
   refine ⟨X.orphans.length - (k+1),by omega,k+1,_,ap,apc,_,by omega,rfl,rfl,hch7,?_⟩
   have hdl:X.pure.orphans.drop k=p.pure::X.pure.orphans.drop (k+1):=yp (by simp [FabX.pure,ho])
   rw [←hout3,hdl]
   rw [eO,List.append_assoc]
   rfl
  ·have hke:k=X.orphans.length:=by omega
   rw [hke,←hol,List.drop_length] at hout3
   have:out3=X.pure.choices:=by simpa [eO] using hout3
   subst this
   rw [kf]
   exact ⟨a3,cap3,rfl,hch3⟩
end Go.Proofs.YtegepanmkjemjaaGreat
