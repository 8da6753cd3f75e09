import Derived.Test.YtgpmeaicjonenaaGreata11
set_option linter.unusedVariables false
namespace Go.Proofs.YtgpmeaicjonenaaGreat
open Go.Proofs.Tryz
open Go.Eng
theorem Owns.row {w:World} {e sz n cap:Nat} {a:Option Addr} {rows:List (List Value)} (h:Owns w e sz a n cap rows.flatten) (hs:∀ r ∈ rows,r.length=sz) (hz:0<sz) {i:Nat} {r:List Value} (hi:rows[i]?=some r) :
  ∃ g,a=some ⟨g,0,none⟩∧i<n∧(∃ cs,Blk w g cs e)∧aC w ⟨g,0+i * sz,none⟩ 0 r∧∀ k v,r[k]?=some v→w.cell? ⟨g,0+i * sz+k,none⟩=some v:=by
 obtain ⟨b,o,hb,h1,h2⟩:=h.rd.row hs hz hi
 rcases h.2 with ⟨h0,_⟩ | ⟨g',cur,he,hbl,hle,hc,hl,ht⟩
 ·rw [h0] at hb;cases hb
 ·rw [he] at hb
  simp only [Option.some.injEq,Addr.mk.injEq,and_true] at hb
  obtain ⟨rfl,rfl⟩:=hb
  refine ⟨g',he,?_,⟨cur,hbl⟩,h1,h2⟩
  have hlen:=h.1
  rw [ee hs] at hlen
  have:=aN hi
  exact Nat.lt_of_lt_of_eq this (Nat.eq_of_mul_eq_mul_right hz hlen)
def tpl (i j:Nat) (t:Tag):Prop:=t=.places i j∨t=.lanes i
open Classical in
theorem aZ.setPlaces {A:Nat→Prop} {χ:Nat→Tag} {w w':World} {fb:Nat} {X:FabX} (h:aZ A χ w fb X) {i j:Nat} {c:aW} {l:cJ} (hc:X.clients[i]?=some c) (hl:c.lanes[j]?=some l)
  (hk:Keep (λk=>tpl i j (χ k)) w w') {ap:Option Addr} {apc:Nat} {pls:List Nat} (hap:∀ k,isB ap k→χ k=.places i j∨w.heap.size≤k) (hown:Owns w' TI 1 ap pls.length apc (is (pls.map Int.ofNat)))
  (hlan:Owns w' TL 2 c.la c.lanes.length c.lc ((j4 c.lanes).set j (cJ.cells { l with places:=pls,pla:=ap,plc:=apc })).flatten) :
  ∃ A' χ',Next A A' χ χ' w w'∧aZ A' χ' w' fb { X with clients:=X.clients.set i { c with lanes:=c.lanes.set j { l with places:=pls,pla:=ap,plc:=apc } } }:=by
 let χ':Nat→Tag:=λk=>if isB ap k then .places i j else χ k
 have h1:∀ k,isB ap k→χ' k=.places i j:=λk hk=>by simp only [χ'];rw [if_pos hk]
 have h2:∀ k,¬ isB ap k→χ' k=χ k:=λk hk=>by simp only [χ'];rw [if_neg hk]
 have hg:∀ k,k<w.heap.size→χ' k≠.imm→χ k≠.imm:=by
  intro k hlt hc
  by_cases hb:isB ap k
  ·rcases hap k hb with e | e
   ·rw [e];simp
   ·omega
  ·rw [h2 k hb] at hc;exact hc
 have hs:∀ k,k<w.heap.size→χ k≠.places i j→χ' k=χ k:=by
  intro k hlt hc
  by_cases hb:isB ap k
  ·rcases hap k hb with e | e
   ·exact absurd e hc
   ·omega
  ·exact h2 k hb
 have hcx:=h.client i c hc
 have hlx:=hcx.lane j l hl
 obtain ⟨m,_⟩:=h.move (T:=tpl i j) (χ':=χ') hk (by simp [tpl]) hg (λk hlt hn _=>hs k hlt λe=>hn (.inl e))
 obtain ⟨a1,a2⟩:=bS.moved m hlx.pair hlx.tag (by simp [tpl]) (by simp)
 have q1:Keep (λk=>tcl i (χ k)) w w':=hk.mono λk _ hc=>by
  rcases hc with e | e
  ·exact .inr (by rw [e];rfl)
  ·exact .inr (by rw [e];rfl)
 have q2:∀ k,χ' k≠.imm→k<w'.heap.size:=λk hc=>by
  by_cases hb:isB ap k
  ·exact hown.lt hb
  ·rw [h2 k hb] at hc
   exact Nat.lt_of_lt_of_le (h.lowt hc) hk.size
 have q3:Blk w' X.cb ((gG X.clients).set i (aW.cells { c with lanes:=c.lanes.set j { l with places:=pls,pla:=ap,plc:=apc } })).flatten TC:=by
  have e:(gG X.clients).set i (aW.cells { c with lanes:=c.lanes.set j { l with places:=pls,pla:=ap,plc:=apc } })=gG X.clients:=iw (by rw [np hc];simp [aW.cells])
  rw [e]
  exact (Blk.moved m h.cls h.ctag (by simp [tpl]) (by simp)).1
 have q4:kY (iK A χ χ' w) χ' w' i { c with lanes:=c.lanes.set j { l with places:=pls,pla:=ap,plc:=apc } }:=by
  refine hcx.setLane m (λt _ ht=>ht.elim (λe=>.inr (.inr e)) .inl) hlan (λk hb=>?_) ⟨a1,a2,hown,h1⟩
  rw [hs k (hcx.own.lt hb) (by rw [hcx.tag k hb];simp)]
  exact hcx.tag k hb
 obtain ⟨nx,hF⟩:=h.setClient hc q1 hg (λk hlt hn _=>hs k hlt λe=>hn (.inr (by rw [e];rfl))) q2 q3 (by rw [hs _ h.cls.lt (by rw [h.ctag];simp)];exact h.ctag) q4
 exact ⟨_,_,nx,hF⟩
theorem vo (C:Comp) (k:Nat):C.postFrom k []=C:=rfl
theorem uh (C:Comp) (k:Nat) (v:Verb) (vs:List Verb):C.postFrom k (v::vs)=(C.postOne k v).postFrom (k+1) vs:=rfl
structure BP (A:Nat→Prop) (χ:Nat→Tag) (w:World) (fb:Nat) (X:FabX) (i:Nat) (x:aW) (vs:List Verb) (k:Nat) (u:World) (A':Nat→Prop) (χ':Nat→Tag) (ls:List cJ):Prop where
 next:Next A A' χ χ' w u
 fab:aZ A' χ' u fb { X with clients:=X.clients.set i { x with lanes:=ls } }
 pure:(aW.pure { x with lanes:=ls }).postFrom k (vs.drop k)=x.pure.postFrom 0 vs
 len:ls.length=X.nodes.length
 lane:∀ (j:Nat) (l:cJ),ls[j]?=some l→l.p.node=j∧l.p.verbs.length≤k∧l.places.length≤k
theorem bP {α:Type} (l:List α) (i:Nat) (a b:α):(l.set i a).set i b=l.set i b:=List.set_set ..
open Classical in
set_option maxHeartbeats 1600000 in
theorem BQ {A:Nat→Prop} {χ:Nat→Tag} {w:World} {fb:Nat} {X:FabX} {i:Nat} {x:aW} {vs:List Verb} {k:Nat} {u:World} {A':Nat→Prop} {χ':Nat→Tag} {ls:List cJ}
  (I:BP A χ w fb X i x vs k u A' χ' ls) (hx:i<X.clients.length) (hv:k<vs.length) (hn:vs.length≤1024) {l:cJ} {j:Nat} (hj:ls[j]?=some l) (hvj:vs[k].node=j) (hl:0<X.nodes.length)
  {p':cX} {w1:World} {v':aJ} {va:Option Addr} {vc:Nat} (hp':p'=l.p.post v' vs[k] va vc)
  (hpair:∀ M':Nat→Prop,Ok A' M' u (isB va)→(∀ k,p'.mut l.pb k→M' k)→bS M' w1 l.pb p') (hkeep:Keep (λk=>k=l.pb∨isB l.p.va k) u w1) (hva:va=l.p.va∨∀ k,isB va k→u.heap.size≤k) (hval:∀ k,isB va k→k<w1.heap.size) :
  ∃ A1 χ1,Next A' A1 χ' χ1 u w1∧aZ A1 χ1 w1 fb { X with clients:=X.clients.set i { x with lanes:=ls.set j { l with p:=p' } } }:=by
 have h:=I.fab
 have hc:(X.clients.set i { x with lanes:=ls })[i]?=some { x with lanes:=ls }:=by simp [hx]
 have hcx:=h.client i _ hc
 have hlx:=hcx.lane j l hj
 obtain ⟨y,hy⟩:∃ y,X.nodes[0]?=some y:=⟨X.nodes[0],by simp [hl]⟩
 have hya:=h.node 0 y hy
 let χ1:Nat→Tag:=λk=>if isB va k then .lane i j else χ' k
 have h1:∀ k,isB va k→χ1 k=.lane i j:=λk hk=>by simp only [χ1];rw [if_pos hk]
 have h2:∀ k,¬ isB va k→χ1 k=χ' k:=λk hk=>by simp only [χ1];rw [if_neg hk]
 have hva':∀ k,isB va k→χ' k=.lane i j∨u.heap.size≤k:=by
  intro k hk
  rcases hva with e | e
  ·exact .inl (hlx.tag k (.inr (.inl (e▸hk))))
  ·exact .inr (e k hk)
 have hg:∀ k,k<u.heap.size→χ1 k≠.imm→χ' k≠.imm:=by
  intro k hlt hc
  by_cases hb:isB va k
  ·rcases hva' k hb with e | e
   ·rw [e];simp
   ·omega
  ·rw [h2 k hb] at hc;exact hc
 have hs:∀ k,k<u.heap.size→χ' k≠.lane i j→χ1 k=χ' k:=by
  intro k hlt hc
  by_cases hb:isB va k
  ·rcases hva' k hb with e | e
   ·exact absurd e hc
   ·omega
  ·exact h2 k hb
 have ht:∀ k,p'.mut l.pb k→χ1 k=.lane i j:=by
  subst hp'
  rintro k (hk | hk | hk)
  ·by_cases hb:isB va k
   ·exact h1 k hb
   ·rw [h2 k hb];exact hlx.tag k (.inl hk)
  ·exact h1 k hk
  ·by_cases hb:isB va k
   ·exact h1 k hb
   ·rw [h2 k hb];exact hlx.tag k (.inr (.inr hk))
 have hkl:Keep (λk=>χ' k=.lane i j) u w1:=hkeep.mono λk _ hc=>hlx.tag k (hc.elim .inl λe=>.inr (.inl e))
 have q1:∀ k,χ1 k≠.imm→k<w1.heap.size:=λk hc=>by
  by_cases hb:isB va k
  ·exact hval k hb
  ·rw [h2 k hb] at hc
   exact Nat.lt_of_lt_of_le (h.lowt hc) hkeep.size
 have q2:bM w1 y.b y.bw y.n:=hya.node.keep hkl (by rw [hya.tag];simp) (by rw [hya.wtag];simp)
 have q3:bS (iK A' χ' χ1 u) w1 l.pb p':=by
  refine hpair _ (λk hk=>?_) (λk hk=>.inl (by rw [ht k hk];simp))
  rcases hk with hk | hk
  ·by_cases hb:isB va k
   ·exact .inr hb
   ·rw [h2 k hb] at hk
    exact .inl ⟨h.lowt hk,h.avoid k hk⟩
  ·exact .inl ⟨hk.1,hk.2.1⟩
 obtain ⟨nx,hF⟩:=h.setPair (χ':=χ1) (n':=y.n) (p':=p') hc hj hy (hkl.mono λk _ e=>.inl e) hg hs q1 q2 q3 ht
 rw [iw hy,bP] at hF
 exact ⟨_,_,nx,hF⟩
theorem vp (a b:Int):eP a b []=0:=rfl
theorem pI (a b:Int) (v:Verb) (vs:List Verb):eP a b (v::vs)=if v.v.valid a b≠0 then v.v.valid a b else eP a b vs:=rfl
theorem pJ {a b:Int}:∀ {vs:List Verb},eP a b vs=0→∀ v ∈ vs,v.v.valid a b=0
 | [],_,v,hv=>by cases hv
 |x::xs,h,v,hv=>by
  rw [pI] at h
  split at h
  ·contradiction
  ·rename_i hc
   rcases List.mem_cons.1 hv with e | e
   ·subst e;exact Decidable.not_not.1 hc
   ·exact pJ h v e
theorem yC {v:aJ} {a b:Int} (h:v.valid a b=0):0≤v.Node∧v.Node<a∧v.valid 5 b=0:=by
 obtain ⟨hc,hi⟩:=nS h
 have hi':=fP hi
 refine ⟨hi'.2.2.2.2.1,hi'.2.2.2.2.2.1,?_⟩
 have hin:v.inside 5 b=true:=decide_eq_true ⟨by omega,by omega,hi'.2.2.1,hi'.2.2.2.1,hi'.2.2.2.2.1,by omega,hi'.2.2.2.2.2.2⟩
 unfold aJ.valid at h ⊢
 rw [hi] at h
 rw [hin]
 exact h
theorem ui {ls:List cJ} {x:aW} {k j:Nat} {l:cJ} {v:Verb} {v':aJ} {va:Option Addr} {vc:Nat} {ap:Option Addr} {apc:Nat} (hj:ls[j]?=some l) (hv:v.node=j) :
  aW.pure { x with lanes:=ls.set j ⟨l.pb,l.p.post v' v va vc,l.places++[k],ap,apc⟩ }=(aW.pure { x with lanes:=ls }).postOne k v:=by
 simp only [aW.pure,Comp.postOne,Comp.mk.injEq,true_and,and_true]
 rw [hv,List.map_set,Int.toNat_natCast]
 apply List.ext_getElem?
 intro q
 rw [List.getElem?_set,List.getElem?_modify]
 have hlt:=aN hj
 by_cases he:j=q
 ·subst he
  have hj':ls[j]=l:=by simpa [hlt] using hj
  simp [hlt,hj',cJ.pure,cX.post,cX.pure]
 ·simp [he]
theorem EL (a:List Nat) (k:Nat):is ((a++[k]).map Int.ofNat)=is (a.map Int.ofNat)++[.int .i64 k]:=by simp [is]
theorem Rd.next {A A':Nat→Prop} {χ χ':Nat→Tag} {w w':World} (n:Next A A' χ χ' w w') (ha:∀ k,χ k≠.imm→A k) {a:Option Addr} {xs:List Value} (h:Rd w a xs) (ho:xs=[]∨Off A a):Rd w' a xs∧(xs=[]∨Off A' a):=by
 refine ⟨h.keep (n.keep.mono λk _ hc=>ha k hc) ho,?_⟩
 by_cases hx:xs=[]
 ·exact .inl hx
 ·refine .inr ?_
  rcases ho with ho | ho
  ·exact absurd ho hx
  ·cases a with
   |none=>trivial
   |some a=>
    intro hc
    have hlt:=h.lt hx
    rcases (n.iff _).1 hc with hc | hc
    ·exact ho (ha _ (n.grow _ hlt hc))
    ·exact ho hc.2.1
theorem bI.next {A A':Nat→Prop} {χ χ':Nat→Tag} {w w':World} (n:Next A A' χ χ' w w') (ha:∀ k,χ k≠.imm→A k) {v:aJ} {x:Verb} (h:bI A w v x):bI A' w' v x:=
 h.keep (n.keep.mono λk _ hc=>ha k hc) λk hlt hc=>by
  rcases (n.iff _).1 hc with hc | hc
  ·exact ha _ (n.grow _ hlt hc)
  ·exact hc.2.1
theorem j9.next {A A':Nat→Prop} {χ χ':Nat→Tag} {w w':World} (n:Next A A' χ χ' w w') (ha:∀ k,χ k≠.imm→A k) {v:aY} {x:Done} (h:j9 A w v x):j9 A' w' v x:=
 h.keep (n.keep.mono λk _ hc=>ha k hc) λk hlt hc=>by
  rcases (n.iff _).1 hc with hc | hc
  ·exact ha _ (n.grow _ hlt hc)
  ·exact hc.2.1
theorem Ds.next {A A':Nat→Prop} {χ χ':Nat→Tag} {w w':World} (n:Next A A' χ χ' w w') (ha:∀ k,χ k≠.imm→A k) {raw:List aY} {xs:List Done} (h:Ds A w raw xs):Ds A' w' raw xs:=
 ⟨h.1,λi v x hv hx=>(h.2 i v x hv hx).next n ha⟩
theorem Vs.next {A A':Nat→Prop} {χ χ':Nat→Tag} {w w':World} (n:Next A A' χ χ' w w') (ha:∀ k,χ k≠.imm→A k) {raw:List aJ} {xs:List Verb} (h:Vs A w raw xs):Vs A' w' raw xs:=
 ⟨h.1,λi v x hv hx=>(h.2 i v x hv hx).next n ha⟩
theorem pK {α:Type} {l:List α} {k:Nat} (h:k<l.length):l.drop k=l[k]::l.drop (k+1):=List.drop_eq_getElem_cons h
set_option maxHeartbeats 3200000 in
theorem zV {A:Nat→Prop} {χ:Nat→Tag} {w:World} {fb:Nat} {X:FabX} (h:aZ A χ w fb X) (hok:ue X.pure) {i:Nat} {x:aW} (hx:X.clients[i]?=some x) (hal:x.alive=true) (hbb:x.bb=none)
  {la:Option Addr} {lcap:Nat} {raw:List aJ} {vs:List Verb} (hr:Rd w la (eC raw).flatten) (hoff:(eC raw).flatten=[]∨Off A la) (hvs:Vs A w raw vs) (hn:vs.length≤1024) (hgood:eP X.nodes.length X.lines vs=0)
  {j:List Value} {R:Value→World→Prop} (hR:∀ u A' χ' ls,BP A χ w fb X i x vs vs.length u A' χ' ls→∀ jj,W prog (sub (aD f73) [1,1,1,1,1]) (eX la raw.length lcap (some ⟨X.cb,0+i * 7,none⟩) jj) (retQ prog f73 R) u) :
  cQ prog (.loop (sub (aD f73) [1,1,1,1,0,1,0,0])) (cW ⟨fb,0,none⟩ la raw.length lcap (some ⟨X.cb,0+i * 7,none⟩) la raw.length lcap raw.length 0 j)
   (aK 3 (seqQ (λenv w=>W prog (sub (aD f73) [1,1,1,1,1]) env (retQ prog f73 R) w) (retQ prog f73 R))) w:=by
 have hlen:raw.length=vs.length:=hvs.1
 have hxl:=aN hx
 have hco:=hok.client i x.pure (by simp [FabX.pure,hx])
 have hll:x.lanes.length=X.nodes.length:=by
  have:=hco.lanes
  simp [aW.pure,hal,FabX.pure] at this
  exact this
 have hnl:=hok.nodes
 have hpend:pend x.pure.lanes=0:=by
  have h1:=hco.waiting
  have h2:=hco.batch.1
  simp [aW.pure,hbb] at h2
  have h3:x.pure.waiting=x.waiting:=rfl
  omega
 have hlane0:∀ (q:Nat) (l:cJ),x.lanes[q]?=some l→l.p.node=q∧l.p.verbs.length≤0∧l.places.length≤0:=by
  intro q l hl
  have ho:=hco.lane q l.pure (by simp [aW.pure,hl])
  have hz:l.p.verbs.length=0:=by
   have hm:l.pure.pair.verbs.length ∈ x.pure.lanes.map λl=>l.pair.verbs.length:=List.mem_map.2 ⟨l.pure,List.mem_of_getElem? (i:=q) (by simp [aW.pure,hl]),rfl⟩
   have:=List.sum_eq_zero_iff_forall_eq_nat.1 hpend _ hm
   exact this
  have hp:=ho.places
  refine ⟨ho.node,by omega,?_⟩
  have:l.pure.places.length=l.pure.pair.verbs.length:=hp
  have e:l.pure.pair.verbs.length=l.p.verbs.length:=rfl
  have e2:l.pure.places.length=l.places.length:=rfl
  omega
 refine aT mix (λm env u=>∃ (k:Nat) (jj:List Value) (A':Nat→Prop) (χ':Nat→Tag) (ls:List cJ),k≤vs.length∧m=vs.length - k∧env=cW ⟨fb,0,none⟩ la raw.length lcap (some ⟨X.cb,0+i * 7,none⟩) la raw.length lcap raw.length k jj∧
   BP A χ w fb X i x vs k u A' χ' ls) vs.length ⟨0,_,A,χ,x.lanes,by omega,by omega,rfl,h.refl (Keep.refl _ _),?_,rfl,hll,hlane0⟩ ?_
 ·have:({ x with lanes:=x.lanes }:aW)=x:=rfl
  rw [this,iw hx]
  exact h
 rintro m env u ⟨k,jj,A',χ',ls,hk,rfl,rfl,I⟩
 rw [j0]
 refine aH (λhlt=>?_) (λhlt=>?_)
 ·have hkl:k<vs.length:=by omega
  have hkr:k<raw.length:=by omega
  have hv:raw[k]?=some raw[k]:=by simp [hkr]
  have hvv:bI A w raw[k] vs[k]:=hvs.2 k _ _ hv (by simp [hkl])
  have hvv':bI A' u raw[k] vs[k]:=hvv.next I.next h.avoid
  obtain ⟨hrd,hro⟩:=Rd.next I.next h.avoid hr hoff
  obtain ⟨ba,oa,rfl,hca,hcell⟩:=hrd.row (nl raw) (by omega) (rT hv)
  have hval:=pJ hgood vs[k] (List.getElem_mem hkl)
  obtain ⟨hn0,hn1,hval5⟩:=yC hval
  have hnode:vs[k].v.Node=vs[k].node:=rfl
  rw [hnode] at hn0 hn1
  have hrn:raw[k].Node=vs[k].node:=by rw [hvv.eq];rfl
  obtain ⟨q,hq⟩:∃ q:Nat,vs[k].node=q:=⟨vs[k].node.toNat,by omega⟩
  have hql:q<ls.length:=by rw [I.len];omega
  have hj:ls[q]?=some ls[q]:=by simp [hql]
  generalize hl:ls[q]=l at hj
  obtain ⟨hl1,hl2,hl3⟩:=I.lane q l hj
  have hcl:(X.clients.set i { x with lanes:=ls })[i]?=some { x with lanes:=ls }:=by simp [hxl]
  refine bE (by omega) (by omega) ?_
  refine mv (v:=raw[k]) (by simpa using hca) ?_
  rintro b1 w1 hb1 hw1
  obtain ⟨hz,hn1'⟩:=aO hb1 hw1
  refine ⟨cK (vs:=aJ.cells raw[k]) hz (by simp [aJ.cells]) (aJ.single raw[k]),?_⟩
  rintro w2 hw2 w3 hw3
  obtain ⟨hbox,hn2⟩:=mb (vs:=aJ.cells raw[k]) hz (by simp [aJ.cells]) hn1' (by omega) hw2
  have hn3:Go.Eng.New w2 w3:=by rw [hw3];exact aU _
  have hbox3:=New.blk hn3 hbox
  have hnu3:Go.Eng.New u w3:=hn2.new hn3
  have hF3:=I.fab.new hnu3
  clear hw1 hw2 hz hn1' hw3
  refine ⟨λz=>Go.Eng.New w3 z,Keep.refl _ _,_,_,_,λz hz=>(hF3.new hz).ccell (k:=2) hcl rfl,_,λz hz=>(New.blk hz hbox3).cell (i:=1) rfl,?_⟩
  obtain ⟨g,hga,hgi,⟨gcs,hgb⟩,hgc,hgk⟩:=Owns.row (hF3.client i _ hcl).own (gH ls) (by omega) (fQ hj)
  show idxS x.la ls.length raw[k].Node 2 _
  have hga':x.la=some ⟨g,0,none⟩:=hga
  rw [hga',hrn,hq]
  refine bE (by omega) (by omega) ?_
  rw [Int.toNat_natCast]
  intro w4 hw4
  have hn4:Go.Eng.New w3 w4:=by rw [hw4];exact aU _
  clear hw4
  have hbox4:=New.blk hn4 hbox3
  have hnu4:Go.Eng.New u w4:=hnu3.new hn4
  have hF4:=I.fab.new hnu4
  have hcx4:=hF4.client i _ hcl
  have hlx4:=hcx4.lane q l hj
  refine ⟨λz=>Go.Eng.New w4 z,Keep.refl _ _,some ⟨l.pb,0,none⟩,λz hz=>?_,?_⟩
  ·exact eG (hn4.new hz) (hgk 0 _ rfl) id
  refine mV (v:=raw[k]) (λz hz=>vbox (New.blk hz hbox4)) ?_
  refine ⟨_,λz hz=>(hF4.new hz).fab.cell (i:=0) rfl,?_⟩
  have hvv4:bI A' w4 raw[k] vs[k]:=hvv'.keep (Keep.of_new hnu4) λ_ _ h=>h
  refine aF (Dw hlx4.pair hvv4 hval5 (by rw [hq];exact hl1.symm) (by omega)) ?_
  rintro r w5 ⟨rfl,v',va,vc,hpair,hkeep,hva⟩
  have hval':∀ k,isB va k→k<w5.heap.size:=by
   intro b hb
   have hp:=hpair (λk=>(k<w4.heap.size∧A' k)∨isB va k) (λk hk=>hk) (λk hk=>?_)
   ·exact hp.own.lt hb
   ·rcases hk with hk | hk | hk
    ·exact .inl ⟨hk▸hlx4.pair.blk.lt,hlx4.pair.mine k (.inl hk)⟩
    ·exact .inr hk
    ·exact .inl ⟨hlx4.pair.wown.lt hk,hlx4.pair.mine k (.inr (.inr hk))⟩
  have I4:BP A χ w fb X i x vs k w4 A' χ' ls:=⟨I.next.new hnu4,hF4,I.pure,I.len,I.lane⟩
  obtain ⟨A1,χ1,nx1,hF5⟩:=BQ I4 hxl hkl hn hj hq (by have:=hnl.1;simp [FabX.pure] at this;omega) rfl hpair hkeep hva hval'
  have hcl5:(X.clients.set i { x with lanes:=ls.set q { l with p:=l.p.post v' vs[k] va vc } })[i]?=some { x with lanes:=ls.set q { l with p:=l.p.post v' vs[k] va vc } }:=by simp [hxl]
  have hj5:(ls.set q { l with p:=l.p.post v' vs[k] va vc })[q]?=some { l with p:=l.p.post v' vs[k] va vc }:=by simp [hql]
  have hcx5:=hF5.client i _ hcl5
  have hlx5:=hcx5.lane q _ hj5
  obtain ⟨g',hga5,_,⟨gcs5,hgb5⟩,_,hgk5⟩:=Owns.row hcx5.own (gH _) (by omega) (fQ hj5)
  have hgg:g'=g:=by
   have:x.la=some ⟨g',0,none⟩:=hga5
   rw [hga'] at this
   simp at this
   exact this.symm
  subst hgg
  refine ⟨_,rfl,_,_,_,hgk5 1 _ rfl,?_⟩
  rintro b2 w6 hb2 hw6
  obtain ⟨hz6,hn6⟩:=aO hb2 hw6
  have hF6:=hF5.new hn6
  clear hw6
  have hlx6:=(hF6.client i _ hcl5).lane q _ hj5
  obtain ⟨ti,hi,hzz,hsz,hby⟩:=iF (T:=3) (z:=.int .i64 0) (n:=1) (m:=8) (by kernel_rfl)
  have hown:Owns w6 3 ti.size l.pla l.places.length l.plc (is (l.places.map Int.ofNat)):=by rw [hsz];exact hlx6.places
  obtain ⟨ap,apc,w7,hrun,hown7,hk7,hap⟩:=hown.append (P:=prog) (t:=22) (ty:=22) Tryz.underlying22 hi hzz (by rw [hsz];rfl) (by omega)
   (s:=some ⟨b2,0,none⟩) (m:=1) (c:=1) (news:=[.int .i64 k]) (by rw [hsz];rfl) (eQ hz6 (by simp)) (by simp [single]) (by omega) (by rw [hby];omega)
  rw [hsz] at hown7
  refine ⟨ap,_,apc,w7,hrun,?_⟩
  have hk7':Keep (λz=>χ1 z=.places i q) w6 w7:=hk7.mono λz _ hz=>hlx6.ptag z hz
  have hgb7:Blk w7 g' gcs5 TL:=hk7'.blk (New.blk hn6 hgb5) (by rw [hcx5.tag g' ⟨0,hga5⟩];simp)
  have hown7':Owns w7 TL 2 x.la (ls.set q { l with p:=l.p.post v' vs[k] va vc }).length x.lc (j4 (ls.set q { l with p:=l.p.post v' vs[k] va vc })).flatten:=(hcx5.own.new hn6).keep hk7' λz hz=>by rw [hcx5.tag z hz];simp
  refine ⟨⟨_,eG hk7' (eG hn6 (hgk5 1 _ rfl) id) (by rw [hcx5.tag g' ⟨0,hga5⟩];simp)⟩,hgb7.frozen,?_⟩
  intro w8 hw8
  have hk8:Keep (λz=>z=g') w7 w8:=by rw [hw8];exact aR _ _ _ _
  have hk68:Keep (λz=>tpl i q (χ1 z)) w6 w8:=(hk7'.mono λz _ e=>.inl e).trans hk8 λz _ e=>.inr (by rw [e];exact hcx5.tag g' ⟨0,hga5⟩)
  have hlan8:Owns w8 TL 2 x.la (ls.set q { l with p:=l.p.post v' vs[k] va vc }).length x.lc ((j4 (ls.set q { l with p:=l.p.post v' vs[k] va vc })).set q (cJ.cells ⟨l.pb,l.p.post v' vs[k] va vc,l.places++[k],ap,apc⟩)).flatten:=by
   rw [hga'] at hown7' ⊢
   rw [hw8]
   have:=Owns.setCell hown7' (i:=q * 2+1) (by simp;omega) (.slice ap (l.places.length+1) apc)
   rw [tU (gH _) _ (fQ hj5) (by omega)] at this
   simpa [cJ.cells] using this
  have hgp:χ1 g'=.lanes i:=hcx5.tag g' ⟨0,hga5⟩
  have hapt:∀ z,isB ap z→χ1 z=.places i q∨w6.heap.size≤z:=by
   intro z hz
   rcases hap with e | e
   ·exact .inl (hlx6.ptag z (e▸hz))
   ·obtain ⟨o,ho⟩:=hz
    rw [e] at ho
    simp at ho
    exact .inr (by omega)
  have hown8:Owns w8 TI 1 ap (l.places++[k]).length apc (is ((l.places++[k]).map Int.ofNat)):=by
   rw [EL]
   have:=hown7.keep hk8 (λz hz e=>?_)
   ·simpa using this
   ·rcases hapt z hz with h1 | h1
    ·rw [e,hgp] at h1;cases h1
    ·have:=(New.blk hn6 hgb5).lt
     omega
  clear hw8
  obtain ⟨A2,χ2,nx2,hF8⟩:=hF6.setPlaces hcl5 hj5 hk68 hapt hown8 hlan8
  rw [bP,bP] at hF8
  rw [show IntKind.i64.wrap ((k:Int)+1)=((k+1:Nat):Int) by rw [w64 (by omega) (by omega)];rfl]
  refine ⟨vs.length - (k+1),by omega,k+1,_,A2,χ2,ls.set q ⟨l.pb,l.p.post v' vs[k] va vc,l.places++[k],ap,apc⟩,by omega,rfl,rfl,?_⟩
  refine ⟨((I4.next.trans nx1).new hn6).trans nx2,hF8,?_,by simp [I.len],?_⟩
  ·rw [ui hj hq,←I.pure,pK hkl,uh]
  ·intro z y hy
   rw [List.getElem?_set] at hy
   split at hy
   ·rename_i he
    subst he
    simp only [Option.some.injEq] at hy
    subst hy
    refine ⟨hl1,?_,?_⟩
    ·simp [cX.post];omega
    ·simp;omega
   ·obtain ⟨a,b,c⟩:=I.lane z y hy
    exact ⟨a,by omega,by omega⟩
 ·have:k=vs.length:=by omega
  subst this
  exact hR u A' χ' ls I _
theorem yD (n:Nat):reps n [.int .i64 0,.slice none 0 0]=(j1 (List.replicate n ⟨0,none,0,0⟩)).flatten:=by
 induction n with
 |zero=>rfl
 |succ n ih=>
  rw [List.replicate_succ,j1,List.map_cons,List.flatten_cons,←j1,←ih]
  rfl
theorem Dx (A:Nat→Prop) (w:World) (n:Nat):Ds A w (List.replicate n ⟨0,none,0,0⟩) (List.replicate n ⟨0,[]⟩):=by
 refine ⟨by simp,λi v x hv hx=>?_⟩
 rw [List.getElem?_replicate] at hv hx
 split at hv
 ·rw [if_pos ‹_›] at hx
  simp only [Option.some.injEq] at hv hx
  subst hv;subst hx
  exact ⟨rfl,rfl,.inl rfl,λ_=>rfl,.inl rfl,by simp,Nat.le_refl _⟩
 ·cases hv
theorem je {w:World} {cb:Nat} {cs:List aW} (h:Blk w cb (gG cs).flatten TC) {i k:Nat} {c c':aW} (hc:cs[i]?=some c) (hk:k<7) {v:Value} (e:c.cells.set k v=c'.cells) :
  Blk (w.setCell ⟨cb,0+i * 7+k,none⟩ v) cb (gG (cs.set i c')).flatten TC∧(cs.set i c')[i]?=some c':=by
 have:=C3 h hc hk v
 rw [e,lN] at this
 exact ⟨this,by simp [aN hc]⟩
theorem lO {w:World} {cb:Nat} {cs:List aW} (h:Blk w cb (gG cs).flatten TC) {i k:Nat} {c:aW} {v:Value} (hc:cs[i]?=some c) (hv:c.cells[k]?=some v):w.cell? ⟨cb,0+i * 7+k,none⟩=some v:=by
 rw [Nat.zero_add]
 exact h.cell (rj (rW _) (np hc) hv)
open Classical in
set_option maxHeartbeats 1600000 in
theorem EM {A:Nat→Prop} {χ:Nat→Tag} {w:World} {fb:Nat} {X:FabX} (h:aZ A χ w fb X) (hok:ue X.pure) (c:Int) {la:Option Addr} {lcap:Nat} {raw:List aJ} {vs:List Verb}
  (hr:Rd w la (eC raw).flatten) (hoff:(eC raw).flatten=[]∨Off A la) (hvs:Vs A w raw vs) :
  Does 73 [ptr fb,.int .i64 c,.slice la raw.length lcap] w λv w'=>v=.int .i64 (X.pure.post c vs).1∧dE A χ w fb (X.pure.post c vs).2 w' λ_=>True:=by
 refine does Tryz.func73 ?_
 rw [ptr,nk]
 have hlen:raw.length=vs.length:=hvs.1
 rcases X.cl_cases c with ⟨h1,h2⟩ | ⟨i,x,rfl,h1,h2⟩
 ·refine aF (kC h h2) ?_
  rintro v w' ⟨rfl,rfl⟩
  have ht:X.pure.post c vs=(1,X.pure):=by simp [Fab.post,h1]
  refine ⟨_,rfl,?_⟩
  rw [ht]
  exact ⟨rfl,dE.same h (Keep.refl _ _) trivial⟩
 refine aF (jd h h1) ?_
 rintro v w' ⟨rfl,rfl⟩
 refine ⟨_,rfl,⟨_,h.ccell (k:=0) h1 rfl,dG (λha=>?_) (λha=>?_)⟩⟩
 ·have ht:X.pure.post i vs=(1,X.pure):=by simp [Fab.post,h2,aW.pure,ha]
  rw [ht]
  exact ⟨rfl,dE.same h (Keep.refl _ _) trivial⟩
 have hcx:=h.client i x h1
 refine ⟨_,_,_,h.ccell (k:=3) h1 rfl,?_⟩
 cases hbb:x.bb with
 |some b=>
  have ht:X.pure.post i vs=(3,X.pure):=by simp [Fab.post,h2,aW.pure,ha,hbb]
  rw [ht]
  exact ⟨rfl,dE.same h (Keep.refl _ _) trivial⟩
 |none=>
  refine er rfl (bK (λh0=>?_) (λh0=>?_))
  ·have hz:vs=[]:=List.eq_nil_of_length_eq_zero (by omega)
   have ht:X.pure.post i vs=(1,X.pure):=by simp [Fab.post,h2,aW.pure,ha,hbb,hz]
   rw [ht]
   exact ⟨rfl,dE.same h (Keep.refl _ _) trivial⟩
  have hne:¬ vs=[]:=λe=>h0 (by rw [hlen,e];rfl)
  refine aH (λhg=>?_) (λhg=>?_)
  ·have ht:X.pure.post i vs=(18,X.pure):=by
    have:1024<vs.length:=by omega
    simp [Fab.post,h2,aW.pure,ha,hbb,hne,this]
   rw [ht]
   exact ⟨rfl,dE.same h (Keep.refl _ _) trivial⟩
  have hle:vs.length≤1024:=by omega
  have ht:X.pure.post i vs=if eP X.nodes.length X.lines vs≠0 then (eP X.nodes.length X.lines vs,X.pure) else (0,X.pure.setC i (x.pure.posted' vs)):=by
   have e0:¬ vs.length>1024:=by omega
   have e1:X.pure.nodes.length=X.nodes.length:=by simp [FabX.pure]
   have e2:X.pure.lines=X.lines:=rfl
   simp only [Fab.post,h2,e1,e2]
   rw [if_neg (by simp [aW.pure,ha]),if_neg (by simp [aW.pure,hbb]),if_neg (by simpa using hne),if_neg e0]
  rw [ht]
  refine aT mix (λm env u=>∃ (k:Nat) (jj:List Value),k≤vs.length∧m=vs.length - k∧env=dT ⟨fb,0,none⟩ la raw.length lcap (some ⟨X.cb,0+i * 7,none⟩) la raw.length lcap raw.length k jj∧
   Go.Eng.New w' u∧eP X.nodes.length X.lines vs=eP X.nodes.length X.lines (vs.drop k)) vs.length ⟨0,_,by omega,by omega,rfl,Keep.refl _ _,rfl⟩ ?_
  rintro m env u ⟨k,jj,hk,rfl,rfl,hnu,hbad⟩
  rw [jZ]
  refine aH (λhlt=>?_) (λhlt=>?_)
  ·have hkl:k<vs.length:=by omega
   have hkr:k<raw.length:=by omega
   have hv:raw[k]?=some raw[k]:=by simp [hkr]
   have hvv:bI A w' raw[k] vs[k]:=hvs.2 k _ _ hv (by simp [hkl])
   obtain ⟨ba,oa,rfl,hca,hcell⟩:=(Rd.new hnu hr).row (nl raw) (by omega) (rT hv)
   refine bE (by omega) (by omega) ?_
   refine mv (v:=raw[k]) (by simpa using hca) ?_
   rintro b1 w1 hb1 hw1
   obtain ⟨hz,hn1'⟩:=aO hb1 hw1
   refine ⟨cK (vs:=aJ.cells raw[k]) hz (by simp [aJ.cells]) (aJ.single raw[k]),?_⟩
   rintro w2 hw2 w3 hw3
   obtain ⟨hbox,hn2⟩:=mb (vs:=aJ.cells raw[k]) hz (by simp [aJ.cells]) hn1' (by omega) hw2
   have hn3:Go.Eng.New w2 w3:=by rw [hw3];exact aU _
   have hbox3:=New.blk hn3 hbox
   have hnu3:Go.Eng.New w' w3:=(hnu.new hn2).new hn3
   have hF3:=h.new hnu3
   clear hw1 hw2 hz hn1' hw3
   refine ⟨λz=>Go.Eng.New w3 z,Keep.refl _ _,mV (v:=raw[k]) (λz hz=>vbox (New.blk hz hbox3)) ?_⟩
   refine ⟨_,_,_,λz hz=>(hF3.new hz).fab.cell (i:=1) rfl,_,λz hz=>(hF3.new hz).fab.cell (i:=0) rfl,?_⟩
   refine aF (wN _ raw[k] _ _) ?_
   rintro r w4 ⟨rfl,hk4⟩
   refine ⟨_,rfl,hk4,?_⟩
   rw [hvv.valid]
   rw [pK hkl,pI] at hbad
   refine cU (λhb=>?_) (λhb=>?_)
   ·rw [if_pos hb] at hbad
    rw [hbad,if_pos hb]
    exact ⟨rfl,dE.same h (hnu3.new hk4) trivial⟩
   ·rw [if_neg (λhc=>hc hb)] at hbad
    rw [show IntKind.i64.wrap ((k:Int)+1)=((k+1:Nat):Int) by rw [w64 (by omega) (by omega)];rfl]
    exact ⟨vs.length - (k+1),by omega,k+1,_,by omega,rfl,rfl,hnu3.new hk4,hbad⟩
  ·have:k=vs.length:=by omega
   subst this
   rw [List.drop_length,vp] at hbad
   rw [if_neg (λhc=>hc hbad)]
   rw [kO]
   have hu:=h.new hnu
   have hru:Rd u la (eC raw).flatten:=Rd.new hnu hr
   have hvsu:Vs A u raw vs:=hvs.keep (Keep.of_new hnu) λ_ _ h=>h
   refine zV hu hok h1 ha hbb hru hoff hvsu hle hbad ?_
   intro u2 A' χ' ls I jj2
   rw [kP]
   have hF:=I.fab
   have hcl:(X.clients.set i { x with lanes:=ls })[i]?=some { x with lanes:=ls }:=by simp [aN h1]
   have hcx2:=hF.client i _ hcl
   refine ⟨by omega,by omega,by omega,by omega,?_⟩
   rintro b1 w1 hb1 hw1
   rw [yD] at hw1
   obtain ⟨hbt,hn1⟩:=aO hb1 hw1
   clear hw1
   simp only at hbt
   have hF1:=hF.new hn1
   have hcls:Blk w1 X.cb (gG (X.clients.set i { x with lanes:=ls })).flatten TC:=hF1.cls
   refine ⟨⟨_,lO (k:=3) hcls hcl rfl⟩,hcls.frozen,?_⟩
   intro w2 hw2
   obtain ⟨hcls2,hcl2⟩:=je (k:=3) (c':={ x with lanes:=ls,bb:=some b1,raw:=List.replicate raw.length ⟨0,none,0,0⟩,batch:=List.replicate vs.length ⟨0,[]⟩ }) hcls hcl (by omega) (v:=.slice (some ⟨b1,0,none⟩) (Int.toNat raw.length) (Int.toNat raw.length)) (by simp [aW.cells])
   rw [←hw2] at hcls2
   have hk2:Keep (λz=>z=X.cb) w1 w2:=by rw [hw2];exact aR _ _ _ _
   clear hw2
   refine ⟨⟨_,lO (k:=4) hcls2 hcl2 rfl⟩,hcls2.frozen,?_⟩
   intro w3 hw3
   obtain ⟨hcls3,hcl3⟩:=je (k:=4) (c':={ x with lanes:=ls,bb:=some b1,raw:=List.replicate raw.length ⟨0,none,0,0⟩,batch:=List.replicate vs.length ⟨0,[]⟩,waiting:=vs.length }) hcls2 hcl2 (by omega) (v:=.int .i64 raw.length) (by simp [aW.cells,hlen])
   rw [←hw3] at hcls3
   have hk3:Keep (λz=>z=X.cb) w2 w3:=by rw [hw3];exact aR _ _ _ _
   clear hw3
   refine ⟨_,lO (k:=5) hcls3 hcl3 rfl,⟨_,lO (k:=5) hcls3 hcl3 rfl⟩,hcls3.frozen,?_⟩
   intro w4 hw4
   obtain ⟨hcls4,hcl4⟩:=je (k:=5) (c':={ x with lanes:=ls,bb:=some b1,raw:=List.replicate raw.length ⟨0,none,0,0⟩,batch:=List.replicate vs.length ⟨0,[]⟩,waiting:=vs.length,trips:=IntKind.i64.wrap (x.trips+1) }) hcls3 hcl3 (by omega) (v:=.int .i64 (IntKind.i64.wrap (x.trips+1))) (by simp [aW.cells])
   rw [←hw4] at hcls4
   have hk4:Keep (λz=>z=X.cb) w3 w4:=by rw [hw4];exact aR _ _ _ _
   clear hw4
   refine ⟨_,lO (k:=6) hcls4 hcl4 rfl,⟨_,lO (k:=6) hcls4 hcl4 rfl⟩,hcls4.frozen,?_⟩
   intro w5 hw5
   obtain ⟨hcls5,hcl5⟩:=je (k:=6) (c':={ x with lanes:=ls,bb:=some b1,raw:=List.replicate raw.length ⟨0,none,0,0⟩,batch:=List.replicate vs.length ⟨0,[]⟩,waiting:=vs.length,trips:=IntKind.i64.wrap (x.trips+1),posted:=IntKind.i64.wrap (x.posted+vs.length) }) hcls4 hcl4 (by omega) (v:=.int .i64 (IntKind.i64.wrap (x.posted+raw.length))) (by simp [aW.cells,hlen])
   rw [←hw5] at hcls5
   have hk5:Keep (λz=>z=X.cb) w4 w5:=by rw [hw5];exact aR _ _ _ _
   clear hw5
   have hk15:Keep (λz=>z=X.cb) w1 w5:=((hk2.trans hk3 λ_ _ h=>h).trans hk4 λ_ _ h=>h).trans hk5 λ_ _ h=>h
   have hkc:Keep (λz=>χ' z=.clients) w1 w5:=hk15.mono λz _ e=>by rw [e];exact hF.ctag
   have hku:Keep (λz=>χ' z=.clients) u2 w5:=(Keep.of_new hn1).trans hkc λ_ _ h=>h
   let χ1:Nat→Tag:=λk=>if k=b1 then .batch i else χ' k
   have e1:χ1 b1=.batch i:=if_pos rfl
   have e2:∀ k,k≠b1→χ1 k=χ' k:=λk hk=>by simp only [χ1];rw [if_neg hk]
   have hold:∀ k,k<u2.heap.size→χ1 k=χ' k:=λk hk=>e2 k (by omega)
   obtain ⟨m,_⟩:=hF.move (T:=λt=>t=.clients) (χ':=χ1) hku (by simp) (λk hk hc=>by rw [hold k hk] at hc;exact hc) (λk hk _ _=>hold k hk)
   have f1:=Owns.moved m hcx2.own hcx2.tag (by simp) (by simp)
   have hb5:Blk w5 b1 (j1 (List.replicate raw.length ⟨0,none,0,0⟩)).flatten TD:=by
    have hne1:b1≠X.cb:=by have:=hF.cls.lt;have e:({ X with clients:=X.clients.set i { x with lanes:=ls } }:FabX).cb=X.cb:=rfl;omega
    have:=hk15.blk hbt hne1
    simpa using this
   have q1:kY (iK A' χ' χ1 u2) χ1 w5 i { x with lanes:=ls,bb:=some b1,raw:=List.replicate raw.length ⟨0,none,0,0⟩,batch:=List.replicate vs.length ⟨0,[]⟩,waiting:=vs.length,trips:=IntKind.i64.wrap (x.trips+1),posted:=IntKind.i64.wrap (x.posted+vs.length) }:=by
    refine ⟨f1.1,f1.2,λj l hl=>(hcx2.lane j l hl).moved m (by simp) (by simp),(λhc=>nomatch hc),λb hb=>?_,?_⟩
    ·simp only [Option.some.injEq] at hb
     subst hb
     exact ⟨hb5,e1⟩
    ·have:=Dx (iK A' χ' χ1 u2) w5 vs.length
     simpa [hlen] using this
   have q2:∀ k,χ1 k≠.imm→k<w5.heap.size:=λk hc=>by
    by_cases hkb:k=b1
    ·rw [hkb];exact hb5.lt
    ·rw [e2 k hkb] at hc
     exact Nat.lt_of_lt_of_le (hF.lowt hc) hku.size
   obtain ⟨nx,hF5⟩:=hF.setClient (χ':=χ1) hcl (hku.mono λk _ e=>.inl e) (λk hk hc=>by rw [hold k hk] at hc;exact hc) (λk hk _ _=>hold k hk) q2 (by
    rw [lN]
    rw [bP,bP,bP] at hcls5
    exact hcls5) (by rw [hold _ hF.cls.lt];exact hF.ctag) q1
   rw [bP] at hF5
   refine ⟨rfl,_,_,_,((h.refl hnu).trans I.next).trans nx,hF5,?_,trivial⟩
   refine (FabX.set_pure X i _).trans ?_
   congr 1
   have hp:=I.pure
   rw [List.drop_length,vo] at hp
   simp only [Comp.posted',←hp]
   simp [aW.pure]
end Go.Proofs.YtgpmeaicjonenaaGreat
