import Derived.Test.YtgpmeaicjonenaaGreata33
set_option linter.unusedVariables false
namespace Go.Proofs.YtgpmeaicjonenaaGreat
open Go.Eng C12
def rdV (a c:Int):Verb:=⟨1,0,a,c,0,0,[],1,1⟩
theorem Eh {n L:Nat} {a c:Int} (hn:1≤n∧n≤5) (hL:1≤L∧L≤256) (ha:32≤a) (hc8:1≤c∧c≤8) (h3:a+c≤L * 8):VGo n L (rdV a c):=by
 refine ⟨λk hk hk5=>?_,⟨by show (0:Int)≤0;omega,by show (0:Int)<n;omega⟩,rfl,rfl⟩
 have hc:(rdV a c).v.count=c:=rfl
 have hi:(rdV a c).v.inside k L=true:=by
  unfold aJ.inside aJ.l0 aJ.l1
  rw [hc]
  apply decide_eq_true
  show 1≤k∧k≤5∧1≤(L:Int)∧(L:Int)≤256∧0≤(0:Int)∧(0:Int)<k∧0≤a∧a<(L:Int) * 8∧c≤1024∧(a+c - 1) / 8<(L:Int)∧(a+c - 1) / 8 - a / 8<128
  omega
 unfold aJ.valid
 rw [hc,if_neg (by omega),hi,if_neg (by simp),if_neg]
 unfold aJ.l0 aJ.l1 aJ.last
 rw [hc]
 show ¬ (a / 8≤(if (1:Int)=1 then 3 else 2)∧(if (1:Int)=1 then 3 else 2)<(a+c - 1) / 8)
 rw [if_pos rfl]
 omega
theorem Ei {n L:Nat} {x:aP} {p:Pair} {vs':List Verb} {a k:Int} (hg:VGo n L (rdV a k)) (hn:n≤5) (hx:NFix L x) {c:Nat} (hc:c<6) (hcl:p.client=c) (hinc:p.inc=1) (hP:bO p) (hpv:p.verbs=rdV a k::vs') (h0:0≤a) (h1:1≤k) (h2:a % 8+k≤8) :
  p.step x=(p.done,x,some ⟨0,x.read a k⟩):=by
 have hr:=gV hx hn hg hc hcl hinc (p:=p)
 have hp:(rdV a k).v.pieces=[(a,k)]:=fZ (v:=(rdV a k).v) (by show 1≤k;omega) h2 h0
 rw [rq hP hpv hr hp]
 rfl
theorem read_len {x:aP} {a k:Int} (h0:0≤a) (h1:0≤k) (h:(a+k).toNat≤x.words.length):((x.read a k).length:Int)=k:=by
 unfold aP.read
 rw [List.length_take,List.length_drop]
 omega
structure OneB (cv:Conv) (n L:Nat) (job:cv.J) (vs:List Verb) (res:List Done→cv.O):Prop where
 nn:1≤n∧n≤5
 LL:98≤L∧L≤256
 next0:∃ o,cv.next job []=(vs,o,false)
 next1:∀ D,Fit vs D→cv.next job [D]=([],res D,true)
 ne:vs≠[]
 few:vs.length≤24
 each:∀ v ∈ vs,∃ a k:Int,v=rdV a k∧768≤a∧1≤k∧a % 8+k≤8∧a+k≤L * 8
structure OneC {cv:Conv} (n i:Nat) (job:cv.J) (vs:List Verb) (res:List Done→cv.O) (ok:Nat→List Int→Prop) (C:Comp) (t:Tk cv) (ph:Nat) (dn:Nat→Option Done):Prop where
 cl:t.client=(i:Int)
 job:t.job=job
 bad:t.bad=false
 inc:C.inc=1
 live:C.alive=true
 lanes:C.lanes.length=n
 dry:∀ (k:Nat) (l:Lane),C.lanes[k]?=some l→Dry l.pair
 p0:ph=0→t.over=false∧t.got=[]∧C.batch=none∧hO C
 p1:ph=1→t.over=false∧t.got=[]∧Bt C vs dn∧Fj vs dn∧∀ (q:Nat) (d:Done),dn q=some d→ok q d.words
 p2:ph=2→t.over=true∧C.batch=none∧hO C∧∃ D,t.out=res D∧Fit vs D∧∀ (q:Nat) (d:Done),D[q]?=some d→ok q d.words
 ph:ph≤2
section
variable {cv:Conv} {n L i:Nat} {job:cv.J} {vs:List Verb} {res:List Done→cv.O} {ok:Nat→List Int→Prop}
theorem OneB.go (h:OneB cv n L job vs res):∀ v ∈ vs,VGo n L v:=λv hv=>by
 obtain ⟨a,k,rfl,h1,h2,h3,h4⟩:=h.each v hv
 have:=h.LL
 exact Eh h.nn (by omega) (by omega) (by omega) h4
theorem ya (hj:OneB cv n L job vs res) (hi:i<6) {F F':Fab} (hfine:Fine F) (hfix:∀ (m:Nat) (x:aP),F.nodes[m]?=some x→NFix L x)
  (hok:∀ (q:Nat) (a k:Int),vs[q]?=some (rdV a k)→∀ x,F.nodes[0]?=some x→ok q (x.read a k)) {C:Comp} {t:Tk cv} {ph:Nat} {dn:Nat→Option Done} (hC:F.clients[i]?=some C) (hc:OneC n i job vs res ok C t ph dn) {m:Nat} (hs:stepL i m F=some F') :
  ph=1∧F'.nodes=F.nodes∧F'.lines=F.lines∧F'.orphans=F.orphans∧∃ C' dn',F'.clients=F.clients.set i C'∧OneC n i job vs res ok C' t 1 dn'∧pcs C'<pcs C:=by
 obtain ⟨C0,l,x,hC0,hl,hx,hv,hF'⟩:=fC.1 hs
 rw [hC] at hC0
 cases hC0
 have hlt:=aN hC
 have hvne:l.pair.verbs≠[]:=λe=>hv (by rw [e];rfl)
 obtain ⟨v,vs',hpv⟩:=List.exists_cons_of_ne_nil hvne
 have hph:ph=1:=by
  have:=hc.ph
  by_cases e0:ph=0
  ·exact absurd ((hc.p0 e0).2.2.2 m l hl) hvne
  ·by_cases e2:ph=2
   ·exact absurd ((hc.p2 e2).2.2.1 m l hl) hvne
   ·omega
 subst hph
 refine ⟨rfl,?_⟩
 obtain ⟨hov,hgt,hbt,hres,hval⟩:=hc.p1 rfl
 obtain ⟨q,ps,hpl,hvq,hnode,hdq⟩:=(hbt.lane m l hl).head hpv
 have hgo:=hj.go _ (List.mem_of_getElem? hvq)
 obtain ⟨a,k,rfl,e1,e2,e3,e4⟩:=hj.each v (List.mem_of_getElem? hvq)
 have hm0:m=0:=hnode.symm
 subst hm0
 have hco:=hfine.good.ok.client i C hC
 have hlo:=hco.lane 0 l hl
 have hP:bO l.pair:=hfine.good.cl C (List.mem_of_getElem? hC) l (List.mem_of_getElem? hl)
 have hfx:=hfix 0 x hx
 have hst:=Ei hgo hj.nn.2 hfx hi hlo.client (hlo.inc.trans hc.inc) hP hpv (by omega) e2 e3
 have hset:F.nodes.set 0 x=F.nodes:=rx hx
 rw [hst] at hF'
 simp only at hF'
 rw [hset] at hF'
 have hdv:l.pair.done.verbs=vs':=by
  show l.pair.verbs.tail=vs'
  rw [hpv]
  rfl
 have hdry:∀ (k2:Nat) (l':Lane),(C.comes 0 l l.pair.done (some ⟨0,x.read a k⟩)).lanes[k2]?=some l'→Dry l'.pair:=λk2 l' hk=>by
  by_cases e:k2=0
  ·subst e
   have hlt2:=aN hl
   have hp':l'.pair=l.pair.done:=by simp [Comp.comes,hlt2] at hk;rw [←hk]
   rw [hp']
   have:=xX (n:=x) (hc.dry 0 l hl)
   rw [hst] at this
   exact this
  ·rw [kt e] at hk
   exact hc.dry k2 l' hk
 have hxl:=hfx.len
 refine ⟨by rw [hF'],by rw [hF'],by rw [hF'],C.comes 0 l l.pair.done (some ⟨0,x.read a k⟩),upd dn q ⟨0,x.read a k⟩,by rw [hF'],⟨hc.cl,hc.job,hc.bad,hc.inc,hc.live,by simpa [Comp.comes] using hc.lanes,hdry,(λe=>by cases e),λ_=>⟨hov,hgt,hbt.done hl hpv hdv hpl _,λk2 e hk=>?_,λk2 d hk=>?_⟩,(λe=>by cases e),by omega⟩,?_⟩
 ·by_cases ek:k2=q
  ·subst ek
   rw [jI] at hk
   cases hk
   exact ⟨_,hvq,rfl,read_len (by omega) (by omega) (by omega)⟩
  ·rw [ld ek] at hk
   exact hres k2 e hk
 ·by_cases ek:k2=q
  ·subst ek
   rw [jI] at hk
   cases hk
   exact hok k2 a k hvq x hx
  ·rw [ld ek] at hk
   exact hval k2 d hk
 ·have hr:∀ v2 vs2,l.pair.verbs=v2::vs2→l.pair.refusal v2 x=0:=λv2 vs2 e=>by
   rw [hpv] at e
   cases e
   exact gV hfx hj.nn.2 hgo hi hlo.client (hlo.inc.trans hc.inc)
  have hset2:∃ l',(C.comes 0 l l.pair.done (some ⟨0,x.read a k⟩)).lanes=C.lanes.set 0 l'∧l'.pair=(l.pair.step x).1:=by
   rw [hst]
   exact ⟨_,rfl,rfl⟩
  obtain ⟨l',g1,g2⟩:=hset2
  unfold pcs
  rw [g1,List.map_set]
  have hps:=v8 hP hr (l:=l) (l':=l') rfl g2 hvne
  have:=uF (l:=C.lanes.map plen) (i:=0) (a:=plen l) (b:=plen l') (by rw [List.getElem?_map,hl];rfl)
  omega
def rk1 (ph:Nat):Nat:=if ph=0 then 30 else 0
theorem yb (hj:OneB cv n L job vs res) {F:Fab} (hfine:Fine F) (hlen:F.nodes.length=n) (hL:F.lines=L) {C:Comp} {t:Tk cv} {ph:Nat} {dn:Nat→Option Done} (hC:F.clients[i]?=some C) (hc:OneC n i job vs res ok C t ph dn) :
  ∃ C' t' ph' dn',turn F t=(putC F i C',t')∧OneC n i job vs res ok C' t' ph' dn'∧pcs C'+rk1 ph'≤pcs C+rk1 ph∧(ph'=2∨¬ hO C')∧(ph=2→ph'=2∧t'=t∧C'=C)∧ph'≠0:=by
 have hlt:=aN hC
 have hco:=hfine.good.ok.client i C hC
 have hph:=hc.ph
 have hsame:putC F i C=F:=by unfold putC;rw [rx hC]
 have hpl:hO C→∀ (k:Nat) (l:Lane),C.lanes[k]?=some l→l.pair.verbs=[]∧l.places=[]∧l.pair.executed=0∧l.pair.words=[]:=λhq k l hl=>by
  have hv:=hq k l hl
  have h1:=(hco.lane k l hl).places
  rw [hv] at h1
  have hP:=hfine.good.cl C (List.mem_of_getElem? hC) l (List.mem_of_getElem? hl)
  exact ⟨hv,List.length_eq_zero_iff.1 h1,hP.idle hv,hP.zero (hP.idle hv)⟩
 have hw:hO C→C.waiting=0:=λhq=>by
  rw [hco.waiting]
  unfold pend
  have:∀ ls:List Lane,(∀ l ∈ ls,l.pair.verbs=[])→(ls.map λl=>l.pair.verbs.length).sum=0:=λls=>by
   induction ls with
   |nil=>intro _;rfl
   |cons l ls ih=>
    intro hl
    rw [List.map_cons,List.sum_cons,ih λx hx=>hl x (List.mem_cons_of_mem _ hx),hl l List.mem_cons_self]
    rfl
  exact this C.lanes λl hl=>by
   obtain ⟨k,hk⟩:=List.mem_iff_getElem?.1 hl
   exact hq k l hk
 by_cases e2:ph=2
 ·subst e2
  have ho:=(hc.p2 rfl).1
  have e:turn F t=(F,t):=by unfold turn;rw [if_pos (.inl ho)]
  exact ⟨C,t,2,dn,by rw [e,hsame],hc,Nat.le_refl _,.inl rfl,λ_=>⟨rfl,rfl,rfl⟩,by omega⟩
 by_cases e0:ph=0
 ·subst e0
  obtain ⟨ho,hg,hb,hq⟩:=hc.p0 rfl
  have hgo:kj t C=[]:=by unfold kj;rw [hb];exact hg
  obtain ⟨o,hx0⟩:=hj.next0
  have hx:cv.next t.job (kj t C)=(vs,o,false):=by rw [hgo,hc.job];exact hx0
  have hg1:=hj.go
  have hfew:=hj.few
  have htn:=wd (n:=n) (L:=L) hC hc.live (hw hq) hc.cl ho (by rw [hgo];simp) hx hj.ne (by omega) hlen hj.nn.2 hL hg1
  have hnode:∀ v ∈ vs,v.node.toNat<({ C with batch:=none }:Comp).lanes.length:=λv hv=>by
   have:=(hg1 v hv).node
   show _<C.lanes.length
   rw [hc.lanes]
   omega
  have hbt:Bt (({ C with batch:=none }:Comp).posted' vs) vs noD:=Bt.post hc.live (λk l hl=>⟨(hpl hq k l hl).1,(hpl hq k l hl).2.1⟩) hnode
  obtain ⟨hla,hin⟩:=qL vs ({ C with batch:=none }:Comp) 0
  have hpc:pcs (({ C with batch:=none }:Comp).posted' vs)=cost vs:=by
   have:=uG vs (C:=({ C with batch:=none }:Comp)) (k:=0) (λm l hl=>(hpl hq m l hl).2.2.1) hnode
   have e0:pcs ({ C with batch:=none }:Comp)=0:=kJ hq
   rw [e0,Nat.zero_add] at this
   exact this
  have hcost:cost vs≤24:=by
   have h1:∀ us:List Verb,(∀ v ∈ us,v ∈ vs)→cost us≤us.length:=λus=>by
    induction us with
    |nil=>intro _;simp [cost]
    |cons u us ih=>
     intro hu
     have h2:=ih λv hv=>hu v (List.mem_cons_of_mem _ hv)
     obtain ⟨a,k,rfl,_,b1,b2,_⟩:=hj.each u (hu u List.mem_cons_self)
     have hp:(rdV a k).v.pieces=[(a,k)]:=fZ (v:=(rdV a k).v) (by show 1≤k;omega) b2 (by show 0≤a;omega)
     unfold cost at h2 ⊢
     simp only [List.map_cons,List.sum_cons,List.length_cons,hp,List.length_nil]
     omega
   have:=h1 vs λ_ h=>h
   omega
  refine ⟨_,_,1,noD,htn,⟨hc.cl,hc.job,hc.bad,hin.trans hc.inc,hbt.live,hla.trans hc.lanes,λk l hl=>?_,(λe=>by cases e),λ_=>⟨rfl,hgo,hbt,(λq d e=>by cases e),(λq d e=>by cases e)⟩,(λe=>by cases e),by omega⟩,?_,.inr λhqq=>?_,(λe=>by cases e),by omega⟩
  ·obtain ⟨l0,e1,e2⟩:=qK vs (C:=({ C with batch:=none }:Comp)) (k:=0) (l:=l) hl
   intro v vs' _ _
   rw [e2]
   exact (hpl hq k l0 e1).2.2.2
  ·rw [hpc]
   show cost vs+0≤pcs C+30
   omega
  ·obtain ⟨v,vs',e⟩:=List.exists_cons_of_ne_nil hj.ne
   obtain ⟨k,l,hl,hm⟩:=hbt.left 0 (by rw [e];simp) rfl
   have:=(hbt.lane k l hl).len
   rw [hqq k l hl] at this
   rw [List.length_eq_zero_iff.1 this] at hm
   cases hm
 have e1:ph=1:=by omega
 subst e1
 obtain ⟨ho,hg,hbt,hres,hval⟩:=hc.p1 rfl
 by_cases hq:hO C
 ·obtain ⟨ds,d1,d2,d3,d4⟩:=hbt.all λk l hl=>hq k l hl
  have hgo:kj t C=[ds]:=by unfold kj;rw [d1,hg];rfl
  have hat:∀ (q:Nat) (d:Done),ds[q]?=some d→dn q=some d:=λq d hd=>by
   obtain ⟨d',hd'⟩:=d4 q (by rw [←d2];exact aN hd)
   have:=d3 q d' hd'
   rw [hd] at this
   cases this
   exact hd'
  have hfit:Fit vs ds:=⟨d2,λq v d hv hd=>by
   obtain ⟨v',hv',e1,e2⟩:=hres q d (hat q d hd)
   rw [hv] at hv'
   cases hv'
   exact ⟨e1,e2⟩⟩
  have hx:cv.next t.job (kj t C)=([],res ds,true):=by rw [hgo,hc.job];exact hj.next1 ds hfit
  have htn:=we hC hc.live (hw hq) hc.cl ho (by rw [hgo];simp) hx
  refine ⟨_,_,2,dn,htn,⟨hc.cl,hc.job,hc.bad,hc.inc,hc.live,hc.lanes,hc.dry,(λe=>by cases e),(λe=>by cases e),λ_=>⟨rfl,rfl,hq,ds,rfl,hfit,λq d hd=>hval q d (hat q d hd)⟩,by omega⟩,Nat.le_refl _,.inl rfl,(λe=>by cases e),by omega⟩
 ·have hwait:0<C.waiting:=by
   rw [hco.waiting]
   rcases Nat.eq_zero_or_pos (pend C.lanes) with e | e
   ·exact absurd (λk l hl=>nC e l (List.mem_of_getElem? hl)) hq
   ·exact e
  have e:turn F t=(F,t):=v3 (by unfold Fab.waiting;rw [hc.cl,ka,hC];exact hwait)
  exact ⟨C,t,1,dn,by rw [e,hsame],hc,Nat.le_refl _,.inr hq,(λe=>by cases e),by omega⟩
end
end Go.Proofs.YtgpmeaicjonenaaGreat
namespace Go.Proofs.YtgpmeaicjonenaaGreat
open Go.Eng C12
structure At1 (k:Nat) (F F':Fab):Prop where
 nodes:F'.nodes=F.nodes
 lines:F'.lines=F.lines
 orph:F'.orphans=F.orphans
 len:F'.clients.length=F.clients.length
 other:∀ i,i≠k→F'.clients[i]?=F.clients[i]?
theorem At1.refl (k:Nat) (F:Fab):At1 k F F:=⟨rfl,rfl,rfl,rfl,λ_ _=>rfl⟩
theorem At1.trans {k:Nat} {F F' F'':Fab} (h:At1 k F F') (g:At1 k F' F''):At1 k F F'':=
 ⟨g.nodes.trans h.nodes,g.lines.trans h.lines,g.orph.trans h.orph,g.len.trans h.len,λi hi=>(g.other i hi).trans (h.other i hi)⟩
theorem At1.setC (k:Nat) (F:Fab) (C:Comp):At1 k F (F.setC (k:Int) C):=by
 unfold Fab.setC
 exact ⟨rfl,rfl,rfl,by simp,λi hi=>List.getElem?_set_ne (λe=>hi (by simpa using e.symm))⟩
theorem At1.take (k:Nat) (F:Fab):At1 k F (F.take (k:Int)).2:=by
 unfold Fab.take
 split
 ·exact At1.refl _ _
 ·split
  ·exact At1.refl _ _
  ·split
   ·exact At1.refl _ _
   ·split
    ·exact At1.refl _ _
    ·exact At1.setC _ _ _
theorem At1.post (k:Nat) (F:Fab) (vs:List Verb):At1 k F (F.post (k:Int) vs).2:=by
 unfold Fab.post
 split
 ·exact At1.refl _ _
 ·repeat' split
  all_goals first | exact At1.refl _ _ | exact At1.setC _ _ _
theorem At1.turn {cv:Conv} {k:Nat} (F:Fab) {t:Tk cv} (hc:t.client=(k:Int)):At1 k F (turn F t).1:=by
 unfold Go.Proofs.YtgpmeaicjonenaaGreat.turn
 split
 ·exact At1.refl _ _
 ·have hc2:(t.fed (F.take t.client).1).client=(k:Int):=by cases (F.take t.client).1<;>exact hc
  rw [hc] at hc2 ⊢
  refine (At1.take k F).trans ?_
  unfold oW
  rw [hc2]
  split
  ·exact At1.refl _ _
  ·split
   ·exact At1.refl _ _
   ·split
    ·exact At1.post _ _ _
    ·exact At1.post _ _ _
theorem wg {F:Fab} (hf:Fine F) (ho:F.orphans=[]) (sch:List Int) (k:Nat) :
  (rstep F sch k=(false,F)∧∀ (i:Nat) (C:Comp),F.clients[i]?=some C→hO C)∨∃ i m F',stepL i m F=some F'∧rstep F sch k=(true,F'):=by
 have hlane:∀ {q m:Nat} {C:Comp} {l:Lane},F.clients[q]?=some C→C.lanes[m]?=some l→l.pair.verbs≠[]→∃ F',stepL q m F=some F':=λ{q m C l} hC hl hv=>by
  have hln:=(hf.good.ok.client q C hC).lanes
  have hlt:=aN hl
  have hm:m<F.nodes.length:=by
   split at hln
   ·omega
   ·omega
  have hvl:l.pair.verbs.length≠0:=λe=>hv (List.length_eq_zero_iff.1 e)
  exact ⟨_,fC.2 ⟨C,l,_,hC,hl,List.getElem?_eq_getElem hm,hvl,rfl⟩⟩
 unfold Go.Proofs.YtgpmeaicjonenaaGreat.rstep
 cases hx:F.choices[oV F sch k]? with
 |some x=>
  have hm:=List.mem_of_getElem? hx
  unfold Fab.choices at hm
  rw [ho] at hm
  rcases List.mem_append.1 hm with hm | hm
  ·obtain ⟨q,C,hC,hm⟩:=iz.1 hm
   obtain ⟨m,l,hl,hv,rfl⟩:=iy.1 hm
   rw [Nat.zero_add] at hm ⊢
   rw [Nat.zero_add] at hm ⊢
   obtain ⟨F',hs⟩:=hlane hC hl (λe=>by rw [e] at hv;simp at hv)
   exact .inr ⟨q,m,F',hs,qG hs⟩
  ·simp [eY] at hm
 |none=>
  refine .inl ⟨rfl,λi C hC k' l hl=>?_⟩
  cases hv:l.pair.verbs with
  |nil=>rfl
  |cons v vs=>
   exfalso
   obtain ⟨F',hs⟩:=hlane hC hl (by rw [hv];simp)
   have hm:=sn hs
   have hpos:0<F.choices.length:=List.length_pos_of_mem hm
   have hlt:oV F sch k<F.choices.length:=by
    unfold oV
    split
    ·have h1:=Int.emod_nonneg (sch.getD k 0) (b:=(F.choices.length:Int)) (by omega)
     have h2:=Int.emod_lt_of_pos (sch.getD k 0) (b:=(F.choices.length:Int)) (by omega)
     omega
    ·exact hpos
   rw [List.getElem?_eq_getElem hlt] at hx
   cases hx
structure Two (E:Env) (job:C16.conv.J) (vs:List Verb) (res:List Done→C16.conv.O) (ok:Nat→List Int→Prop) (F:Fab) (t1:Tk C16.conv) (G:Fab) (t:Tk conv) (S:Nat→CS) (ph:Nat) (dn:Nat→Option Done):Prop where
 fine:Fine F
 msk:Msk 0 F G
 inv:Inv E G [t] S
 two:F.clients.length=2
 orph:F.orphans=[]
 one:∃ C,F.clients[1]?=some C∧OneC E.n 1 job vs res ok C t1 ph dn
section
variable {E:Env} {job:C16.conv.J} {vs:List Verb} {res:List Done→C16.conv.O} {ok:Nat→List Int→Prop}
def wt2 (F G:Fab) (S:Nat→CS) (ph:Nat):Nat:=eK G 0+rk (S 0).ph+(eK F 1+rk1 ph)
theorem wi (hE:eU E) (h0:E.ids=[0]) (hj:OneB C16.conv E.n E.L job vs res) {F:Fab} {t1:Tk C16.conv} {G:Fab} {t:Tk conv} {S:Nat→CS} {ph:Nat} {dn:Nat→Option Done} (h:Two E job vs res ok F t1 G t S ph dn) :
  ∃ F' t1' G' t' S' ph' dn',turns F [C16.up t,t1]=(F',[C16.up t',t1'])∧Two E job vs res ok F' t1' G' t' S' ph' dn'∧wt2 F' G' S' ph'≤wt2 F G S ph∧Prog G' 0 (S' 0)∧(ph'=2∨∃ C,F'.clients[1]?=some C∧¬ hO C)∧ph'≠0∧
   ((S 0).ph=6∨(S 0).ph=7→(S' 0).ph=(S 0).ph)∧(ph=2→ph'=2)∧(mn (E.J 0) (S 0)→mn (E.J 0) (S' 0)):=by
 have hon:E.on 0:=by unfold Env.on;rw [h0];exact List.mem_singleton_self _
 have hall:∀ i,E.on i→i=0:=λi hi=>by unfold Env.on at hi;rw [h0] at hi;exact List.mem_singleton.1 hi
 obtain ⟨Cg,t0,hCg,ht0,hcli⟩:=h.inv.cli 0 hon
 have ht0:=ht0 0 (by rw [h0];rfl)
 cases ht0
 have hcl:t.client=((0:Nat):Int):=hcli.cl
 obtain ⟨S',g1,g2,_,g5,g6,g7⟩:=pZ hE [t] (pre:=[]) (F:=G) (S:=S) h.inv
 have htn:turns G [t]=((turn G t).1,[(turn G t).2]):=rfl
 rw [List.nil_append,htn] at g1
 rw [htn] at g2 g5
 obtain ⟨m1,m2⟩:=h.msk.turn hcl
 have hat:At1 0 F (turn F (C16.up t)).1:=At1.turn F (show (C16.up t).client=((0:Nat):Int) from hcl)
 obtain ⟨C,hC,hc⟩:=h.one
 have hC1:(turn F (C16.up t)).1.clients[1]?=some C:=by rw [hat.other 1 (by omega)];exact hC
 have hf1:=h.fine.turn (C16.up t)
 have hln:(turn F (C16.up t)).1.nodes.length=E.n:=by rw [hat.nodes,←h.msk.nodes];exact h.inv.mem.len
 have hLL:(turn F (C16.up t)).1.lines=E.L:=by rw [hat.lines,←h.msk.lines];exact h.inv.lines
 obtain ⟨C',t1',ph',dn',q1,q2,q3,q4,q5,q6⟩:=yb hj hf1 hln hLL hC1 hc
 have hun:turns F [C16.up t,t1]=((turn (turn F (C16.up t)).1 t1).1,[(turn F (C16.up t)).2,(turn (turn F (C16.up t)).1 t1).2]):=rfl
 have hf2:=hf1.turn t1
 rw [q1] at hf2
 have hlt1:=aN hC1
 have hself:(putC (turn F (C16.up t)).1 1 C').clients[1]?=some C':=List.getElem?_set_self hlt1
 have hp1:eK F 1=pcs C:=by unfold eK;rw [hC]
 have hp2:eK (putC (turn F (C16.up t)).1 1 C') 1=pcs C':=by unfold eK;rw [hself]
 refine ⟨putC (turn F (C16.up t)).1 1 C',t1',(turn G t).1,(turn G t).2,S',ph',dn',by rw [hun,q1,m2],⟨hf2,m1.same rfl rfl (List.getElem?_set_ne (by omega)),g1,?_,?_,C',hself,q2⟩,?_,g5 0 0 (by simp) (by rw [h0];rfl),?_,q6,λe=>g6 (λi hi=>by rw [hall i hi];exact e) 0 hon,λe=>(q5 e).1,g7 0⟩
 ·show ((turn F (C16.up t)).1.clients.set 1 C').length=2
  rw [List.length_set,hat.len]
  exact h.two
 ·exact hat.orph.trans h.orph
 ·unfold wt at g2
  rw [h0] at g2
  simp only [List.map_cons,List.map_nil,List.sum_cons,List.sum_nil] at g2
  unfold wt2
  rw [hp1,hp2]
  omega
 ·rcases q4 with e | e
  ·exact .inl e
  ·exact .inr ⟨C',hself,e⟩
theorem AZ (hE:eU E) (h0:E.ids=[0]) (hj:OneB C16.conv E.n E.L job vs res) (hok:∀ (ns:List aP) (S:Nat→CS),gy E ns S→∀ (q:Nat) (a k:Int),vs[q]?=some (rdV a k)→∀ x,ns[0]?=some x→ok q (x.read a k)) (cs sch:List Int) :
  ∀ (f k:Nat) {F:Fab} {t1:Tk C16.conv} {G:Fab} {t:Tk conv} {S:Nat→CS} {ph:Nat} {dn:Nat→Option Done},Two E job vs res ok F t1 G t S ph dn→wt2 F G S ph<f→
   ∃ F' t1' G' t' S' dn',driveGo cs sch [] f k F [C16.up t,t1]=(F',[C16.up t',t1'])∧Two E job vs res ok F' t1' G' t' S' 2 dn'∧((S' 0).ph=6∨(S' 0).ph=7)∧(mn (E.J 0) (S 0)→mn (E.J 0) (S' 0))
 | 0,k,F,t1,G,t,S,ph,dn,h,hw=>by omega
 |f+1,k,F,t1,G,t,S,ph,dn,h,hw=>by
  have hon:E.on 0:=by unfold Env.on;rw [h0];exact List.mem_singleton_self _
  obtain ⟨F1,u1,G1,u,S1,ph1,dn1,e1,g1,g2,g3,g4,g5,g6,g7,g8⟩:=wi hE h0 hj h
  unfold driveGo
  have hh:happens F cs k []=F:=rfl
  rw [hh,e1]
  simp only
  obtain ⟨C1,hC1,hc1⟩:=g1.one
  obtain ⟨Ca,hCa,hCb⟩:=g1.msk.here
  rcases wg g1.fine g1.orph sch k with ⟨e,hq⟩ | ⟨i,m,F',hs,e⟩
  ·rw [e,if_neg (by simp)]
   have h2:ph1=2:=by
    rcases g4 with g4 | ⟨C,hC,hnq⟩
    ·exact g4
    ·exact absurd (hq 1 C hC) hnq
   subst h2
   refine ⟨F1,u1,G1,u,S1,dn1,rfl,g1,?_,g8⟩
   rcases g3 with a | a | ⟨_,C,hC,hnq⟩
   ·exact .inl a
   ·exact .inr a
   ·rw [hCb] at hC
    cases hC
    exact absurd (hq 0 _ hCa) hnq
  ·rw [e,if_pos rfl]
   have hi:i=0∨i=1:=by
    obtain ⟨C,l,x,hC,_⟩:=fC.1 hs
    have:=aN hC
    rw [g1.two] at this
    omega
   have hfine':=g1.fine.stepL hs
   rcases hi with rfl | rfl
   ·obtain ⟨G',hsG,hm⟩:=g1.msk.stepL hs
    obtain ⟨s',k1,k2,k8,C,C',k3,k4,k5,k6⟩:=xY hE g1.inv hon hsG
    obtain ⟨C0,l,x,hC0,hl,hx,hv,hF'⟩:=fC.1 hs
    have hoth:F'.clients[1]?=F1.clients[1]?:=by rw [hF'];exact List.getElem?_set_ne (by omega)
    have hT:Two E job vs res ok F' u1 G' u (updS S1 0 s') ph1 dn1:=⟨hfine',hm,k1,by rw [hF'];simpa using g1.two,by rw [hF'];exact g1.orph,C1,by rw [hoth];exact hC1,hc1⟩
    have hlt:wt2 F' G' (updS S1 0 s') ph1<wt2 F1 G1 S1 ph1:=by
     unfold wt2
     rw [bQ,k2]
     unfold eK
     rw [k3,k4,hoth]
     simp only
     omega
    obtain ⟨F2,t2,G2,t3,S2,dn2,r1,r2,r3,r4⟩:=AZ hE h0 hj hok cs sch f (k+1) hT (by omega)
    exact ⟨F2,t2,G2,t3,S2,dn2,r1,r2,r3,λg=>r4 (by rw [bQ];exact k8 h0 (g8 g))⟩
   ·have hnodes:=g1.msk.nodes
    obtain ⟨z1,z2,z3,z4,C',dn',z5,z6,z7⟩:=ya hj (by omega) g1.fine (λm x hx=>g1.inv.mem.fix m x (by rw [hnodes];exact hx)) (λq a k hq x hx=>hok G1.nodes S1 g1.inv.mem q a k hq x (by rw [hnodes];exact hx)) hC1 hc1 hs
    subst z1
    have hself:F'.clients[1]?=some C':=by rw [z5];exact List.getElem?_set_self (aN hC1)
    have hoth:F'.clients[0]?=F1.clients[0]?:=by rw [z5];exact List.getElem?_set_ne (by omega)
    have hT:Two E job vs res ok F' u1 G1 u S1 1 dn':=⟨hfine',g1.msk.same z2 z3 hoth,g1.inv,by rw [z5];simpa using g1.two,z4.trans g1.orph,C',hself,z6⟩
    have hlt:wt2 F' G1 S1 1<wt2 F1 G1 S1 1:=by
     unfold wt2 eK
     rw [hself,hC1]
     simp only
     omega
    obtain ⟨F2,t2,G2,t3,S2,dn2,r1,r2,r3,r4⟩:=AZ hE h0 hj hok cs sch f (k+1) hT (by omega)
    exact ⟨F2,t2,G2,t3,S2,dn2,r1,r2,r3,λg=>r4 (g8 g)⟩
theorem A5 (hE:eU E) (h0:E.ids=[0]) (hj:OneB C16.conv E.n E.L job vs res) (hok:∀ (ns:List aP) (S:Nat→CS),gy E ns S→∀ (q:Nat) (a k:Int),vs[q]?=some (rdV a k)→∀ x,ns[0]?=some x→ok q (x.read a k)) (sch:List Int)
  {F:Fab} {t1:Tk C16.conv} {G:Fab} {t:Tk conv} {S:Nat→CS} {ph:Nat} {dn:Nat→Option Done} (h:Two E job vs res ok F t1 G t S ph dn) (hg:mn (E.J 0) (S 0)) {most:Nat} (hw:wt2 F G S ph<most) :
  ∃ F' t1' G' t' S' dn',drive F [C16.up t,t1] sch [] most=(F',[C16.up t',t1'])∧Two E job vs res ok F' t1' G' t' S' 2 dn'∧(S' 0).ph=6:=by
 unfold drive
 obtain ⟨F1,u1,G1,u,S1,dn1,e1,g1,g2,g3⟩:=AZ hE h0 hj hok ([C16.up t,t1].map Tk.client) sch most 0 h hw
 rw [e1]
 simp only
 obtain ⟨F2,u2,G2,v,S2,ph2,dn2,e2,k1,_,_,_,_,k6,k7,k8⟩:=wi hE h0 hj g1
 have:=k7 rfl
 subst this
 rw [e2]
 refine ⟨F2,u2,G2,v,S2,dn2,rfl,k1,?_⟩
 have h6:=k6 g2
 have:=k8 (g3 hg)
 rw [h6]
 rcases g2 with e | e
 ·exact e
 ·exact absurd (h6.trans e) this.2.1
end
end Go.Proofs.YtgpmeaicjonenaaGreat
namespace Go.Proofs.YtgpmeaicjonenaaGreat
open Go.Eng C12
theorem Cx {x:Nat} (hx:x<18446744073709551616):band .u64 (x:Int) 255=((x % 256:Nat):Int):=by
 have hb:band .u64 (x:Int) ((2 ^ 8 - 1:Nat):Int)=(x:Int) % (2 ^ 8:Nat):=zv (by omega) (by omega) 8 (by omega)
 have hb:band .u64 (x:Int) 255=(x:Int) % 256:=hb
 rw [hb]
 omega
theorem wj {a k:Nat} (ha:256 * a<18446744073709551616) (hk:k<255):eT ((256 * a:Nat):Int) k=((256 * a+(k+1):Nat):Int):=by
 unfold eT
 have e:((k:Int)+1)=((k+1:Nat):Int):=by omega
 rw [e,wE _ _ ha (by omega)]
 congr 1
 exact (Nat.two_pow_add_eq_or_of_lt (i:=8) (by omega) a).symm
theorem Ej {a:Nat}:bshr .u64 ((256 * a:Nat):Int) 8=(a:Int):=by
 show Int.fdiv ((256 * a:Nat):Int) 256=_
 rw [Int.fdiv_eq_ediv_of_nonneg _ (by decide)]
 omega
theorem A6 {a:Nat} (ha:256 * (a+1)<18446744073709551616):rf ((256 * a:Nat):Int)=((256 * (a+1):Nat):Int):=by
 unfold rf
 rw [Ej]
 show IntKind.u64.wrap (((a:Int)+1) * 256)=_
 rw [rI (by omega) (by omega)]
 omega
theorem y9 {p:aG} (h:kF p=true):∃ a:Nat,p.Head=((256 * a:Nat):Int)∧1≤a∧a≤281474976710654:=by
 simp only [kF,lU,unl,Bool.and_eq_true,decide_eq_true_eq,beq_iff_eq] at h
 obtain ⟨⟨h1,h2⟩,h3⟩:=h
 have e:bshr .u64 p.Head 8=p.Head / 256:=by
  show Int.fdiv p.Head 256=_
  rw [Int.fdiv_eq_ediv_of_nonneg _ (by decide)]
 rw [e] at h1 h2
 obtain ⟨x,hx⟩:∃ x:Nat,p.Head=x:=⟨p.Head.toNat,by omega⟩
 rw [hx] at h1 h2 h3 ⊢
 rw [Cx (by omega)] at h3
 exact ⟨x / 256,by omega,by omega,by omega⟩
theorem Cy {l:List aG} (h:∀ i,i<l.length→ascP l i=true):∀ a b (ha:a<l.length) (hb:b<l.length),a<b→l[a].Line<l[b].Line:=by
 intro a b ha hb hab
 induction b with
 |zero=>omega
 |succ b ih=>
  have h1:=h (b+1) hb
  simp only [ascP,Bool.or_eq_true,decide_eq_true_eq,List.getD_eq_getElem?_getD] at h1
  have hb':b<l.length:=by omega
  rw [Nat.add_sub_cancel,List.getElem?_eq_getElem hb',List.getElem?_eq_getElem hb] at h1
  have h1:l[b].Line<l[b+1].Line:=h1.resolve_left (by omega)
  by_cases e:a=b
  ·subst e
   exact h1
  ·have:=ih hb' (by omega)
   omega
theorem wk {l L:Int} (h:fR l L=true):∃ k:Nat,l=(k:Int)∧96≤k∧(k:Int)<L:=by
 simp only [fR,decide_eq_true_eq] at h
 exact ⟨l.toNat,by omega,by omega,by omega⟩
theorem cG.of_valid {E:Env} {i:Nat} {j:CJob} (hv:j.valid=0) (hc:j.client=(i:Int)) (h6:i<6) (hw:j.v=rg E.n) (hL:j.lines=E.L) (hs:j.writes≠[]) (hh:∀ p ∈ j.writes,p.Head=E.base p.Line.toNat 0) (hr:∀ s ∈ j.reads,s.Head=E.base s.Line.toNat 0):cG E i j:=by
 have hv0:=hv
 have hlen:0<j.writes.length:=List.length_pos_iff.2 hs
 unfold CJob.valid at hv
 split at hv
 ·omega
 split at hv
 ·next h=>exact absurd hv h
 split at hv
 ·omega
 next hln=>
 split at hv
 ·next h=>exact absurd hv h.2
 next h1=>
 split at hv
 ·omega
 next h24=>
 split at hv
 ·omega
 next hrl=>
 split at hv
 ·omega
 next hrs=>
 have h1:jS j.seq j.writes j.lines=0:=Decidable.not_not.1 λe=>h1 ⟨hlen,e⟩
 unfold jS at h1
 split at h1
 ·omega
 split at h1
 ·omega
 next hsq=>
 split at h1
 ·omega
 next hwl=>
 split at h1
 ·omega
 next hws=>
 have hwl:∀ p ∈ j.writes,fR p.Line j.lines=true:=List.all_eq_true.1 (by simpa using hwl)
 have hrl:∀ p ∈ j.reads,fR p.Line j.lines=true:=List.all_eq_true.1 (by simpa using hrl)
 have hws:∀ i,i<j.writes.length→ascP j.writes i=true∧kF (j.writes.getD i noP)=true:=λi hi=>by
  have:=List.all_eq_true.1 (show (List.range j.writes.length).all (λi=>ascP j.writes i && kF (j.writes.getD i noP))=true by simpa using hws) i (List.mem_range.2 hi)
  rwa [Bool.and_eq_true] at this
 have hrs:∀ i,i<j.reads.length→nt j.reads j.writes i=true:=λi hi=>List.all_eq_true.1 (show (List.range j.reads.length).all (nt j.reads j.writes)=true by simpa using hrs) i (List.mem_range.2 hi)
 have hlt:=Cy λi hi=>(hws i hi).1
 have hhd:∀ p ∈ j.writes,∃ a:Nat,p.Head=((256 * a:Nat):Int)∧1≤a∧a≤281474976710654:=λp hp=>by
  obtain ⟨k,hk,rfl⟩:=List.getElem_of_mem hp
  have:=(hws k hk).2
  rw [List.getD_eq_getElem?_getD,List.getElem?_eq_getElem hk] at this
  exact y9 this
 refine ⟨hc,h6,hv0,hw,hs,by omega,by omega,λp hp=>?_,λp hp=>?_,λp hp q hq e=>?_,?_,hh,λp hp k hk=>?_,λp hp=>?_,hr,λs hsm p hp e=>?_⟩
 ·obtain ⟨k,e1,e2,e3⟩:=wk (hwl p hp)
  exact ⟨k,e1,e2,by omega⟩
 ·obtain ⟨k,e1,e2,e3⟩:=wk (hrl p hp)
  exact ⟨k,e1,e2,by omega⟩
 ·obtain ⟨a,ha,rfl⟩:=List.getElem_of_mem hp
  obtain ⟨b,hb,rfl⟩:=List.getElem_of_mem hq
  rcases Nat.lt_trichotomy a b with h | h | h
  ·have:=hlt a b ha hb h
   omega
  ·subst h
   rfl
  ·have:=hlt b a hb ha h
   omega
 ·rw [List.nodup_iff_pairwise_ne,List.pairwise_map,List.pairwise_iff_getElem]
  intro a b ha hb hab e
  have:=hlt a b ha hb hab
  omega
 ·obtain ⟨a,e,h1,h2⟩:=hhd p hp
  rw [e,wj (by omega) (by omega),wj (by omega) (by omega)]
  exact ⟨by omega,λe=>by omega⟩
 ·obtain ⟨a,e,h1,h2⟩:=hhd p hp
  rw [e,A6 (by omega)]
  omega
 ·obtain ⟨k,hk,rfl⟩:=List.getElem_of_mem hsm
  have:=hrs k hk
  simp only [nt,Bool.and_eq_true,List.getD_eq_getElem?_getD,List.getElem?_eq_getElem hk,Bool.not_eq_true',has,List.any_eq_false,decide_eq_true_eq] at this
  exact this.2 p hp e.symm
end Go.Proofs.YtgpmeaicjonenaaGreat
namespace Go.Proofs.YtgpmeaicjonenaaGreat
open Go.Eng C12
def Ek (l k:Nat):Int:=if k=0 then 256 else 0
def xi (n L:Nat):Bool:=
 let w:=fmt L n
 w.length == L * 8 && (w.getD 0 0 == 1 && (w.getD 1 0 == 1 && ((List.range 6).all (λc=>w.getD (24+c) 0 == 1 && w.getD (32+c) 0 == 0) && (List.range (L - 96)).all λq=>(List.range 8).all λk=>w.getD ((q+96) * 8+k) 0 == Ek 0 k)))
theorem sC {n L:Nat} (hn:1≤n∧n≤5) (hL:98≤L∧L≤256) (h:xi n L=true):xg n L Ek (λ_=>0) (Fab.fresh n 6 L):=by
 simp only [xi,Bool.and_eq_true,List.all_eq_true,List.mem_range,beq_iff_eq] at h
 obtain ⟨h1,h2,h3,h4,h5⟩:=h
 have hx:∀ (m:Nat) (x:aP),(Fab.fresh n 6 L).nodes[m]?=some x→x=⟨fmt L n,false⟩:=λm x e=>by
  have e:=List.mem_of_getElem? e
  exact (List.mem_replicate.1 e).2
 refine ⟨Fine.fresh hn (by omega) hL,rfl,by simp [Fab.fresh],λm x e=>?_,λl l1 l2 m x e k hk=>?_,λc hc m x e=>?_,λi C e=>?_,λk hk=>?_,rfl⟩
 ·rw [hx m x e]
  exact ⟨rfl,h1,h2,h3,λc hc=>(h4 c hc).1⟩
 ·rw [hx m x e]
  have:=h5 (l - 96) (by omega) k hk
  rw [show l - 96+96=l by omega] at this
  exact this
 ·rw [hx m x e]
  exact (h4 c hc).2
 ·have e:=List.mem_of_getElem? e
  obtain ⟨q,hq,rfl⟩:=List.mem_map.1 e
  have hln:∀ (k:Nat) (l:Lane),(gI n q).lanes[k]?=some l→l.pair.verbs=[]∧l.pair.words=[]:=λk l hl=>by
   have hl:=List.mem_of_getElem? hl
   unfold gI dI at hl
   simp only at hl
   obtain ⟨z,hz,rfl⟩:=List.mem_map.1 hl
   exact ⟨rfl,rfl⟩
  refine ⟨rfl,λk l hl=>(hln k l hl).1,rfl,rfl,by simp [gI,dI],λk l hl=>?_⟩
  intro v vs' e _
  rw [(hln k l hl).1] at e
  cases e
 ·exact ⟨gI n k,by simp [Fab.fresh,hk]⟩
theorem xj {n:Nat} (hn:1≤n∧n≤5):xi n 100=true:=by
 obtain rfl | rfl | rfl | rfl | rfl:n=1∨n=2∨n=3∨n=4∨n=5:=by omega
 all_goals kernel_rfl
end Go.Proofs.YtgpmeaicjonenaaGreat
