import Derived.Test.YtegepanmkjemjaaGreatw35
set_option linter.unusedVariables false
namespace Go.Proofs.YtegepanmkjemjaaGreat
open Go.Eng C12
theorem vH {α:Type} {l:List α} {i:Nat} {a:α} (h:l[i]?=some a):l.set i a=l:=by
 apply List.ext_getElem?
 intro k
 by_cases e:i=k
 ·subst e
  rw [List.getElem?_set_self (aO h),h]
 ·rw [List.getElem?_set_ne e]
def putC (F:Fab) (i:Nat) (C:Comp):Fab:={ F with clients:=F.clients.set i C }
theorem BV {F:Fab} {i:Nat} {C:Comp} (hC:F.clients[i]?=some C) (ha:C.alive=true) (hw:C.waiting=0):F.take (i:Int)=(C.batch,putC F i { C with batch:=none }):=by
 unfold Fab.take
 rw [nf,hC]
 simp only
 rw [if_neg (by rw [ha];simp)]
 cases hb:C.batch with
 |none=>
  have e:({ C with batch:=none }:Comp)=C:=by rw [←hb]
  simp only
  rw [e]
  unfold putC
  rw [vH hC]
 |some ds=>
  simp only
  rw [if_neg (by omega)]
  rfl
theorem tL {n L:Nat} {N:Int} (hN:(n:Int)=N) (hn:n≤5):∀ {vs:List Verb},(∀ v ∈ vs,VGo n L v)→eR N L vs=0
 | [],_=>rfl
 |v::vs,h=>by
  unfold eR
  rw [if_neg (by rw [(h v List.mem_cons_self).valid N (by omega) (by omega)];simp)]
  exact tL hN hn λu hu=>h u (List.mem_cons_of_mem _ hu)
theorem Fj {F:Fab} {i n L:Nat} {C:Comp} {vs:List Verb} (hC:F.clients[i]?=some C) (ha:C.alive=true) (hb:C.batch=none) (hv:vs≠[]) (hl:vs.length≤1024) (hn:F.nodes.length=n) (hn5:n≤5) (hL:F.lines=L) (hg:∀ v ∈ vs,VGo n L v):F.post (i:Int) vs=(0,putC F i (C.posted' vs)):=by
 unfold Fab.post
 rw [nf,hC]
 simp only
 rw [if_neg (by rw [ha];simp),if_neg (by rw [hb];simp),if_neg (λe=>hv (List.length_eq_zero_iff.1 e)),if_neg (by omega),if_neg]
 ·rfl
 ·rw [hL,tL (n:=n) (by rw [hn]) hn5 hg]
  simp
def jD (t:Tk conv) (C:Comp):List (List Done):=match C.batch with
 |none=>t.got
 |some ds=>t.got++[ds]
theorem BW (t:Tk conv) (C:Comp):t.fed C.batch={ t with got:=jD t C }:=by
 unfold jD Tk.fed
 cases C.batch<;>rfl
theorem xo {F:Fab} {i n L:Nat} {C:Comp} {t:Tk conv} (hC:F.clients[i]?=some C) (ha:C.alive=true) (hw:C.waiting=0) (hc:t.client=(i:Int)) (ho:t.over=false) (hgl:(jD t C).length≤200) {vs:List Verb} {o:Int×Int} (hx:cH t.job (jD t C)=(vs,o,false)) (hv:vs≠[]) (hl:vs.length≤1024) (hn:F.nodes.length=n) (hn5:n≤5) (hL:F.lines=L) (hg:∀ v ∈ vs,VGo n L v) :
  turn F t=(putC F i (({ C with batch:=none }:Comp).posted' vs),{ t with got:=jD t C,over:=false,out:=o }):=by
 have hal:F.alive t.client=true:=by unfold Fab.alive;rw [hc,nf,hC];exact ha
 have hwt:F.waiting t.client=0:=by unfold Fab.waiting;rw [hc,nf,hC];exact hw
 have hx':conv.next t.job (jD t C)=(vs,o,false):=hx
 unfold turn
 rw [if_neg (by rw [ho,hal,hwt];simp),hc,BV hC ha hw]
 simp only
 rw [BW]
 unfold sn
 simp only
 rw [if_neg (by omega),hx']
 simp only
 rw [if_neg (by simp),hc]
 have hC0:(putC F i { C with batch:=none }).clients[i]?=some { C with batch:=none }:=List.getElem?_set_self (aO hC)
 rw [Fj (F:=putC F i { C with batch:=none }) hC0 ha rfl hv hl hn hn5 hL hg]
 rw [if_neg (by simp)]
 unfold Tk.told
 simp only
 rw [hx']
 unfold putC
 simp only [List.set_set]
theorem tM {F:Fab} {i:Nat} {C:Comp} {t:Tk conv} (hC:F.clients[i]?=some C) (ha:C.alive=true) (hw:C.waiting=0) (hc:t.client=(i:Int)) (ho:t.over=false) (hgl:(jD t C).length≤200) {o:Int×Int} (hx:cH t.job (jD t C)=([],o,true)) :
  turn F t=(putC F i { C with batch:=none },{ t with got:=jD t C,over:=true,out:=o }):=by
 have hal:F.alive t.client=true:=by unfold Fab.alive;rw [hc,nf,hC];exact ha
 have hwt:F.waiting t.client=0:=by unfold Fab.waiting;rw [hc,nf,hC];exact hw
 have hx':conv.next t.job (jD t C)=([],o,true):=hx
 unfold turn
 rw [if_neg (by rw [ho,hal,hwt];simp),hc,BV hC ha hw]
 simp only
 rw [BW]
 unfold sn
 simp only
 rw [if_neg (by omega),hx']
 simp only
 rw [if_pos trivial]
 unfold Tk.told
 simp only
 rw [hx',hc]
theorem Fk {C:Comp} {k:Nat} {v:Verb} (he:∀ (m:Nat) (l:Lane),C.lanes[m]?=some l→l.pair.executed=0) (hn:v.node.toNat<C.lanes.length):pcs (C.postOne k v)=pcs C+v.v.pieces.length∧∀ (m:Nat) (l:Lane),(C.postOne k v).lanes[m]?=some l→l.pair.executed=0:=by
 have hget:∀ m,(C.postOne k v).lanes[m]?=(C.lanes[m]?).map λl=>if v.node.toNat=m then (⟨{ l.pair with verbs:=l.pair.verbs++[v] },l.places++[k]⟩:Lane) else l:=λm=>by
  unfold Comp.postOne
  simp only [List.getElem?_modify]
  cases C.lanes[m]? with
  |none=>rfl
  |some l=>by_cases e:v.node.toNat=m<;>simp [e]
 obtain ⟨l0,hl0⟩:∃ l,C.lanes[v.node.toNat]?=some l:=⟨_,List.getElem?_eq_getElem hn⟩
 have hset:(C.postOne k v).lanes.map plen=(C.lanes.map plen).set v.node.toNat (plen l0+v.v.pieces.length):=by
  apply List.ext_getElem?
  intro m
  rw [List.getElem?_map,hget]
  by_cases e:v.node.toNat=m
  ·subst e
   rw [List.getElem?_set_self (by simpa using hn),hl0]
   simp only [Option.map_some,if_true]
   congr 1
   have:=he _ l0 hl0
   unfold plen
   simp [this]
  ·rw [List.getElem?_set_ne e,List.getElem?_map]
   cases C.lanes[m]? with
   |none=>rfl
   |some l=>simp [e]
 refine ⟨?_,λm l hm=>?_⟩
 ·unfold pcs
  rw [hset]
  have:=vF (l:=C.lanes.map plen) (i:=v.node.toNat) (a:=plen l0) (b:=plen l0+v.v.pieces.length) (by rw [List.getElem?_map,hl0];rfl)
  omega
 ·rw [hget] at hm
  cases hc:C.lanes[m]? with
  |none=>rw [hc] at hm;cases hm
  |some l1=>
   rw [hc] at hm
   simp only [Option.map_some,Option.some.injEq] at hm
   subst hm
   have:=he m l1 hc
   split
   ·exact this
   ·exact this
theorem vI:∀ (vs:List Verb) {C:Comp} {k:Nat},(∀ (m:Nat) (l:Lane),C.lanes[m]?=some l→l.pair.executed=0)→(∀ v ∈ vs,v.node.toNat<C.lanes.length)→pcs (C.postFrom k vs)=pcs C+cost vs
 | [],C,k,he,hn=>by simp [Comp.postFrom,cost]
 |v::vs,C,k,he,hn=>by
  obtain ⟨h1,h2⟩:=Fk (k:=k) he (hn v List.mem_cons_self)
  have hl:(C.postOne k v).lanes.length=C.lanes.length:=by simp [Comp.postOne]
  have:=vI vs (k:=k+1) h2 (λu hu=>by rw [hl];exact hn u (List.mem_cons_of_mem _ hu))
  show pcs ((C.postOne k v).postFrom (k+1) vs)=_
  rw [this,h1]
  unfold cost
  simp only [List.map_cons,List.sum_cons]
  omega
theorem rH:∀ (vs:List Verb) {C:Comp} {k m:Nat} {l:Lane},(C.postFrom k vs).lanes[m]?=some l→∃ l0,C.lanes[m]?=some l0∧l.pair.words=l0.pair.words
 | [],C,k,m,l,h=>⟨l,h,rfl⟩
 |v::vs,C,k,m,l,h=>by
  obtain ⟨l1,h1,e1⟩:=rH vs (C:=C.postOne k v) (k:=k+1) h
  unfold Comp.postOne at h1
  simp only [List.getElem?_modify] at h1
  cases hc:C.lanes[m]? with
  |none=>rw [hc] at h1;simp at h1
  |some l0=>
   rw [hc] at h1
   refine ⟨l0,rfl,e1.trans ?_⟩
   by_cases e:v.node.toNat=m
   ·simp [e] at h1
    subst h1
    rfl
   ·simp [e] at h1
    subst h1
    rfl
theorem rI:∀ (vs:List Verb) (C:Comp) (k:Nat),(C.postFrom k vs).lanes.length=C.lanes.length∧(C.postFrom k vs).inc=C.inc
 | [],C,k=>⟨rfl,rfl⟩
 |v::vs,C,k=>by
  obtain ⟨h1,h2⟩:=rI vs (C.postOne k v) (k+1)
  exact ⟨h1.trans (by simp [Comp.postOne]),h2⟩
theorem qX {C:Comp} (h:kv C):pcs C=0:=by
 unfold pcs
 have:∀ ls:List Lane,(∀ l ∈ ls,l.pair.verbs=[])→(ls.map plen).sum=0:=λls=>by
  induction ls with
  |nil=>intro _;rfl
  |cons l ls ih=>
   intro hl
   rw [List.map_cons,List.sum_cons,ih λx hx=>hl x (List.mem_cons_of_mem _ hx)]
   unfold plen
   rw [hl l List.mem_cons_self]
   simp
 exact this C.lanes λl hl=>by
  obtain ⟨k,hk⟩:=List.mem_iff_getElem?.1 hl
  exact h k l hk
theorem ie.ghost {E:Env} {ns:List aP} {S:Nat→CS} {i:Nat} {s:CS} (h:ie E ns S) (hE:fK E) (hi:E.on i) (hL:∀ p ∈ (E.J i).writes,Lk (E.J i) i s p↔Lk (E.J i) i (S i) p) (hN:∀ p ∈ (E.J i).writes,∀ m,m<E.n→(Nw (E.J i) s m p↔Nw (E.J i) (S i) m p)) (hK:∀ m,m<E.n→(Ck (E.J i) i s m↔Ck (E.J i) i (S i) m)):ie E ns (updS S i s):=by
 have hn:=hE.n
 have hlen:=h.len
 obtain ⟨x,hx⟩:∃ x,ns[0]?=some x:=⟨_,List.getElem?_eq_getElem (by omega)⟩
 have:=h.idle hi hx (h.fix 0 x hx) (λ_ _ _ _ _=>rfl) (λ_ _=>rfl) hE hL hN hK
 rwa [vH hx] at this
theorem GB {E:Env} (hE:fK E) {i:Nat} {j:CJob} (hj:cB E i j) {s:CS} (h5:s.ph≤5):(∀ v ∈ vsOf j s,VGo E.n E.L v)∧(vsOf j s).length≤1024:=by
 have hn1:=hE.n
 have hf:=hj.few
 have hrf:=hj.rfew
 obtain ⟨ph,dn,D⟩:=s
 have hcl:(aW j).length=j.writes.length+j.reads.length:=by unfold aW;simp
 rcases ph with _ | _ | _ | _ | _ | _ | ph
 ·refine ⟨λv hv=>?_,?_⟩
  ·have hv:v ∈ fJ j:=hv
   rw [hj.bodyE] at hv
   obtain ⟨m,hm,rfl⟩:=List.mem_map.1 hv
   exact (rD hE hj (List.mem_range.1 hm)).1
  ·show (fJ j).length≤1024
   rw [hj.bodyE]
   simp
   omega
 ·refine ⟨λv hv=>?_,?_⟩
  ·obtain ⟨q,hq⟩:=List.mem_iff_getElem?.1 hv
   rcases lW hj hn1.1 hq with ⟨p,hp,_,rfl⟩ | ⟨s,hs,rfl⟩
   ·exact pV hE hj hp _ _
   ·exact yN hE hj hs
  ·show (aW j).length≤1024
   omega
 ·refine ⟨λv hv=>?_,?_⟩
  ·have hv:v ∈ iV j:=hv
   rw [hj.markE] at hv
   obtain ⟨m,hm,rfl⟩:=List.mem_map.1 hv
   exact (rD hE hj (List.mem_range.1 hm)).2
  ·show (iV j).length≤1024
   rw [hj.markE]
   simp
   omega
 ·refine ⟨λv hv=>?_,?_⟩
  ·obtain ⟨m',g1,g2,g⟩:=tE hj hv
   rcases g with ⟨p,hp,rfl⟩ | rfl
   ·exact uJ hE hj g2 hp
   ·exact uK hE hj g2 _
  ·show (gE j).length≤1024
   have:∀ ms:List aF,((ms.map (memV j)).flatten).length≤ms.length * 13:=λms=>by
    induction ms with
    |nil=>simp
    |cons m ms ih=>
     have:=yB j m
     simp only [List.map_cons,List.flatten_cons,List.length_append,List.length_cons]
     omega
   have h1:=this j.v.mem.tail
   have h2:j.v.mem.tail.length≤4:=by rw [hj.tail];simp;omega
   unfold gE
   omega
 ·refine ⟨λv hv=>?_,?_⟩
  ·rcases BC hj hn1.1 hv with rfl | ⟨p,hp,rfl⟩
   ·exact uK hE hj (by omega) _
   ·exact uJ hE hj (by omega) hp
  ·show (finV j).length≤1024
   rw [hj.finL hn1.1]
   simp
   omega
 ·refine ⟨λv hv=>?_,?_⟩
  ·obtain ⟨_,p,_,hp,_,_,_,rfl⟩:=tH hj hn1.1 hv
   exact pV hE hj hp _ _
  ·show (iW j D).length≤1024
   have h2:=(qU (aW j) (dO j) D).length_le
   have h3:=List.length_filter_le (λv:Verb=>v.kind == 3) (aW j)
   rw [List.length_map,List.length_map] at h2
   have h4:(iW j D).length=(fP (aW j) (dO j) D).length:=rfl
   omega
 ·exact absurd h5 (by show ¬ (ph+6≤5);omega)
def Prog (F:Fab) (i:Nat) (s:CS):Prop:=s.ph=6∨s.ph=7∨(s.ph≤5∧∃ C,F.clients[i]?=some C∧¬ kv C)
def gV (F:Fab) (i:Nat):Nat:=match F.clients[i]? with
 |some C=>pcs C
 |none=>0
structure BX (E:Env) (F:Fab) (t:Tk conv) (S:Nat→CS) (i:Nat) (F':Fab) (t':Tk conv) (s':CS):Prop where
 nodes:F'.nodes=F.nodes
 lines:F'.lines=F.lines
 orph:F'.orphans=F.orphans
 other:∀ k,k≠i→F'.clients[k]?=F.clients[k]?
 cli:∃ C,F'.clients[i]?=some C∧Fi E i C t' s'
 mem:ie E F.nodes (updS S i s')
 wt:gV F' i+rk s'.ph≤gV F i+rk (S i).ph
 prog:Prog F' i s'
 stay:(S i).ph=6∨(S i).ph=7→s'=S i∧F'=F
 one:qW (E.J i) (S i)→qW (E.J i) s'
theorem turned {E:Env} (hE:fK E) {F:Fab} {ts:List (Tk conv)} {S:Nat→CS} (h:Inv E F ts S) {i k0:Nat} (hk0:E.ids[k0]?=some i) {t:Tk conv} (ht:ts[k0]?=some t):∃ s',BX E F t S i (turn F t).1 (turn F t).2 s':=by
 have hi:E.on i:=List.mem_of_getElem? hk0
 obtain ⟨C,t0,hC,ht0,hc⟩:=h.cli i hi
 have ht0:=ht0 k0 hk0
 rw [ht] at ht0
 cases ht0
 have hj:=hE.job i hi
 have hlt:=aO hC
 have hco:=h.fine.good.ok.client i C hC
 have hpa:gV F i=pcs C:=by unfold gV;rw [hC]
 have hidle:turn F t=(F,t)→(S i).ph≠8→((S i).ph≤5→¬ kv C)→∃ s',BX E F t S i (turn F t).1 (turn F t).2 s':=λe hne hq=>by
  rw [e]
  refine ⟨S i,rfl,rfl,rfl,λ_ _=>rfl,⟨C,hC,hc⟩,?_,Nat.le_refl _,?_,λ_=>⟨rfl,rfl⟩,id⟩
  ·have:updS S i (S i)=S:=by funext k;unfold updS;split<;>simp_all
   rw [this]
   exact h.mem
  ·have:=hc.ph
   by_cases h5:(S i).ph≤5
   ·exact .inr (.inr ⟨h5,C,hC,hq h5⟩)
   ·by_cases h6:(S i).ph=6
    ·exact .inl h6
    ·exact .inr (.inl (by omega))
 have hmove:∀ {s':CS},Adv E i (E.J i) (S i) (jD t C) s'→t.over=false→kv C→(jD t C).length≤200→((S i).ph≠6∧(S i).ph≠7)→∃ s',BX E F t S i (turn F t).1 (turn F t).2 s':=λ{s'} ha ho hq hgl hne=>by
  have hpl:∀ (k:Nat) (l:Lane),C.lanes[k]?=some l→l.pair.verbs=[]∧l.places=[]∧l.pair.executed=0∧l.pair.words=[]:=λk l hl=>by
   have hv:=hq k l hl
   have h1:=(hco.lane k l hl).places
   rw [hv] at h1
   have hP:=h.fine.good.cl C (List.mem_of_getElem? hC) l (List.mem_of_getElem? hl)
   exact ⟨hv,List.length_eq_zero_iff.1 h1,hP.idle hv,hP.zero (hP.idle hv)⟩
  have hw:C.waiting=0:=by
   rw [hco.waiting]
   unfold pend
   have:∀ ls:List Lane,(∀ l ∈ ls,l.pair.verbs=[])→(ls.map λl=>l.pair.verbs.length).sum=0:=λls=>by
    induction ls with
    |nil=>intro _;rfl
    |cons l ls ih=>
     intro hl
     rw [List.map_cons,List.sum_cons,ih λx hx=>hl x (List.mem_cons_of_mem _ hx),hl l List.mem_cons_self]
     rfl
   exact this C.lanes λl hl=>by
    obtain ⟨k,hk⟩:=List.mem_iff_getElem?.1 hl
    exact hq k l hk
  have hmem:=h.mem.ghost hE hi ha.L ha.N ha.K
  have hq0:pcs C=0:=qX hq
  have hjob:=hc.job
  have htr:=hc.trips
  rcases ha.go with ⟨g1,g2,g3,g4,g5,g6⟩ | ⟨g1,g2⟩ | ⟨g1,g2⟩
  ·obtain ⟨hgo,hlen⟩:=GB hE hj g1
   have g3:cH t.job (jD t C)=(vsOf (E.J i) s',(0,0),false):=by rw [hjob];exact g3
   have htn:=xo (n:=E.n) (L:=E.L) hC hc.live hw hc.cl ho hgl g3 g4 hlen h.mem.len hE.n.2 h.lines hgo
   rw [htn]
   have hnode:∀ v ∈ vsOf (E.J i) s',v.node.toNat<({ C with batch:=none }:Comp).lanes.length:=λv hv=>by
    have:=(hgo v hv).node
    show _<C.lanes.length
    rw [hc.lanes]
    omega
   have hbt:Bt (({ C with batch:=none }:Comp).posted' (vsOf (E.J i) s')) (vsOf (E.J i) s') noD:=Bt.post hc.live (λk l hl=>⟨(hpl k l hl).1,(hpl k l hl).2.1⟩) hnode
   obtain ⟨hla,hin⟩:=rI (vsOf (E.J i) s') ({ C with batch:=none }:Comp) 0
   have hcl:(putC F i (({ C with batch:=none }:Comp).posted' (vsOf (E.J i) s'))).clients[i]?=some (({ C with batch:=none }:Comp).posted' (vsOf (E.J i) s')):=List.getElem?_set_self hlt
   have hpc:pcs (({ C with batch:=none }:Comp).posted' (vsOf (E.J i) s'))=cost (vsOf (E.J i) s'):=by
    have:=vI (vsOf (E.J i) s') (C:=({ C with batch:=none }:Comp)) (k:=0) (λm l hl=>(hpl m l hl).2.2.1) hnode
    have e0:pcs ({ C with batch:=none }:Comp)=0:=hq0
    rw [e0,Nat.zero_add] at this
    exact this
   refine ⟨s',rfl,rfl,rfl,λk hk=>List.getElem?_set_ne (λe=>hk e.symm),⟨_,hcl,hc.cl,hc.job,hc.bad,hin.trans hc.inc,hbt.live,hla.trans hc.lanes,by omega,λk l hl=>?_,λ_=>⟨rfl,?_,λq d e=>?_,g5⟩,λe=>by omega,λe=>by omega,λa b c=>?_⟩,hmem,?_,.inr (.inr ⟨g1,_,hcl,λhqq=>?_⟩),λe=>absurd e (by omega),ha.one⟩
   ·obtain ⟨l0,e1,e2⟩:=rH (vsOf (E.J i) s') (C:=({ C with batch:=none }:Comp)) (k:=0) (l:=l) hl
    intro v vs' _ _
    rw [e2]
    exact (hpl k l0 e1).2.2.2
   ·rw [g2]
    exact hbt
   ·rw [g2] at e
    cases e
   ·obtain ⟨⟨k1,k2⟩,k3,_⟩:=ha.tr b c
    obtain ⟨k3,k4⟩:=k3 g1
    show IntKind.i64.wrap (C.trips+1)=_
    rw [htr a k1 k2,k3,w64 (by omega) (by omega)]
    omega
   ·unfold gV
    rw [hcl,hC]
    simp only
    rw [hpc,hq0]
    omega
   ·obtain ⟨v,vs',e⟩:=List.exists_cons_of_ne_nil g4
    obtain ⟨k,l,hl,hm⟩:=hbt.left 0 (by rw [e];simp) rfl
    have:=(hbt.lane k l hl).len
    rw [hqq k l hl] at this
    rw [List.length_eq_zero_iff.1 this] at hm
    cases hm
  all_goals
   rw [←hjob] at g2
   have htn:=tM hC hc.live hw hc.cl ho hgl g2
   rw [htn]
   have hcl:(putC F i { C with batch:=none }).clients[i]?=some { C with batch:=none }:=List.getElem?_set_self hlt
   refine ⟨s',rfl,rfl,rfl,λk hk=>List.getElem?_set_ne (λe=>hk e.symm),⟨_,hcl,hc.cl,hc.job,hc.bad,hc.inc,hc.live,hc.lanes,by omega,hc.dry,λe=>by omega,λ_=>⟨rfl,⟨rfl,hq⟩,λe=>?_,λe=>?_⟩,λe=>by omega,λa b c=>?_⟩,hmem,?_,?_,λe=>absurd e (by omega),ha.one⟩
   ·first | rfl | (exfalso;omega)
   ·first | rfl | (exfalso;omega)
   ·first
     | (exfalso;omega)
     | (obtain ⟨⟨k1,k2⟩,_,k3⟩:=ha.tr b c;show C.trips=_;rw [htr a k1 k2,k3 g1])
   ·unfold gV
    rw [hcl,hC]
    simp only
    have e0:pcs ({ C with batch:=none }:Comp)=pcs C:=rfl
    rw [e0,g1]
    show pcs C+0≤_
    omega
   ·first | exact .inl g1 | exact .inr (.inl g1)
 have h8:=hc.ph
 by_cases e8:(S i).ph=8
 ·obtain ⟨n1,n2,n3,n4⟩:=hc.new e8
  have hgo:jD t C=[]:=by unfold jD;rw [n3];exact n2
  have ha:Adv E i (E.J i) (S i) (jD t C) ⟨0,noD,[]⟩:=by
   rw [hgo]
   generalize hs:S i=s at *
   obtain ⟨ph,dn,D⟩:=s
   have e8:ph=8:=e8
   subst e8
   exact adv8 hE hj
  exact hmove ha n1 n4 (by rw [hgo];simp) (by omega)
 by_cases e67:(S i).ph=6∨(S i).ph=7
 ·obtain ⟨n1,_⟩:=hc.stop e67
  exact hidle (by unfold turn;rw [if_pos (.inl n1)]) e8 (λe=>by omega)
 have h5:(S i).ph≤5:=by omega
 obtain ⟨r1,r2,r3,r4⟩:=hc.run h5
 by_cases hq:kv C
 ·obtain ⟨ds,d1,d2,d3,d4⟩:=r2.all λk l hl=>hq k l hl
  have hgo:jD t C=t.got++[ds]:=by unfold jD;rw [d1]
  have hfit:Fit (vsOf (E.J i) (S i)) ds:=⟨d2,λq v d hv hd=>by
   obtain ⟨d',hd'⟩:=d4 q (aO hv)
   have:=d3 q d' hd'
   rw [hd] at this
   cases this
   obtain ⟨v',hv',e1,e2⟩:=r3 q d hd'
   rw [hv] at hv'
   cases hv'
   exact ⟨e1,e2⟩⟩
  have hall:AllD (vsOf (E.J i) (S i)) (S i).dn:=d4
  have hgl:(jD t C).length≤200:=by
   have:t.got.length≤4:=by
    generalize hs:S i=s at *
    obtain ⟨ph,dn,D⟩:=s
    rcases ph with _ | _ | _ | _ | _ | _ | ph
    ·have:t.got=[]:=r4
     rw [this];simp
    ·obtain ⟨_,e,_⟩:=r4
     rw [e];simp
    ·obtain ⟨_,e,_⟩:=r4
     rw [e];simp
    ·obtain ⟨_,_,e,_⟩:=r4
     rw [e];simp
    ·rcases r4 with ⟨_,_,_,e,_⟩ | ⟨_,_,e,_⟩<;>(rw [e];simp)
    ·obtain ⟨_,e,_⟩:=r4
     rw [e];simp
    ·exact absurd h5 (by show ¬ (ph+6≤5);omega)
   rw [hgo,List.length_append,List.length_singleton]
   omega
  have ha:∃ s',Adv E i (E.J i) (S i) (jD t C) s':=by
   rw [hgo]
   generalize hs:S i=s at *
   obtain ⟨ph,dn,D⟩:=s
   rcases ph with _ | _ | _ | _ | _ | _ | ph
   ·exact ⟨_,adv0 hE hj r4 hfit⟩
   ·exact adv1 hE hj r4 hfit d3 hall
   ·exact adv2 hE hj r4 hfit
   ·exact adv3 hE hj r4 hfit hall
   ·exact adv4 hE hj r4 hfit hall
   ·exact adv5 hE hj r4 hfit hall
   ·exact absurd h5 (by show ¬ (ph+6≤5);omega)
  obtain ⟨s',ha⟩:=ha
  exact hmove ha r1 hq hgl (by omega)
 ·have hwait:0<C.waiting:=by
   rw [hco.waiting]
   rcases Nat.eq_zero_or_pos (pend C.lanes) with e | e
   ·exact absurd (λk l hl=>mA e l (List.mem_of_getElem? hl)) hq
   ·exact e
  refine hidle (qQ ?_) e8 (λ_=>hq)
  unfold Fab.waiting
  rw [hc.cl,nf,hC]
  exact hwait
end Go.Proofs.YtegepanmkjemjaaGreat
namespace Go.Proofs.YtegepanmkjemjaaGreat
open Go.Eng C12
theorem BY {f g:Nat→Nat}:∀ {l:List Nat},(∀ k ∈ l,f k≤g k)→(l.map f).sum≤(l.map g).sum
 | [],_=>by simp
 |a::l,h=>by
  have:=BY λk hk=>h k (List.mem_cons_of_mem _ hk)
  have:=h a List.mem_cons_self
  simp only [List.map_cons,List.sum_cons]
  omega
theorem Ea {f g:Nat→Nat}:∀ {l:List Nat},(∀ k ∈ l,f k≤g k)→∀ {i:Nat},i ∈ l→f i<g i→(l.map f).sum<(l.map g).sum
 | [],_,_,hi,_=>by cases hi
 |a::l,h,i,hi,hl=>by
  have h1:=BY λk hk=>h k (List.mem_cons_of_mem _ hk)
  have h2:=h a List.mem_cons_self
  simp only [List.map_cons,List.sum_cons]
  rcases List.mem_cons.1 hi with e | e
  ·subst e
   omega
  ·have:=Ea (λk hk=>h k (List.mem_cons_of_mem _ hk)) e hl
   omega
def wt (ids:List Nat) (F:Fab) (S:Nat→CS):Nat:=(ids.map λi=>gV F i+rk (S i).ph).sum
theorem tN {E:Env} (hE:fK E):∀ (l:List (Tk conv)) {pre:List (Tk conv)} {F:Fab} {S:Nat→CS},Inv E F (pre++l) S→∃ S',Inv E (turns F l).1 (pre++(turns F l).2) S'∧wt E.ids (turns F l).1 S'≤wt E.ids F S∧
   (∀ k i:Nat,k<pre.length→E.ids[k]?=some i→S' i=S i∧(turns F l).1.clients[i]?=F.clients[i]?)∧(∀ k i:Nat,pre.length≤k→E.ids[k]?=some i→Prog (turns F l).1 i (S' i))∧((∀ i,E.on i→(S i).ph=6∨(S i).ph=7)→∀ i,E.on i→(S' i).ph=(S i).ph)∧∀ i,qW (E.J i) (S i)→qW (E.J i) (S' i)
 | [],pre,F,S,h=>by
  refine ⟨S,h,Nat.le_refl _,λk i _ _=>⟨rfl,rfl⟩,λk i h1 h2=>?_,λ_ k _=>rfl,λ_ g=>g⟩
  have:=h.tl
  have:=aO h2
  simp at *
  omega
 |t::l,pre,F,S,h=>by
  have htl:=h.tl
  rw [List.length_append,List.length_cons] at htl
  obtain ⟨i,hid⟩:∃ i,E.ids[pre.length]?=some i:=⟨_,List.getElem?_eq_getElem (by omega)⟩
  have hi:E.on i:=List.mem_of_getElem? hid
  have ht:(pre++t::l)[pre.length]?=some t:=by rw [List.getElem?_append_right (Nat.le_refl _),Nat.sub_self];rfl
  have hpos:∀ {k:Nat},E.ids[k]?=some i→k=pre.length:=λ{k} hk=>(List.getElem?_inj (aO hk) hE.ids).1 (hk.trans hid.symm)
  obtain ⟨s',hT⟩:=turned hE h hid ht
  obtain ⟨C',hC',hcli⟩:=hT.cli
  have hinv:Inv E (turn F t).1 ((pre++[(turn F t).2])++l) (updS S i s'):=by
   refine ⟨h.fine.turn t,hT.lines.trans h.lines,by rw [hT.nodes];exact hT.mem,by simp;omega,λk hk=>?_,λk C hk hC=>?_,hT.orph.trans h.orph,λk hk=>?_⟩
   ·by_cases e:k=i
    ·subst e
     refine ⟨C',(turn F t).2,hC',λq hq=>?_,by rw [bU];exact hcli⟩
     rw [hpos hq,List.append_assoc,List.getElem?_append_right (Nat.le_refl _),Nat.sub_self]
     rfl
    ·obtain ⟨C,t0,g1,g2,g3⟩:=h.cli k hk
     refine ⟨C,t0,by rw [hT.other k e];exact g1,λq hq=>?_,by rw [eD e];exact g3⟩
     rw [←g2 q hq,List.append_assoc]
     have hne:q≠pre.length:=λe2=>by rw [e2,hid] at hq;cases hq;exact e rfl
     by_cases hlt:q<pre.length
     ·rw [List.getElem?_append_left hlt,List.getElem?_append_left hlt]
     ·obtain ⟨z,hz⟩:∃ z,q - pre.length=z+1:=⟨q - pre.length - 1,by omega⟩
      rw [List.getElem?_append_right (l₁:=pre) (l₂:=[(turn F t).2]++l) (show pre.length≤q by omega),List.getElem?_append_right (l₁:=pre) (l₂:=t::l) (show pre.length≤q by omega),hz]
      rfl
   ·rw [hT.other k (λe=>hk (by rw [e];exact hi))] at hC
    exact h.rest k C hk hC
   ·by_cases e:k=i
    ·subst e
     exact ⟨C',hC'⟩
    ·rw [hT.other k e]
     exact h.six k hk
  obtain ⟨S',g1,g2,g4,g5,g6,g7⟩:=tN hE l hinv
  have hw:wt E.ids (turn F t).1 (updS S i s')≤wt E.ids F S:=by
   refine BY λk hk=>?_
   by_cases e:k=i
   ·subst e
    rw [bU]
    exact hT.wt
   ·rw [eD e]
    have:gV (turn F t).1 k=gV F k:=by unfold gV;rw [hT.other k e]
    rw [this]
    exact Nat.le_refl _
  have hun:turns F (t::l)=((turns (turn F t).1 l).1,(turn F t).2::(turns (turn F t).1 l).2):=rfl
  rw [hun]
  refine ⟨S',by rw [List.append_assoc] at g1;exact g1,Nat.le_trans g2 hw,λk i' hk hi'=>?_,λk i' h1 h2=>?_,λhall k hk=>?_,λk g=>g7 k ?_⟩
  ·have hne:i'≠i:=λe=>by rw [e] at hi';have:=hpos hi';omega
   obtain ⟨a,b⟩:=g4 k i' (by simp;omega) hi'
   rw [eD hne] at a
   exact ⟨a,b.trans (hT.other i' hne)⟩
  ·by_cases e:k=pre.length
   ·subst e
    rw [hid] at h2
    cases h2
    obtain ⟨a,b⟩:=g4 pre.length i (by simp) hid
    rw [bU] at a
    rw [a]
    unfold Prog
    simp only
    rw [b]
    exact hT.prog
   ·exact g5 k i' (by simp;omega) h2
  ·obtain ⟨a,_⟩:=hT.stay (hall i hi)
   have hall':∀ k,E.on k→(updS S i s' k).ph=6∨(updS S i s' k).ph=7:=λk hk=>by
    by_cases e:k=i
    ·subst e;rw [bU,a];exact hall _ hk
    ·rw [eD e];exact hall k hk
   rw [g6 hall' k hk]
   by_cases e:k=i
   ·subst e;rw [bU,a]
   ·rw [eD e]
  ·by_cases e:k=i
   ·subst e;rw [bU];exact hT.one g
   ·rw [eD e];exact g
theorem BZ {E:Env} (hE:fK E) {F:Fab} {ts:List (Tk conv)} {S:Nat→CS} (h:Inv E F ts S) (sch:List Int) (n:Nat) :
  (rstep F sch n=(false,F)∧∀ i,E.on i→∀ C,F.clients[i]?=some C→kv C)∨∃ i m F',E.on i∧stepL i m F=some F'∧rstep F sch n=(true,F'):=by
 have hlane:∀ {i m:Nat} {C:Comp} {l:Lane},F.clients[i]?=some C→C.lanes[m]?=some l→l.pair.verbs≠[]→E.on i∧∃ F',stepL i m F=some F':=λ{i m C l} hC hl hv=>by
  have hi:E.on i:=by
   by_cases g:E.on i
   ·exact g
   ·exact absurd ((h.rest i C g hC).quiet m l hl) hv
  refine ⟨hi,?_⟩
  obtain ⟨C0,t,g1,_,g3⟩:=h.cli i hi
  rw [hC] at g1
  cases g1
  have hm:m<F.nodes.length:=by rw [h.mem.len,←g3.lanes];exact aO hl
  have hvl:l.pair.verbs.length≠0:=λe=>hv (List.length_eq_zero_iff.1 e)
  exact ⟨_,ef.2 ⟨C,l,_,hC,hl,List.getElem?_eq_getElem hm,hvl,rfl⟩⟩
 unfold Go.Proofs.YtegepanmkjemjaaGreat.rstep
 cases hx:F.choices[ny F sch n]? with
 |some x=>
  have hm:=List.mem_of_getElem? hx
  unfold Fab.choices at hm
  rw [h.orph] at hm
  rcases List.mem_append.1 hm with hm | hm
  ·obtain ⟨i,C,hC,hm⟩:=gG.1 hm
   obtain ⟨m,l,hl,hv,rfl⟩:=gF.1 hm
   rw [Nat.zero_add] at hm ⊢
   rw [Nat.zero_add] at hm ⊢
   obtain ⟨hi,F',hs⟩:=hlane hC hl (λe=>by rw [e] at hv;simp at hv)
   exact .inr ⟨i,m,F',hi,hs,oL hs⟩
  ·simp [eO] at hm
 |none=>
  refine .inl ⟨rfl,λi hi C hC k l hl=>?_⟩
  cases hv:l.pair.verbs with
  |nil=>rfl
  |cons v vs=>
   exfalso
   obtain ⟨_,F',hs⟩:=hlane hC hl (by rw [hv];simp)
   have hm:=pR hs
   have hpos:0<F.choices.length:=List.length_pos_of_mem hm
   have hlt:ny F sch n<F.choices.length:=by
    unfold ny
    split
    ·have h1:=Int.emod_nonneg (sch.getD n 0) (b:=(F.choices.length:Int)) (by omega)
     have h2:=Int.emod_lt_of_pos (sch.getD n 0) (b:=(F.choices.length:Int)) (by omega)
     omega
    ·exact hpos
   rw [List.getElem?_eq_getElem hlt] at hx
   cases hx
theorem Eb {E:Env} (hE:fK E) (cs sch:List Int):∀ (f n:Nat) {F:Fab} {ts:List (Tk conv)} {S:Nat→CS},Inv E F ts S→wt E.ids F S<f→∃ S',Inv E (driveGo cs sch [] f n F ts).1 (driveGo cs sch [] f n F ts).2 S'∧(∀ i,E.on i→(S' i).ph=6∨(S' i).ph=7)∧∀ i,E.ids=[i]→qW (E.J i) (S i)→qW (E.J i) (S' i)
 | 0,n,F,ts,S,h,hw=>by omega
 |f+1,n,F,ts,S,h,hw=>by
  obtain ⟨S1,g1,g2,_,g5,_,g7⟩:=tN hE ts (pre:=[]) h
  rw [List.nil_append] at g1
  unfold driveGo
  have hh:happens F cs n []=F:=rfl
  rw [hh]
  rcases BZ hE g1 sch n with ⟨e,hq⟩ | ⟨i,m,F',hi,hs,e⟩
  ·rw [e,if_neg (by simp)]
   refine ⟨S1,g1,λi hi=>?_,λi _ g=>g7 i g⟩
   obtain ⟨k,hk⟩:=List.mem_iff_getElem?.1 hi
   rcases g5 k i (Nat.zero_le _) hk with a | a | ⟨_,C,hC,hnq⟩
   ·exact .inl a
   ·exact .inr a
   ·exact absurd (hq i hi C hC) hnq
  ·rw [e,if_pos rfl]
   obtain ⟨s',k1,k2,k8,C,C',k3,k4,k5,k6⟩:=Dv hE g1 hi hs
   have hlt:wt E.ids F' (updS S1 i s')<wt E.ids (turns F ts).1 S1:=by
    refine Ea (i:=i) (λk hk=>?_) hi ?_
    ·by_cases ek:k=i
     ·subst ek
      rw [bU,k2]
      unfold gV
      rw [k3,k4]
      simp only
      omega
     ·rw [eD ek]
      have:gV F' k=gV (turns F ts).1 k:=by unfold gV;rw [k6 k ek]
      rw [this]
      exact Nat.le_refl _
    ·show gV F' i+rk (updS S1 i s' i).ph<gV (turns F ts).1 i+rk (S1 i).ph
     rw [bU,k2]
     unfold gV
     rw [k3,k4]
     simp only
     omega
   obtain ⟨S',m1,m2,m3⟩:=Eb hE cs sch f (n+1) k1 (show wt E.ids F' (updS S1 i s')<f by omega)
   refine ⟨S',m1,m2,λc hc g=>m3 c hc ?_⟩
   have hci:i=c:=by have:i ∈ E.ids:=hi;rw [hc] at this;exact List.mem_singleton.1 this
   subst hci
   rw [bU]
   exact k8 hc (g7 i g)
theorem B0 {E:Env} (hE:fK E) {F:Fab} {ts:List (Tk conv)} {S:Nat→CS} (h:Inv E F ts S) (sch:List Int) {most:Nat} (hw:wt E.ids F S<most):∃ S',Inv E (drive F ts sch [] most).1 (drive F ts sch [] most).2 S'∧(∀ i,E.on i→(S' i).ph=6∨(S' i).ph=7)∧∀ i,E.ids=[i]→qW (E.J i) (S i)→(S' i).ph=6:=by
 unfold drive
 obtain ⟨S1,g1,g2,g3⟩:=Eb hE (ts.map Tk.client) sch most 0 h hw
 obtain ⟨S2,k1,_,_,_,k6,k7⟩:=tN hE _ (pre:=[]) g1
 rw [List.nil_append] at k1
 have h67:∀ i,E.on i→(S2 i).ph=6∨(S2 i).ph=7:=λi hi=>by rw [k6 g2 i hi];exact g2 i hi
 refine ⟨S2,k1,h67,λi hi g=>?_⟩
 have:=k7 i (g3 i hi g)
 exact (h67 i (by unfold Env.on;rw [hi];exact List.mem_singleton_self _)).resolve_right this.2.1
end Go.Proofs.YtegepanmkjemjaaGreat
namespace Go.Proofs.YtegepanmkjemjaaGreat
open Go.Eng C12
structure nA (n L:Nat) (base:Nat→Nat→Int) (bc:Nat→Int) (F:Fab):Prop where
 fine:Fine F
 lines:F.lines=L
 len:F.nodes.length=n
 fix:∀ (m:Nat) (x:aP),F.nodes[m]?=some x→NFix L x
 heap:∀ l:Nat,96≤l→l<L→∀ (m:Nat) (x:aP),F.nodes[m]?=some x→∀ k,k<8→x.get (l * 8+k)=base l k
 clock:∀ c:Nat,c<6→∀ (m:Nat) (x:aP),F.nodes[m]?=some x→x.get (32+c)=bc c
 cli:∀ (i:Nat) (C:Comp),F.clients[i]?=some C→Du n C
 six:∀ k:Nat,k<6→∃ C,F.clients[k]?=some C
 orph:F.orphans=[]
def yc (E:Env) (dn:Nat→Bool) (l:Nat):Option aB:=(E.ids.filter dn).findSome? λi=>(E.J i).writes.find? λp=>p.Line.toNat == l
def yd (E:Env) (dn:Nat→Bool) (l k:Nat):Int:=match yc E dn l with
 |some p=>(appL p).getD k 0
 |none=>E.base l k
def Fl (E:Env) (dn:Nat→Bool) (c:Nat):Int:=if E.ids.contains c && dn c then (E.J c).seq else E.bc c
theorem zY {E:Env} {dn:Nat→Bool} {l:Nat} {p:aB} (h:yc E dn l=some p):∃ i,E.on i∧dn i=true∧p ∈ (E.J i).writes∧p.Line.toNat=l:=by
 obtain ⟨i,hi,hp⟩:=List.exists_of_findSome?_eq_some h
 obtain ⟨h1,h2⟩:=List.mem_filter.1 hi
 have h3:=List.mem_of_find?_eq_some hp
 have h4:=List.find?_some hp
 exact ⟨i,h1,h2,h3,by simpa using h4⟩
theorem zZ {E:Env} {dn:Nat→Bool} {l:Nat} (h:yc E dn l=none) {i:Nat} (hi:E.on i) (hd:dn i=true) {p:aB} (hp:p ∈ (E.J i).writes):p.Line.toNat≠l:=λe=>by
 unfold yc at h
 rw [List.findSome?_eq_none_iff] at h
 have:=h i (List.mem_filter.2 ⟨hi,hd⟩)
 rw [List.find?_eq_none] at this
 exact this p hp (by simpa using e)
def st8:Nat→CS:=λ_=>⟨8,noD,[]⟩
theorem nA.start {E:Env} (hE:fK E) {F:Fab} (h:nA E.n E.L E.base E.bc F) {ts:List (Tk conv)} (hl:ts.length=E.ids.length) (ht:∀ k i:Nat,E.ids[k]?=some i→∃ t,ts[k]?=some t∧t.client=(i:Int)∧t.job=E.J i∧t.bad=false∧t.over=false∧t.got=[])
  (htr:E.tr=true→∀ (i:Nat) (C:Comp),F.clients[i]?=some C→C.trips=0):Inv E F ts st8:=by
 refine ⟨h.fine,h.lines,?_,hl,λi hi=>?_,λi C _ hC=>h.cli i C hC,h.orph,h.six⟩
 ·refine ⟨h.len,h.fix,λi _ p _ m x _ c=>c.elim,λi _ p _ x _ c=>c.elim,λl h1 h2 m x hx _ k hk=>h.heap l h1 h2 m x hx k hk,λi i' _ _ _ p _ p' _ _ c=>?_,λi hi m x hx=>⟨λc=>c.elim,λ_=>h.clock i (hE.job i hi).i6 m x hx⟩,λi _ p _ c=>c.elim,λc h6 _ m x hx=>h.clock c h6 m x hx⟩
  rcases c with c | ⟨_,_,c⟩
  ·exact c.elim
  ·exact c.elim
 ·obtain ⟨C,hC⟩:=h.six i (hE.job i hi).i6
  obtain ⟨k,hk⟩:=List.mem_iff_getElem?.1 hi
  obtain ⟨t,h1,h2,h3,h4,h5,h6⟩:=ht k i hk
  have hc:=h.cli i C hC
  refine ⟨C,t,hC,λq hq=>?_,h2,h3,h4,hc.inc,hc.live,hc.lanes,by show 8≤8;omega,hc.dry,λe=>absurd e (by show ¬ 8≤5;omega),λe=>absurd e (by show ¬ (8=6∨8=7);omega),λ_=>⟨h5,h6,hc.batch,hc.quiet⟩,λa _ _=>htr a i C hC⟩
  have:q=k:=(List.getElem?_inj (aO hq) hE.ids).1 (hq.trans hk.symm)
  rw [this]
  exact h1
structure Left (E:Env) (F:Fab) (dn:Nat→Bool) (i:Nat) (t:Tk conv):Prop where
 client:t.client=(i:Int)
 job:t.job=E.J i
 bad:t.bad=false
 over:t.over=true
 out:t.out=if dn i=true then ((0:Int),(3:Int)) else ((7:Int),(1:Int))
 trips:E.tr=true→dn i=true→∃ C,F.clients[i]?=some C∧C.trips=if E.n=1 then 4 else 5
structure Round (E:Env) (r:Fab×List (Tk conv)) (dn:Nat→Bool):Prop where
 still:nA E.n E.L (yd E dn) (Fl E dn) r.1
 len:r.2.length=E.ids.length
 left:∀ k i:Nat,E.ids[k]?=some i→∃ t,r.2[k]?=some t∧Left E r.1 dn i t
 excl:∀ i i',E.on i→E.on i'→i≠i'→dn i=true→dn i'=true→∀ p ∈ (E.J i).writes,∀ p' ∈ (E.J i').writes,p.Line.toNat≠p'.Line.toNat
 one:∀ i,E.ids=[i]→dn i=true
theorem Inv.round {E:Env} (hE:fK E) {r:Fab×List (Tk conv)} {S:Nat→CS} (h:Inv E r.1 r.2 S) (h67:∀ i,E.on i→(S i).ph=6∨(S i).ph=7) (h1:∀ i,E.ids=[i]→(S i).ph=6):Round E r λi=>(S i).ph == 6:=by
 have hN:∀ i,(S i).ph=6→∀ m p,Nw (E.J i) (S i) m p:=λi e m p=>by
  unfold Nw
  rw [e]
  trivial
 have hK:∀ i,(S i).ph=6→∀ m,Ck (E.J i) i (S i) m:=λi e m=>by
  unfold Ck
  rw [e]
  trivial
 have hno:∀ i,(S i).ph=7→∀ m p,¬ Nw (E.J i) (S i) m p:=λi e m p=>by
  unfold Nw
  rw [e]
  exact id
 have hnk:∀ i,(S i).ph=7→∀ m,¬ Ck (E.J i) i (S i) m:=λi e m=>by
  unfold Ck
  rw [e]
  exact id
 have hnl:∀ i,(S i).ph=6∨(S i).ph=7→∀ p,¬ Lk (E.J i) i (S i) p:=λi e p=>by
  unfold Lk
  rcases e with e | e<;>(rw [e];exact id)
 refine ⟨⟨h.fine,h.lines,h.mem.len,h.mem.fix,λl h2 h3 m x hx k hk=>?_,λc h6 m x hx=>?_,λi C hC=>?_,h.six,h.orph⟩,h.tl,λk i hk=>?_,λi i' hi hi' hne hd hd' p hp p' hp' e=>?_,λi e=>by simpa using h1 i e⟩
 ·unfold yd
  cases hw:yc E (λi=>(S i).ph == 6) l with
  |some p=>
   obtain ⟨i,hi,hd,hp,hl⟩:=zY hw
   have:=h.mem.new i hi p hp m x hx (hN i (by simpa using hd) m p) k hk
   rw [hl] at this
   exact this
  |none=>
   refine h.mem.free l h2 h3 m x hx (λi hi p hp hl=>⟨?_,λ_=>hnl i (h67 i hi) p⟩) k hk
   rcases h67 i hi with e | e
   ·exact absurd hl (zZ hw hi (by simpa using e) hp)
   ·exact hno i e m p
 ·unfold Fl
  by_cases hi:E.on c
  ·have hm:E.ids.contains c=true:=List.contains_iff_mem.2 hi
   obtain ⟨a,b⟩:=h.mem.clock c hi m x hx
   rcases h67 c hi with e | e
   ·rw [if_pos (by rw [hm];simpa using e)]
    exact a (hK c e m)
   ·rw [if_neg (by simp [e])]
    exact b (hnk c e m)
  ·have hm:E.ids.contains c=false:=by
    rw [Bool.eq_false_iff]
    intro e
    exact hi (List.contains_iff_mem.1 e)
   rw [hm,Bool.false_and,if_neg (by simp)]
   exact h.mem.oth c h6 hi m x hx
 ·by_cases hi:E.on i
  ·obtain ⟨C',t,g1,_,g⟩:=h.cli i hi
   rw [hC] at g1
   cases g1
   obtain ⟨_,⟨g2,g3⟩,_⟩:=g.stop (h67 i hi)
   exact ⟨g2,g3,g.inc,g.live,g.lanes,g.dry⟩
  ·exact h.rest i C hi hC
 ·have hi:E.on i:=List.mem_of_getElem? hk
  obtain ⟨C,t,g1,g2,g⟩:=h.cli i hi
  obtain ⟨g3,_,g4,g5⟩:=g.stop (h67 i hi)
  refine ⟨t,g2 k hk,g.cl,g.job,g.bad,g3,?_,λa b=>⟨C,g1,?_⟩⟩
  ·rcases h67 i hi with e | e
   ·rw [if_pos (by simpa using e)]
    exact g4 e
   ·rw [if_neg (by rw [e];simp)]
    exact g5 e
  ·have b:(S i).ph=6:=by simpa using b
   have:=g.trips a (by omega) (by omega)
   rw [b] at this
   rw [this]
   show ((if E.n=1 then 4 else 5:Nat):Int)=_
   split<;>rfl
 ·have hd:(S i).ph=6:=by simpa using hd
  have hd':(S i').ph=6:=by simpa using hd'
  have hn:=hE.n.1
  exact h.mem.excl i i' hi hi' hne p hp p' hp' e (.inr ⟨0,by omega,hN i hd 0 p⟩) (.inr ⟨0,by omega,hN i' hd' 0 p'⟩)
theorem nA.drive {E:Env} (hE:fK E) {F:Fab} (h:nA E.n E.L E.base E.bc F) {ts:List (Tk conv)} (hl:ts.length=E.ids.length) (ht:∀ k i:Nat,E.ids[k]?=some i→∃ t,ts[k]?=some t∧t.client=(i:Int)∧t.job=E.J i∧t.bad=false∧t.over=false∧t.got=[])
  (htr:E.tr=true→∀ (i:Nat) (C:Comp),F.clients[i]?=some C→C.trips=0) (sch:List Int) {most:Nat} (h6:E.ids.length≤6) (hm:4200<most):∃ dn,Round E (drive F ts sch [] most) dn:=by
 have hi:=h.start hE hl ht htr
 have hw:wt E.ids F st8≤4200:=by
  have:∀ l:List Nat,(l.map λi=>gV F i+rk (st8 i).ph).sum≤l.length * 700:=λl=>by
   induction l with
   |nil=>simp
   |cons i l ih=>
    rw [List.map_cons,List.sum_cons,List.length_cons,Nat.succ_mul]
    have e:gV F i=0:=by
     unfold gV
     cases hC:F.clients[i]? with
     |none=>rfl
     |some C=>exact qX (h.cli i C hC).quiet
    have e2:rk (st8 i).ph=700:=rfl
    rw [e,e2]
    omega
  have:=this E.ids
  unfold wt
  omega
 obtain ⟨S,g1,g2,g3⟩:=B0 hE hi sch (most:=most) (by omega)
 refine ⟨_,g1.round hE g2 λi e=>g3 i e ⟨by show 8≠5;omega,by show 8≠7;omega,λe=>absurd e (by show ¬ 8=1;omega)⟩⟩
end Go.Proofs.YtegepanmkjemjaaGreat
