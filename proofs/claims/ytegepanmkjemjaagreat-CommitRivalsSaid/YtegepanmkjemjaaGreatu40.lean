import Derived.Test.YtegepanmkjemjaaGreatu39
import Derived.Test.YtegepanmkjemjaaGreatu37
set_option linter.unusedVariables false
namespace Go.Proofs.YtegepanmkjemjaaGreat
open Go.Eng C12
theorem xq (C:Comp) (j:Nat) (l:Lane) (p:Pair) (d:Option Done):(C.comes j l p d).alive=C.alive:=by cases d<;>rfl
end Go.Proofs.YtegepanmkjemjaaGreat
namespace Go.Proofs.YtegepanmkjemjaaGreat
open Go.Eng C12
def plen (l:Lane):Nat:=(l.pair.verbs.map λv=>v.v.pieces.length).sum - l.pair.executed
def pcs (C:Comp):Nat:=(C.lanes.map plen).sum
theorem xr:∀ {l:List Nat} {i:Nat} {a b:Nat},l[i]?=some a→(l.set i b).sum+a=l.sum+b
 | [],i,a,b,h=>by simp at h
 |x::l,0,a,b,h=>by
  simp only [List.getElem?_cons_zero,Option.some.injEq] at h
  subst h
  simp only [List.set_cons_zero,List.sum_cons]
  omega
 |x::l,i+1,a,b,h=>by
  have:=xr (l:=l) (i:=i) (a:=a) (b:=b) (by simpa using h)
  simp only [List.set_cons_succ,List.sum_cons]
  omega
theorem Bb {p:Pair} {n:aO} (hP:bS p) (hr:∀ v vs',p.verbs=v::vs'→p.refusal v n=0) {l l':Lane} (hl:l.pair=p) (hl':l'.pair=(p.step n).1) (hv:p.verbs≠[]):plen l'<plen l:=by
 obtain ⟨v,vs',hpv⟩:=List.exists_cons_of_ne_nil hv
 have hrd:=hP.rdy v vs' hpv
 unfold plen
 rw [hl,hl',xn hpv (hr v vs' hpv),hpv]
 simp only [List.map_cons,List.sum_cons]
 split
 ·rename_i hlt
  show ((v::vs').map _).sum - (p.executed+1)<_
  simp only [List.map_cons,List.sum_cons]
  omega
 ·show (p.verbs.tail.map _).sum - 0<_
  rw [hpv]
  simp only [List.tail_cons]
  omega
def Dry (p:Pair):Prop:=∀ v vs',p.verbs=v::vs'→v.kind=2→p.words=[]
theorem CQ {p:Pair} {n:aO} (hd:Dry p):Dry (p.step n).1:=by
 unfold Pair.step
 cases hv:p.verbs with
 |nil=>exact hd
 |cons x xs=>
  simp only
  split
  ·exact λ_ _ _ _=>rfl
  ·split
   ·intro v vs' e hk
    have e:x::xs=v::vs':=e
    cases e
    show p.words++(exec x _ n).2=[]
    rw [hd x xs hv hk]
    unfold exec
    rw [if_neg (by omega),if_pos hk]
    rfl
   ·exact λ_ _ _ _=>rfl
def Gk (vs:List Verb) (dn:Nat→Option Done):Prop:=∀ q d,dn q=some d→∃ v,vs[q]?=some v∧d.code=0∧(d.words.length:Int)=v.v.rets
def wv (j:CJob) (s:CS) (got:List (List Done)):Prop:=match s.ph with
 | 0=>got=[]
 | 1=>∃ d0,got=[d0]∧Fit (fF j) d0
 | 2=>∃ d0,got=[d0,s.D]∧Fit (fF j) d0∧Fit (bE j) s.D∧fE (em j) s.D=false
 | 3=>∃ d0 d2,got=[d0,s.D,d2]∧Fit (fF j) d0∧Fit (bE j) s.D∧fE (em j) s.D=false∧Fit (iT j) d2∧gG j≠[]
 | 4=>(∃ d0 d2 d3,got=[d0,s.D,d2,d3]∧Fit (fF j) d0∧Fit (bE j) s.D∧fE (em j) s.D=false∧Fit (iT j) d2∧gG j≠[]∧Fit (gG j) d3)∨∃ d0 d2,got=[d0,s.D,d2]∧Fit (fF j) d0∧Fit (bE j) s.D∧fE (em j) s.D=false∧Fit (iT j) d2∧gG j=[]
 | 5=>∃ d0,got=[d0,s.D]∧Fit (fF j) d0∧Fit (bE j) s.D∧fE (em j) s.D=true∧iU j s.D≠[]
 | _=>True
def qu (C:Comp):Prop:=∀ (k:Nat) (l:Lane),C.lanes[k]?=some l→l.pair.verbs=[]
def trOf (n:Nat):Nat→Nat
 | 0=>1
 | 1=>2
 | 2=>3
 | 3=>4
 | 4=>if n=1 then 4 else 5
 | 6=>if n=1 then 4 else 5
 | _=>0
structure FI (n:Nat) (C:Comp):Prop where
 batch:C.batch=none
 quiet:qu C
 inc:C.inc=1
 live:C.alive=true
 lanes:C.lanes.length=n
 dry:∀ (k:Nat) (l:Lane),C.lanes[k]?=some l→Dry l.pair
structure EG (E:Env) (i:Nat) (C:Comp) (t:Tk conv) (s:CS):Prop where
 cl:t.client=(i:Int)
 job:t.job=E.J i
 bad:t.bad=false
 inc:C.inc=1
 live:C.alive=true
 lanes:C.lanes.length=E.n
 ph:s.ph≤8
 dry:∀ (k:Nat) (l:Lane),C.lanes[k]?=some l→Dry l.pair
 run:s.ph≤5→t.over=false∧Bt C (vsOf (E.J i) s) s.dn∧Gk (vsOf (E.J i) s) s.dn∧wv (E.J i) s t.got
 stop:s.ph=6∨s.ph=7→t.over=true∧(C.batch=none∧qu C)∧(s.ph=6→t.out=((0:Int),(3:Int)))∧(s.ph=7→t.out=((7:Int),(1:Int)))
 new:s.ph=8→t.over=false∧t.got=[]∧C.batch=none∧qu C
 trips:E.tr=true→s.ph≠5→s.ph≠7→C.trips=trOf E.n s.ph
def qv (j:CJob) (s:CS):Prop:=s.ph≠5∧s.ph≠7∧(s.ph=1→∀ (q:Nat) (x:Int) (d:Done),(em j)[q]?=some x→s.dn q=some d→gD d=x)
structure Inv (E:Env) (F:Fab) (ts:List (Tk conv)) (S:Nat→CS):Prop where
 fine:Fine F
 lines:F.lines=E.L
 mem:gZ E F.nodes S
 tl:ts.length=E.ids.length
 cli:∀ i,E.on i→∃ (C:Comp) (t:Tk conv),F.clients[i]?=some C∧(∀ k:Nat,E.ids[k]?=some i→ts[k]?=some t)∧EG E i C t (S i)
 rest:∀ (i:Nat) (C:Comp),¬ E.on i→F.clients[i]?=some C→FI E.n C
 orph:F.orphans=[]
 six:∀ k:Nat,k<6→∃ C,F.clients[k]?=some C
theorem CR {E:Env} (hE:fB E) {F F':Fab} {ts:List (Tk conv)} {S:Nat→CS} (h:Inv E F ts S) {i m:Nat} (hi:E.on i) (hs:stepL i m F=some F') :
  ∃ s',Inv E F' ts (updS S i s')∧s'.ph=(S i).ph∧(E.ids=[i]→qv (E.J i) (S i)→qv (E.J i) s')∧∃ C C',F.clients[i]?=some C∧F'.clients[i]?=some C'∧pcs C'<pcs C∧∀ k,k≠i→F'.clients[k]?=F.clients[k]?:=by
 obtain ⟨C,l,x,hC,hl,hx,hv,hF'⟩:=eO.1 hs
 have hfine':=h.fine.stepL hs
 obtain ⟨C0,t,hC0,ht,hc⟩:=h.cli i hi
 rw [hC] at hC0
 cases hC0
 have hj:=hE.job i hi
 have hlt:=aP hC
 have hvne:l.pair.verbs≠[]:=λe=>hv (by rw [e];rfl)
 obtain ⟨v,vs',hpv⟩:=List.exists_cons_of_ne_nil hvne
 have hph:(S i).ph≤5:=by
  have h8:=hc.ph
  rcases Nat.lt_or_ge 5 (S i).ph with h5 | h5
  ·exfalso
   by_cases e8:(S i).ph=8
   ·exact hvne ((hc.new e8).2.2.2 m l hl)
   ·exact hvne ((hc.stop (by omega)).2.1.2 m l hl)
  ·exact h5
 obtain ⟨hov,hbt,hres,hgot⟩:=hc.run hph
 obtain ⟨q,ps,hpl,hvq,hnode,hdq⟩:=(hbt.lane m l hl).head hpv
 have hco:=h.fine.good.ok.client i C hC
 have hlo:=hco.lane m l hl
 have hP:bS l.pair:=h.fine.good.cl C (List.mem_of_getElem? hC) l (List.mem_of_getElem? hl)
 have hpf:PF i l.pair v:=⟨hP,⟨vs',hpv⟩,hlo.client,hlo.inc.trans hc.inc,λhk=>hc.dry m l hl v vs' hpv hk⟩
 have hst:kM E F.nodes S i m l.pair x v q (S i)∧VGo E.n E.L v:=by
  generalize hSi:S i=s at *
  obtain ⟨ph,dn,D⟩:=s
  have hmem:=List.mem_of_getElem? hvq
  have hn1:=hE.n.1
  rcases ph with _ | _ | _ | _ | _ | _ | ph
  ·refine ⟨CH hE h.mem hi hx hSi hvq hnode hpf,?_⟩
   have hvq':=hvq
   change (fF (E.J i))[q]?=some v at hvq'
   rw [hj.bodyE] at hvq'
   obtain ⟨hq,rfl⟩:=rJ hvq'
   exact (qW hE hj hq).1
  ·refine ⟨CJ hE h.mem hi hx hSi hvq hdq hnode hpf,?_⟩
   rcases lH hj hn1 hvq with ⟨p,hp,_,rfl⟩ | ⟨s,hs,rfl⟩
   ·exact pt hE hj hp _ _
   ·exact yc hE hj hs
  ·refine ⟨CI hE h.mem hi hx hSi hvq hnode hpf,?_⟩
   have hvq':=hvq
   change (iT (E.J i))[q]?=some v at hvq'
   rw [hj.markE] at hvq'
   obtain ⟨hq,rfl⟩:=rJ hvq'
   exact (qW hE hj hq).2
  ·refine ⟨CL hE h.mem hi hx hSi hvq hdq hnode hpf,?_⟩
   obtain ⟨m',g1,g2,g⟩:=sM hj hmem
   rcases g with ⟨p,hp,rfl⟩ | rfl
   ·exact tT hE hj g2 hp
   ·exact tU hE hj g2 _
  ·refine ⟨CM hE h.mem hi hx hSi hvq hdq hnode hpf,?_⟩
   rcases AQ hj hn1 hmem with rfl | ⟨p,hp,rfl⟩
   ·exact tU hE hj (by omega) _
   ·exact tT hE hj (by omega) hp
  ·refine ⟨CK hE h.mem hi hx hSi hvq hdq hnode hpf,?_⟩
   obtain ⟨_,p,_,hp,_,_,_,rfl⟩:=sP hj hn1 hmem
   exact pt hE hj hp _ _
  ·exact absurd hph (by show ¬ (ph+6≤5);omega)
 obtain ⟨⟨hst1,hst2⟩,hgo⟩:=hst
 have hr:∀ v2 vs2,l.pair.verbs=v2::vs2→l.pair.refusal v2 x=0:=λv2 vs2 e=>by
  rw [hpv] at e
  cases e
  exact kK (h.mem.fix m x hx) hE.n.2 hgo hj.i6 hpf.cl hpf.inc
 have hmain:∃ s',s'.ph=(S i).ph∧(E.ids=[i]→qv (E.J i) (S i)→qv (E.J i) s')∧gZ E (F.nodes.set m (l.pair.step x).2.1) (updS S i s')∧EG E i (C.comes m l (l.pair.step x).1 (l.pair.step x).2.2) t s':=by
  have hsv:=Fr l.pair x
  have hdry:∀ (k:Nat) (l':Lane),(C.comes m l (l.pair.step x).1 (l.pair.step x).2.2).lanes[k]?=some l'→Dry l'.pair:=λk l' hk=>by
   by_cases e:k=m
   ·subst e
    have hlt2:=aP hl
    have hp':l'.pair=(l.pair.step x).1:=by
     cases hd:(l.pair.step x).2.2<;>(rw [hd] at hk;simp [Comp.comes,hlt2] at hk;rw [←hk])
    rw [hp']
    exact CQ (hc.dry k l hl)
   ·rw [eP e] at hk
    exact hc.dry k l' hk
  have hinc:(C.comes m l (l.pair.step x).1 (l.pair.step x).2.2).inc=C.inc:=by cases (l.pair.step x).2.2<;>rfl
  have hlan:(C.comes m l (l.pair.step x).1 (l.pair.step x).2.2).lanes.length=C.lanes.length:=by cases (l.pair.step x).2.2<;>simp [Comp.comes]
  have hal:=xq C m l (l.pair.step x).1 (l.pair.step x).2.2
  have htr:(C.comes m l (l.pair.step x).1 (l.pair.step x).2.2).trips=C.trips:=by cases (l.pair.step x).2.2<;>rfl
  cases hd:(l.pair.step x).2.2 with
  |none=>
   rw [hd] at hdry hinc hlan hal htr
   have hvb:(l.pair.step x).1.verbs=l.pair.verbs:=by
    rcases hsv with ⟨_,e⟩ | ⟨d,e,_⟩
    ·exact e
    ·rw [hd] at e;cases e
   refine ⟨S i,rfl,λ_ g=>g,hst1 hd,hc.cl,hc.job,hc.bad,hinc.trans hc.inc,hal.trans hc.live,hlan.trans hc.lanes,hc.ph,hdry,λ_=>⟨hov,hbt.more hl hvb,hres,hgot⟩,λe=>by omega,λe=>by omega,λa b c=>htr.trans (hc.trips a b c)⟩
  |some d=>
   rw [hd] at hdry hinc hlan hal htr
   have hvb:(l.pair.step x).1.verbs=vs':=by
    rcases hsv with ⟨e,_⟩ | ⟨d',_,e⟩
    ·rw [hd] at e;cases e
    ·rw [e,hpv];rfl
   obtain ⟨e1,e2,e3⟩:=hst2 d hd
   refine ⟨{ S i with dn:=upd (S i).dn q d },rfl,λhone g=>⟨g.1,g.2.1,λh1 k xw e hw hk=>?_⟩,e3,hc.cl,hc.job,hc.bad,hinc.trans hc.inc,hal.trans hc.live,hlan.trans hc.lanes,hc.ph,hdry,λ_=>⟨hov,hbt.done hl hpv hvb hpl d,λk e hk=>?_,hgot⟩,λe=>?_,λe=>?_,λa b c=>htr.trans (hc.trips a b c)⟩
   ·have h1:(S i).ph=1:=h1
    by_cases ek:k=q
    ·subst ek
     have hk:upd (S i).dn k d k=some e:=hk
     rw [lp] at hk
     cases hk
     generalize hSi:S i=s at *
     obtain ⟨ph,dn,D⟩:=s
     have h1:ph=1:=h1
     subst h1
     have hvq:(bE (E.J i))[k]?=some v:=hvq
     have hm0:m=0:=by
      rcases lH hj hE.n.1 hvq with ⟨p,_,_,rfl⟩ | ⟨s,_,rfl⟩
      ·exact hnode.symm
      ·exact hnode.symm
     subst hm0
     rw [AT hE h.mem hi hx hvq hnode hpf d hd]
     exact AV hE h.mem hone hx hSi hvq hdq hw
    ·have hk:upd (S i).dn q d k=some e:=hk
     rw [mK ek] at hk
     exact g.2.2 h1 k xw e hw hk
   ·by_cases ek:k=q
    ·subst ek
     have hk:upd (S i).dn k d k=some e:=hk
     rw [lp] at hk
     cases hk
     exact ⟨v,hvq,e1,e2⟩
    ·have hk:upd (S i).dn q d k=some e:=hk
     rw [mK ek] at hk
     exact hres k e hk
   ·have e:(S i).ph=6∨(S i).ph=7:=e
    omega
   ·have e:(S i).ph=8:=e
    omega
 obtain ⟨s',hs1,hs1',hs2,hs3⟩:=hmain
 have hcl':F'.clients[i]?=some (C.comes m l (l.pair.step x).1 (l.pair.step x).2.2):=by rw [hF'];exact List.getElem?_set_self hlt
 have hoth:∀ k,k≠i→F'.clients[k]?=F.clients[k]?:=λk hk=>by rw [hF'];exact List.getElem?_set_ne (λe=>hk e.symm)
 refine ⟨s',⟨hfine',by rw [hF'];exact h.lines,by rw [hF'];exact hs2,h.tl,λk hk=>?_,λk C2 hk hC2=>?_,by rw [hF'];exact h.orph,λk hk=>?_⟩,hs1,hs1',C,_,hC,hcl',?_,hoth⟩
 ·by_cases e:k=i
  ·subst e
   exact ⟨_,t,hcl',ht,by rw [bT];exact hs3⟩
  ·obtain ⟨C2,t2,g1,g2,g3⟩:=h.cli k hk
   exact ⟨C2,t2,by rw [hoth k e];exact g1,g2,by rw [ez e];exact g3⟩
 ·rw [hoth k (λe=>hk (by rw [e];exact hi))] at hC2
  exact h.rest k C2 hk hC2
 ·by_cases e:k=i
  ·subst e
   exact ⟨_,hcl'⟩
  ·rw [hoth k e]
   exact h.six k hk
 ·have hlt2:=aP hl
  have hset:∃ l',(C.comes m l (l.pair.step x).1 (l.pair.step x).2.2).lanes=C.lanes.set m l'∧l'.pair=(l.pair.step x).1:=by
   cases (l.pair.step x).2.2 with
   |none=>exact ⟨_,rfl,rfl⟩
   |some d=>exact ⟨_,rfl,rfl⟩
  obtain ⟨l',e1,e2⟩:=hset
  unfold pcs
  rw [e1,List.map_set]
  have hps:=Bb hP hr (l:=l) (l':=l') rfl e2 hvne
  have:=xr (l:=C.lanes.map plen) (i:=m) (a:=plen l) (b:=plen l') (by rw [List.getElem?_map,hl];rfl)
  omega
end Go.Proofs.YtegepanmkjemjaaGreat
namespace Go.Proofs.YtegepanmkjemjaaGreat
open Go.Eng C12
def rk:Nat→Nat
 | 0=>106
 | 1=>70
 | 2=>65
 | 3=>13
 | 8=>700
 | _=>0
def cost (vs:List Verb):Nat:=(vs.map λv=>v.v.pieces.length).sum
theorem sU {k:Nat}:∀ {vs:List Verb},(∀ v ∈ vs,v.v.count.toNat≤k)→cost vs≤vs.length * k
 | [],_=>by simp [cost]
 |v::vs,h=>by
  have h1:=sU λu hu=>h u (List.mem_cons_of_mem _ hu)
  have h2:=h v List.mem_cons_self
  have h3:v.v.pieces.length≤v.v.count.toNat:=jE _ _ _
  unfold cost at h1 ⊢
  simp only [List.map_cons,List.sum_cons,List.length_cons]
  rw [Nat.succ_mul]
  omega
theorem Bc:∀ {xs:List Int} {ds:List Done},fE xs ds=false→∀ (q:Nat) (x:Int) (d:Done),xs[q]?=some x→ds[q]?=some d→gD d=x
 | [],_,_,q,x,d,h1,_=>by simp at h1
 |y::xs,[],_,q,x,d,_,h2=>by simp at h2
 |y::xs,e::ds,h,q,x,d,h1,h2=>by
  unfold fE at h
  rw [Bool.or_eq_false_iff] at h
  cases q with
  |zero=>
   simp only [List.getElem?_cons_zero,Option.some.injEq] at h1 h2
   subst h1 h2
   simpa using h.1
  |succ q=>exact Bc h.2 q x d (by simpa using h1) (by simpa using h2)
def noD:Nat→Option Done:=λ_=>none
theorem qY {vs:List Verb} {v:Verb}:¬ Ex vs noD v:=λ⟨_,_,_,h⟩=>by cases h
theorem xt {vs:List Verb} {v:Verb} (h:v ∈ vs):Pe vs noD v:=by
 obtain ⟨q,hq⟩:=List.mem_iff_getElem?.1 h
 exact ⟨q,hq,rfl⟩
theorem FJ {vs:List Verb} {dn:Nat→Option Done} {v:Verb} (h:Pe vs dn v):v ∈ vs:=by
 obtain ⟨q,hq,_⟩:=h
 exact List.mem_of_getElem? hq
theorem Dp {vs:List Verb} {dn:Nat→Option Done} {v:Verb} (h:Ex vs dn v):v ∈ vs:=by
 obtain ⟨q,_,hq,_⟩:=h
 exact List.mem_of_getElem? hq
def AllD (vs:List Verb) (dn:Nat→Option Done):Prop:=∀ q,q<vs.length→∃ d,dn q=some d
theorem AllD.no_pe {vs:List Verb} {dn:Nat→Option Done} (h:AllD vs dn) {v:Verb}:¬ Pe vs dn v:=λ⟨q,h1,h2⟩=>by
 obtain ⟨d,hd⟩:=h q (aP h1)
 rw [h2] at hd
 cases hd
theorem AllD.ex {vs:List Verb} {dn:Nat→Option Done} (h:AllD vs dn) {v:Verb} (hv:v ∈ vs):Ex vs dn v:=(x8 hv).resolve_right h.no_pe
section
variable {E:Env} {i:Nat} {j:CJob}
structure Adv (E:Env) (i:Nat) (j:CJob) (s:CS) (G:List (List Done)) (s':CS):Prop where
 L:∀ p ∈ j.writes,Lk j i s' p↔Lk j i s p
 N:∀ p ∈ j.writes,∀ m,m<E.n→(Nw j s' m p↔Nw j s m p)
 K:∀ m,m<E.n→(Ck j i s' m↔Ck j i s m)
 go:(s'.ph≤5∧s'.dn=noD∧dE j G=(vsOf j s',(0,0),false)∧vsOf j s'≠[]∧wv j s' G∧cost (vsOf j s')+rk s'.ph≤rk s.ph)∨(s'.ph=6∧dE j G=([],(0,3),true))∨(s'.ph=7∧dE j G=([],(7,1),true))
 one:qv j s→qv j s'
 tr:s'.ph≠5→s'.ph≠7→(s.ph≠5∧s.ph≠7)∧(s'.ph≤5→trOf E.n s'.ph=trOf E.n s.ph+1∧trOf E.n s.ph≤5)∧(s'.ph=6→trOf E.n s'.ph=trOf E.n s.ph)
theorem yi:∀ {xs:List Int} {ds:List Done},(∀ (q:Nat) (x:Int) (d:Done),xs[q]?=some x→ds[q]?=some d→gD d=x)→fE xs ds=false
 | [],_,_=>rfl
 | _::_,[],_=>rfl
 |x::xs,d::ds,h=>by
  unfold fE
  rw [Bool.or_eq_false_iff]
  exact ⟨by simpa using h 0 x d rfl rfl,yi λq y e h1 h2=>h (q+1) y e (by simpa using h1) (by simpa using h2)⟩
theorem bY.mem_ne (h:bY E i j) (hn:1≤E.n):j.v.mem≠[]:=by
 rw [h.mem]
 intro e
 have:=congrArg List.length e
 simp at this <;> omega
theorem CT (h:bY E i j) (hn:1≤E.n):gG j=[]→E.n=1:=λe=>by
 by_cases h2:1<E.n
 ·have:=(uS h (m:=1) (by omega) h2).2
  rw [e] at this
  cases this
 ·omega
theorem CU (h:bY E i j) (hn:E.n=1):gG j=[]:=by
 rw [h.backL,hn]
 rfl
theorem Bd (hE:fB E) (h:bY E i j):cost (fF j)≤555:=by
 have hl:=nP j.seq j.writes
 have hf:=h.few
 have h1:cost (fF j)≤(fF j).length * 111:=sU λv hv=>by
  rw [h.bodyE] at hv
  obtain ⟨m,_,rfl⟩:=List.mem_map.1 hv
  show ((oA j.seq j.writes).length:Int).toNat≤111
  omega
 have h2:(fF j).length=E.n:=by rw [h.bodyE];simp
 have:=hE.n
 rw [h2] at h1
 omega
theorem Be (hE:fB E) (h:bY E i j):cost (iT j)≤5:=by
 have h1:cost (iT j)≤(iT j).length * 1:=sU λv hv=>by
  rw [h.markE] at hv
  obtain ⟨m,_,rfl⟩:=List.mem_map.1 hv
  exact Nat.le_refl _
 have h2:(iT j).length=E.n:=by rw [h.markE];simp
 have:=hE.n
 omega
theorem Bf (hE:fB E) (h:bY E i j):cost (bE j)≤36:=by
 have h1:cost (bE j)≤(bE j).length * 1:=sU λv hv=>by
  obtain ⟨q,hq⟩:=List.mem_iff_getElem?.1 hv
  rcases lH h hE.n.1 hq with ⟨p,_,_,rfl⟩ | ⟨s,_,rfl⟩
  ·exact Nat.le_refl _
  ·exact Nat.le_refl _
 have h2:(bE j).length=j.writes.length+j.reads.length:=by unfold bE;simp
 have:=h.few
 have:=h.rfew
 omega
theorem Bg (hE:fB E) (h:bY E i j) (D:List Done):cost (iU j D)≤12:=by
 have h1:cost (iU j D)≤(iU j D).length * 1:=sU λv hv=>by
  obtain ⟨_,p,_,_,_,_,_,rfl⟩:=sP h hE.n.1 hv
  exact Nat.le_refl _
 have h2:=(qr (bE j) (em j) D).length_le
 have h3:((bE j).filter λv=>v.kind == 3).length≤j.writes.length:=by
  rw [h.lockL hE.n.1,List.filter_append,List.length_append]
  have e2:((j.reads.map λs=>rV (s.Line * 8)).filter λv=>v.kind == 3)=[]:=by
   rw [List.filter_eq_nil_iff]
   intro v hv
   obtain ⟨p,_,rfl⟩:=List.mem_map.1 hv
   simp [rV]
  rw [e2]
  have:=List.length_filter_le (λv:Verb=>v.kind == 3) (j.writes.map λp=>cV (p.Line * 8) p.Head (eZ p.Head i))
  simpa using this
 have:=h.few
 rw [List.length_map,List.length_map] at h2
 have h4:(iU j D).length=(fN (bE j) (em j) D).length:=rfl
 omega
theorem yj (hE:fB E) (h:bY E i j):cost (finV j)≤13:=by
 have hf:=h.few
 have h0:∀ l:List aG,(∀ p ∈ l,p ∈ j.writes)→cost (l.map (pgV 0))≤l.length:=λl hl=>by
  induction l with
  |nil=>simp [cost]
  |cons p l ih=>
   have:=ih λq hq=>hl q (List.mem_cons_of_mem _ hq)
   unfold cost at this ⊢
   simp only [List.map_cons,List.sum_cons,List.length_cons]
   have hp:=h.pl (hl p List.mem_cons_self)
   have:(pgV 0 p).v.pieces=[(p.Line * 8,8)]:=jA (v:=(pgV 0 p).v) (by show (1:Int)≤8;omega) (by show p.Line * 8 % 8+8≤8;omega) (by show 0≤p.Line * 8;omega)
   rw [this,List.length_singleton]
   omega
 have h1:=h0 j.writes λp hp=>hp
 rw [h.finL hE.n.1]
 unfold cost at h1 ⊢
 simp only [List.map_cons,List.sum_cons]
 have h6:=h.i6
 have:(ckV i j.seq 0).v.pieces=[(32+(i:Int),1)]:=jA (v:=(ckV i j.seq 0).v) (by show (1:Int)≤1;omega) (by show (32+(i:Int)) % 8+1≤8;omega) (by show 0≤32+(i:Int);omega)
 rw [this,List.length_singleton]
 omega
theorem yk (a b:List Verb):cost (a++b)=cost a+cost b:=by simp [cost]
theorem Bh (hE:fB E) (h:bY E i j):cost (gG j)≤52:=by
 have hf:=h.few
 have h6:=h.i6
 have hpg:∀ (m:Nat) (l:List aG),(∀ p ∈ l,p ∈ j.writes)→cost (l.map (pgV m))≤l.length:=λm l hl=>by
  induction l with
  |nil=>simp [cost]
  |cons p l ih=>
   have:=ih λq hq=>hl q (List.mem_cons_of_mem _ hq)
   unfold cost at this ⊢
   simp only [List.map_cons,List.sum_cons,List.length_cons]
   have hp:=h.pl (hl p List.mem_cons_self)
   have:(pgV m p).v.pieces=[(p.Line * 8,8)]:=jA (v:=(pgV m p).v) (by show (1:Int)≤8;omega) (by show p.Line * 8 % 8+8≤8;omega) (by show 0≤p.Line * 8;omega)
   rw [this,List.length_singleton]
   omega
 have hck:∀ m,cost [ckV i j.seq m]=1:=λm=>by
  have:(ckV i j.seq m).v.pieces=[(32+(i:Int),1)]:=jA (v:=(ckV i j.seq m).v) (by show (1:Int)≤1;omega) (by show (32+(i:Int)) % 8+1≤8;omega) (by show 0≤32+(i:Int);omega)
  simp [cost,this]
 have hall:∀ k:Nat,cost ((List.range k).map λm=>j.writes.map (pgV (m+1))++[ckV i j.seq (m+1)]).flatten≤k * 13:=λk=>by
  induction k with
  |zero=>simp [cost]
  |succ k ih=>
   rw [List.range_succ,List.map_append,List.flatten_append,yk]
   simp only [List.map_cons,List.map_nil,List.flatten_cons,List.flatten_nil,List.append_nil]
   rw [yk,hck]
   have:=hpg (k+1) j.writes λp hp=>hp
   omega
 rw [h.backL]
 have:=hall (E.n - 1)
 have:=hE.n
 omega
variable (hE:fB E) (h:bY E i j)
include hE h
theorem adv8 {dn:Nat→Option Done} {D:List Done}:Adv E i j ⟨8,dn,D⟩ [] ⟨0,noD,[]⟩:=by
 refine ⟨λp _=>Iff.rfl,λp _ m _=>Iff.rfl,λm _=>Iff.rfl,.inl ⟨by show 0≤5;omega,rfl,Fs h.valid h.some_ (h.mem_ne hE.n.1),(qU h.valid h.some_ (h.mem_ne hE.n.1)).1,rfl,?_⟩,λ_=>⟨by show 0≠5;omega,by show 0≠7;omega,λe=>absurd e (by show ¬ 0=1;omega)⟩,λ_ _=>⟨⟨by show 8≠5;omega,by show 8≠7;omega⟩,λ_=>⟨rfl,by show 0≤5;omega⟩,λe=>(by cases e)⟩⟩
 have:=Bd hE h
 show cost (fF j)+106≤700
 omega
theorem adv0 {dn:Nat→Option Done} {D:List Done} {G:List (List Done)} (hg:wv j ⟨0,dn,D⟩ G) {ds:List Done} (hf:Fit (fF j) ds):Adv E i j ⟨0,dn,D⟩ (G++[ds]) ⟨1,noD,[]⟩:=by
 have hg:G=[]:=hg
 subst hg
 refine ⟨λp _=>⟨λ⟨_,_,_,e,_⟩=>(by cases e),λe=>e.elim⟩,λp _ m _=>Iff.rfl,λm _=>Iff.rfl,.inl ⟨by show 1≤5;omega,rfl,Ft h.valid h.some_ (h.mem_ne hE.n.1) hf,uP h.valid h.some_,⟨ds,rfl,hf⟩,?_⟩,λ_=>⟨by show 1≠5;omega,by show 1≠7;omega,λ_ q x d _ e=>by cases e⟩,λ_ _=>⟨⟨by show 0≠5;omega,by show 0≠7;omega⟩,λ_=>⟨rfl,by show 1≤5;omega⟩,λe=>(by cases e)⟩⟩
 have:=Bf hE h
 show cost (bE j)+70≤106
 omega
theorem lk1 {dn:Nat→Option Done} {D ds:List Done} {p:aG} (hp:p ∈ j.writes) (hds:∀ q d,dn q=some d→ds[q]?=some d) (ha:AllD (bE j) dn):Lk j i ⟨1,dn,D⟩ p↔∃ (q:Nat) (d:Done),j.writes[q]?=some p∧ds[q]?=some d∧gD d=p.Head:=by
 constructor
 ·rintro ⟨r,d,h1,h2,h3⟩
  rcases lH h hE.n.1 h1 with ⟨p',hp',hq,e⟩ | ⟨s,_,e⟩
  ·have:=uR h hp hp' e
   subst this
   exact ⟨r,d,hq,hds r d h2,h3⟩
  ·exact absurd e Eu
 ·rintro ⟨q,d,h1,h2,h3⟩
  have hl:=rK h hE.n.1 h1
  obtain ⟨d',hd'⟩:=ha q (aP hl)
  have:=hds q d' hd'
  rw [h2] at this
  cases this
  exact ⟨q,d,hl,hd',h3⟩
theorem adv1 {dn:Nat→Option Done} {D:List Done} {G:List (List Done)} (hg:wv j ⟨1,dn,D⟩ G) {ds:List Done} (hf:Fit (bE j) ds) (hds:∀ q d,dn q=some d→ds[q]?=some d) (ha:AllD (bE j) dn):∃ s',Adv E i j ⟨1,dn,D⟩ (G++[ds]) s':=by
 obtain ⟨d0,hG,h0⟩:=hg
 subst hG
 have hm:=h.mem_ne hE.n.1
 have hno:qv j ⟨1,dn,D⟩→fE (em j) ds=false:=λg=>yi λq x d h1 h2=>by
  have hlen:q<(bE j).length:=by rw [←hf.len];exact aP h2
  obtain ⟨d',hd'⟩:=ha q hlen
  have:=hds q d' hd'
  rw [h2] at this
  cases this
  exact g.2.2 rfl q x d h1 hd'
 cases hc:fE (em j) ds with
 |false=>
  refine ⟨⟨2,noD,ds⟩,λp hp=>⟨λ_=>?_,λ_=>trivial⟩,λp _ m _=>Iff.rfl,λm _=>Iff.rfl,.inl ⟨by show 2≤5;omega,rfl,Fy h.valid h.some_ hm h0 hf hc,(qU h.valid h.some_ hm).2,⟨d0,rfl,h0,hf,hc⟩,?_⟩,λ_=>⟨by show 2≠5;omega,by show 2≠7;omega,λe=>absurd e (by show ¬ 2=1;omega)⟩,λ_ _=>⟨⟨by show 1≠5;omega,by show 1≠7;omega⟩,λ_=>⟨rfl,by show 2≤5;omega⟩,λe=>(by cases e)⟩⟩
  ·rw [lk1 hE h hp hds ha]
   obtain ⟨q,hq⟩:=List.mem_iff_getElem?.1 hp
   have hl:=rK h hE.n.1 hq
   obtain ⟨d,hd⟩:=ha q (aP hl)
   exact ⟨q,d,hq,hds q d hd,Bc hc q _ d (uT h hq) (hds q d hd)⟩
  ·have:=Be hE h
   show cost (iT j)+65≤70
   omega
 |true=>
  have hun:∀ p ∈ j.writes,qq i p ∈ iU j ds↔Lk j i ⟨1,dn,D⟩ p:=λp hp=>by
   rw [lk1 hE h hp hds ha]
   constructor
   ·intro hu
    obtain ⟨q,p',d,hp',g1,g2,g3,g4⟩:=sP h hE.n.1 hu
    have:=x9 h hp hp' g4
    subst this
    exact ⟨q,d,g1,g2,g3⟩
   ·rintro ⟨q,d,g1,g2,g3⟩
    exact CG h hE.n.1 g1 g2 g3
  by_cases hu:iU j ds=[]
  ·refine ⟨⟨7,noD,ds⟩,λp hp=>⟨λe=>e.elim,λe=>?_⟩,λp _ m _=>Iff.rfl,λm _=>Iff.rfl,.inr (.inr ⟨rfl,Fv h.valid h.some_ hm h0 hf hc hu⟩),λg=>absurd (hno g) (by rw [hc];simp),λ_ e=>absurd rfl e⟩
   have:=(hun p hp).2 e
   rw [hu] at this
   cases this
  ·refine ⟨⟨5,noD,ds⟩,λp hp=>?_,λp _ m _=>Iff.rfl,λm _=>Iff.rfl,.inl ⟨by show 5≤5;omega,rfl,Fu h.valid h.some_ hm h0 hf hc hu,hu,⟨d0,rfl,h0,hf,hc,hu⟩,?_⟩,λg=>absurd (hno g) (by rw [hc];simp),λe _=>absurd rfl e⟩
   ·rw [←hun p hp]
    exact ⟨λe=>FJ e,λe=>xt e⟩
   ·have:=Bg hE h ds
    show cost (iU j ds)+0≤70
    omega
theorem adv2 {dn:Nat→Option Done} {D:List Done} {G:List (List Done)} (hg:wv j ⟨2,dn,D⟩ G) {ds:List Done} (hf:Fit (iT j) ds):∃ s',Adv E i j ⟨2,dn,D⟩ (G++[ds]) s':=by
 obtain ⟨d0,hG,h0,hD,hc⟩:=hg
 subst hG
 have hm:=h.mem_ne hE.n.1
 by_cases hb:gG j=[]
 ·have hn1:=CT h hE.n.1 hb
  refine ⟨⟨4,noD,D⟩,λp hp=>⟨λ_=>trivial,λ_=>xt ((sN h hE.n.1).1 p hp)⟩,λp _ m hm'=>⟨λe=>?_,λe=>e.elim⟩,λm hm'=>⟨λe=>?_,λe=>e.elim⟩,.inl ⟨by show 4≤5;omega,rfl,Ep h.valid h.some_ hm h0 hD hc hf hb,tR h.valid h.some_ hm,.inr ⟨d0,ds,rfl,h0,hD,hc,hf,hb⟩,?_⟩,λ_=>⟨by show 4≠5;omega,by show 4≠7;omega,λe=>absurd e (by show ¬ 4=1;omega)⟩,λ_ _=>⟨⟨by show 2≠5;omega,by show 2≠7;omega⟩,λ_=>⟨by show (if E.n=1 then 4 else 5)=3+1;rw [if_pos hn1],by show 3≤5;omega⟩,λe=>(by cases e)⟩⟩
  ·rcases e with e | e
   ·omega
   ·exact (qY e).elim
  ·rcases e with e | e
   ·omega
   ·exact (qY e).elim
  ·have:=yj hE h
   show cost (finV j)+0≤65
   omega
 ·refine ⟨⟨3,noD,D⟩,λp hp=>Iff.rfl,λp _ m _=>⟨λe=>(qY e).elim,λe=>e.elim⟩,λm _=>⟨λe=>(qY e).elim,λe=>e.elim⟩,.inl ⟨by show 3≤5;omega,rfl,Fz h.valid h.some_ hm h0 hD hc hf hb,hb,⟨d0,ds,rfl,h0,hD,hc,hf,hb⟩,?_⟩,λ_=>⟨by show 3≠5;omega,by show 3≠7;omega,λe=>absurd e (by show ¬ 3=1;omega)⟩,λ_ _=>⟨⟨by show 2≠5;omega,by show 2≠7;omega⟩,λ_=>⟨rfl,by show 3≤5;omega⟩,λe=>(by cases e)⟩⟩
  have:=Bh hE h
  show cost (gG j)+13≤65
  omega
theorem adv3 {dn:Nat→Option Done} {D:List Done} {G:List (List Done)} (hg:wv j ⟨3,dn,D⟩ G) {ds:List Done} (hf:Fit (gG j) ds) (ha:AllD (gG j) dn):∃ s',Adv E i j ⟨3,dn,D⟩ (G++[ds]) s':=by
 obtain ⟨d0,d2,hG,h0,hD,hc,h2,hb⟩:=hg
 subst hG
 have hm:=h.mem_ne hE.n.1
 refine ⟨⟨4,noD,D⟩,λp hp=>⟨λ_=>trivial,λ_=>xt ((sN h hE.n.1).1 p hp)⟩,λp hp m hm'=>⟨λe=>?_,λe=>?_⟩,λm hm'=>⟨λe=>?_,λe=>?_⟩,.inl ⟨by show 4≤5;omega,rfl,FA h.valid h.some_ hm h0 hD hc h2 hb hf,tR h.valid h.some_ hm,.inl ⟨d0,d2,ds,rfl,h0,hD,hc,h2,hb,hf⟩,?_⟩,λ_=>⟨by show 4≠5;omega,by show 4≠7;omega,λe=>absurd e (by show ¬ 4=1;omega)⟩,λ_ _=>⟨⟨by show 3≠5;omega,by show 3≠7;omega⟩,λ_=>⟨by show (if E.n=1 then 4 else 5)=4+1;rw [if_neg λe=>hb (CU h e)],by show 4≤5;omega⟩,λe=>(by cases e)⟩⟩
 ·rcases e with e | e
  ·exact ha.ex ((uS h e hm').1 p hp)
  ·exact (qY e).elim
 ·obtain ⟨m',g1,_,g⟩:=sM h (Dp e)
  rcases g with ⟨p',hp',e2⟩ | e2
  ·exact .inl (by rw [(sL h hp hp' e2).1];exact g1)
  ·exact absurd e2 (wi h hp _)
 ·rcases e with e | e
  ·exact ha.ex (uS h e hm').2
  ·exact (qY e).elim
 ·obtain ⟨m',g1,_,g⟩:=sM h (Dp e)
  rcases g with ⟨p',hp',e2⟩ | e2
  ·exact absurd e2.symm (wi h hp' _)
  ·exact .inl (by rw [AP e2];exact g1)
 ·have:=yj hE h
  show cost (finV j)+0≤13
  omega
theorem adv4 {dn:Nat→Option Done} {D:List Done} {G:List (List Done)} (hg:wv j ⟨4,dn,D⟩ G) {ds:List Done} (hf:Fit (finV j) ds) (ha:AllD (finV j) dn):∃ s',Adv E i j ⟨4,dn,D⟩ (G++[ds]) s':=by
 have hm:=h.mem_ne hE.n.1
 have hL:∀ p ∈ j.writes,Lk j i ⟨6,noD,D⟩ p↔Lk j i ⟨4,dn,D⟩ p:=λp hp=>⟨λe=>e.elim,λe=>(ha.no_pe e).elim⟩
 have hN:∀ p ∈ j.writes,∀ m,m<E.n→(Nw j ⟨6,noD,D⟩ m p↔Nw j ⟨4,dn,D⟩ m p):=λp hp m _=>⟨λ_=>by
  cases m with
  |zero=>exact .inr (ha.ex ((sN h hE.n.1).1 p hp))
  |succ m=>exact .inl (by omega),λ_=>trivial⟩
 have hK:∀ m,m<E.n→(Ck j i ⟨6,noD,D⟩ m↔Ck j i ⟨4,dn,D⟩ m):=λm _=>⟨λ_=>by
  cases m with
  |zero=>exact .inr (ha.ex (sN h hE.n.1).2)
  |succ m=>exact .inl (by omega),λ_=>trivial⟩
 rcases hg with ⟨d0,d2,d3,hG,h0,hD,hc,h2,hb,h3⟩ | ⟨d0,d2,hG,h0,hD,hc,h2,hb⟩
 ·subst hG
  exact ⟨⟨6,noD,D⟩,hL,hN,hK,.inr (.inl ⟨rfl,FB h.valid h.some_ hm h0 hD hc h2 hb h3 hf⟩),λ_=>⟨by show 6≠5;omega,by show 6≠7;omega,λe=>absurd e (by show ¬ 6=1;omega)⟩,λ_ _=>⟨⟨by show 4≠5;omega,by show 4≠7;omega⟩,λe=>absurd e (by show ¬ 6≤5;omega),λ_=>rfl⟩⟩
 ·subst hG
  exact ⟨⟨6,noD,D⟩,hL,hN,hK,.inr (.inl ⟨rfl,Er h.valid h.some_ hm h0 hD hc h2 hb hf⟩),λ_=>⟨by show 6≠5;omega,by show 6≠7;omega,λe=>absurd e (by show ¬ 6=1;omega)⟩,λ_ _=>⟨⟨by show 4≠5;omega,by show 4≠7;omega⟩,λe=>absurd e (by show ¬ 6≤5;omega),λ_=>rfl⟩⟩
theorem adv5 {dn:Nat→Option Done} {D:List Done} {G:List (List Done)} (hg:wv j ⟨5,dn,D⟩ G) {ds:List Done} (hf:Fit (iU j D) ds) (ha:AllD (iU j D) dn):∃ s',Adv E i j ⟨5,dn,D⟩ (G++[ds]) s':=by
 obtain ⟨d0,hG,h0,hD,hc,hu⟩:=hg
 subst hG
 exact ⟨⟨7,noD,D⟩,λp hp=>⟨λe=>e.elim,λe=>(ha.no_pe e).elim⟩,λp _ m _=>Iff.rfl,λm _=>Iff.rfl,.inr (.inr ⟨rfl,Fw h.valid h.some_ (h.mem_ne hE.n.1) h0 hD hc hu hf⟩),λg=>absurd rfl g.1,λ_ e=>absurd rfl e⟩
end
end Go.Proofs.YtegepanmkjemjaaGreat
