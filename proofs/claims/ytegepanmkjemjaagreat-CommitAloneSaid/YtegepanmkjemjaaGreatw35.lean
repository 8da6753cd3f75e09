import Derived.Test.YtegepanmkjemjaaGreatw32
import Derived.Test.YtegepanmkjemjaaGreatw34
set_option linter.unusedVariables false
namespace Go.Proofs.YtegepanmkjemjaaGreat
open Go.Eng C12
def plen (l:Lane):Nat:=(l.pair.verbs.map λv=>v.v.pieces.length).sum - l.pair.executed
def pcs (C:Comp):Nat:=(C.lanes.map plen).sum
theorem vF:∀ {l:List Nat} {i:Nat} {a b:Nat},l[i]?=some a→(l.set i b).sum+a=l.sum+b
 | [],i,a,b,h=>by simp at h
 |x::l,0,a,b,h=>by
  simp only [List.getElem?_cons_zero,Option.some.injEq] at h
  subst h
  simp only [List.set_cons_zero,List.sum_cons]
  omega
 |x::l,i+1,a,b,h=>by
  have:=vF (l:=l) (i:=i) (a:=a) (b:=b) (by simpa using h)
  simp only [List.set_cons_succ,List.sum_cons]
  omega
theorem xm {p:Pair} {n:aP} (hP:bR p) (hr:∀ v vs',p.verbs=v::vs'→p.refusal v n=0) {l l':Lane} (hl:l.pair=p) (hl':l'.pair=(p.step n).1) (hv:p.verbs≠[]):plen l'<plen l:=by
 obtain ⟨v,vs',hpv⟩:=List.exists_cons_of_ne_nil hv
 have hrd:=hP.rdy v vs' hpv
 unfold plen
 rw [hl,hl',x6 hpv (hr v vs' hpv),hpv]
 simp only [List.map_cons,List.sum_cons]
 split
 ·rename_i hlt
  show ((v::vs').map _).sum - (p.executed+1)<_
  simp only [List.map_cons,List.sum_cons]
  omega
 ·show (p.verbs.tail.map _).sum - 0<_
  rw [hpv]
  simp only [List.tail_cons]
  omega
def Dry (p:Pair):Prop:=∀ v vs',p.verbs=v::vs'→v.kind=2→p.words=[]
theorem yT {p:Pair} {n:aP} (hd:Dry p):Dry (p.step n).1:=by
 unfold Pair.step
 cases hv:p.verbs with
 |nil=>exact hd
 |cons x xs=>
  simp only
  split
  ·exact λ_ _ _ _=>rfl
  ·split
   ·intro v vs' e hk
    have e:x::xs=v::vs':=e
    cases e
    show p.words++(exec x _ n).2=[]
    rw [hd x xs hv hk]
    unfold exec
    rw [if_neg (by omega),if_pos hk]
    rfl
   ·exact λ_ _ _ _=>rfl
def Gz (vs:List Verb) (dn:Nat→Option Done):Prop:=∀ q d,dn q=some d→∃ v,vs[q]?=some v∧d.code=0∧(d.words.length:Int)=v.v.rets
def xn (j:CJob) (s:CS) (got:List (List Done)):Prop:=match s.ph with
 | 0=>got=[]
 | 1=>∃ d0,got=[d0]∧Fit (fJ j) d0
 | 2=>∃ d0,got=[d0,s.D]∧Fit (fJ j) d0∧Fit (aW j) s.D∧fA (dO j) s.D=false
 | 3=>∃ d0 d2,got=[d0,s.D,d2]∧Fit (fJ j) d0∧Fit (aW j) s.D∧fA (dO j) s.D=false∧Fit (iV j) d2∧gE j≠[]
 | 4=>(∃ d0 d2 d3,got=[d0,s.D,d2,d3]∧Fit (fJ j) d0∧Fit (aW j) s.D∧fA (dO j) s.D=false∧Fit (iV j) d2∧gE j≠[]∧Fit (gE j) d3)∨∃ d0 d2,got=[d0,s.D,d2]∧Fit (fJ j) d0∧Fit (aW j) s.D∧fA (dO j) s.D=false∧Fit (iV j) d2∧gE j=[]
 | 5=>∃ d0,got=[d0,s.D]∧Fit (fJ j) d0∧Fit (aW j) s.D∧fA (dO j) s.D=true∧iW j s.D≠[]
 | _=>True
def kv (C:Comp):Prop:=∀ (k:Nat) (l:Lane),C.lanes[k]?=some l→l.pair.verbs=[]
def trOf (n:Nat):Nat→Nat
 | 0=>1
 | 1=>2
 | 2=>3
 | 3=>4
 | 4=>if n=1 then 4 else 5
 | 6=>if n=1 then 4 else 5
 | _=>0
structure Du (n:Nat) (C:Comp):Prop where
 batch:C.batch=none
 quiet:kv C
 inc:C.inc=1
 live:C.alive=true
 lanes:C.lanes.length=n
 dry:∀ (k:Nat) (l:Lane),C.lanes[k]?=some l→Dry l.pair
structure Fi (E:Env) (i:Nat) (C:Comp) (t:Tk conv) (s:CS):Prop where
 cl:t.client=(i:Int)
 job:t.job=E.J i
 bad:t.bad=false
 inc:C.inc=1
 live:C.alive=true
 lanes:C.lanes.length=E.n
 ph:s.ph≤8
 dry:∀ (k:Nat) (l:Lane),C.lanes[k]?=some l→Dry l.pair
 run:s.ph≤5→t.over=false∧Bt C (vsOf (E.J i) s) s.dn∧Gz (vsOf (E.J i) s) s.dn∧xn (E.J i) s t.got
 stop:s.ph=6∨s.ph=7→t.over=true∧(C.batch=none∧kv C)∧(s.ph=6→t.out=((0:Int),(3:Int)))∧(s.ph=7→t.out=((7:Int),(1:Int)))
 new:s.ph=8→t.over=false∧t.got=[]∧C.batch=none∧kv C
 trips:E.tr=true→s.ph≠5→s.ph≠7→C.trips=trOf E.n s.ph
def qW (j:CJob) (s:CS):Prop:=s.ph≠5∧s.ph≠7∧(s.ph=1→∀ (q:Nat) (x:Int) (d:Done),(dO j)[q]?=some x→s.dn q=some d→gC d=x)
structure Inv (E:Env) (F:Fab) (ts:List (Tk conv)) (S:Nat→CS):Prop where
 fine:Fine F
 lines:F.lines=E.L
 mem:ie E F.nodes S
 tl:ts.length=E.ids.length
 cli:∀ i,E.on i→∃ (C:Comp) (t:Tk conv),F.clients[i]?=some C∧(∀ k:Nat,E.ids[k]?=some i→ts[k]?=some t)∧Fi E i C t (S i)
 rest:∀ (i:Nat) (C:Comp),¬ E.on i→F.clients[i]?=some C→Du E.n C
 orph:F.orphans=[]
 six:∀ k:Nat,k<6→∃ C,F.clients[k]?=some C
theorem Dv {E:Env} (hE:fK E) {F F':Fab} {ts:List (Tk conv)} {S:Nat→CS} (h:Inv E F ts S) {i m:Nat} (hi:E.on i) (hs:stepL i m F=some F') :
  ∃ s',Inv E F' ts (updS S i s')∧s'.ph=(S i).ph∧(E.ids=[i]→qW (E.J i) (S i)→qW (E.J i) s')∧∃ C C',F.clients[i]?=some C∧F'.clients[i]?=some C'∧pcs C'<pcs C∧∀ k,k≠i→F'.clients[k]?=F.clients[k]?:=by
 obtain ⟨C,l,x,hC,hl,hx,hv,hF'⟩:=ef.1 hs
 have hfine':=h.fine.stepL hs
 obtain ⟨C0,t,hC0,ht,hc⟩:=h.cli i hi
 rw [hC] at hC0
 cases hC0
 have hj:=hE.job i hi
 have hlt:=aO hC
 have hvne:l.pair.verbs≠[]:=λe=>hv (by rw [e];rfl)
 obtain ⟨v,vs',hpv⟩:=List.exists_cons_of_ne_nil hvne
 have hph:(S i).ph≤5:=by
  have h8:=hc.ph
  rcases Nat.lt_or_ge 5 (S i).ph with h5 | h5
  ·exfalso
   by_cases e8:(S i).ph=8
   ·exact hvne ((hc.new e8).2.2.2 m l hl)
   ·exact hvne ((hc.stop (by omega)).2.1.2 m l hl)
  ·exact h5
 obtain ⟨hov,hbt,hres,hgot⟩:=hc.run hph
 obtain ⟨q,ps,hpl,hvq,hnode,hdq⟩:=(hbt.lane m l hl).head hpv
 have hco:=h.fine.good.ok.client i C hC
 have hlo:=hco.lane m l hl
 have hP:bR l.pair:=h.fine.good.cl C (List.mem_of_getElem? hC) l (List.mem_of_getElem? hl)
 have hpf:PF i l.pair v:=⟨hP,⟨vs',hpv⟩,hlo.client,hlo.inc.trans hc.inc,λhk=>hc.dry m l hl v vs' hpv hk⟩
 have hst:kY E F.nodes S i m l.pair x v q (S i)∧VGo E.n E.L v:=by
  generalize hSi:S i=s at *
  obtain ⟨ph,dn,D⟩:=s
  have hmem:=List.mem_of_getElem? hvq
  have hn1:=hE.n.1
  rcases ph with _ | _ | _ | _ | _ | _ | ph
  ·refine ⟨Dk hE h.mem hi hx hSi hvq hnode hpf,?_⟩
   have hvq':=hvq
   change (fJ (E.J i))[q]?=some v at hvq'
   rw [hj.bodyE] at hvq'
   obtain ⟨hq,rfl⟩:=sC hvq'
   exact (rD hE hj hq).1
  ·refine ⟨Dm hE h.mem hi hx hSi hvq hdq hnode hpf,?_⟩
   rcases lW hj hn1 hvq with ⟨p,hp,_,rfl⟩ | ⟨s,hs,rfl⟩
   ·exact pV hE hj hp _ _
   ·exact yN hE hj hs
  ·refine ⟨Dl hE h.mem hi hx hSi hvq hnode hpf,?_⟩
   have hvq':=hvq
   change (iV (E.J i))[q]?=some v at hvq'
   rw [hj.markE] at hvq'
   obtain ⟨hq,rfl⟩:=sC hvq'
   exact (rD hE hj hq).2
  ·refine ⟨Do hE h.mem hi hx hSi hvq hdq hnode hpf,?_⟩
   obtain ⟨m',g1,g2,g⟩:=tE hj hmem
   rcases g with ⟨p,hp,rfl⟩ | rfl
   ·exact uJ hE hj g2 hp
   ·exact uK hE hj g2 _
  ·refine ⟨Dp hE h.mem hi hx hSi hvq hdq hnode hpf,?_⟩
   rcases BC hj hn1 hmem with rfl | ⟨p,hp,rfl⟩
   ·exact uK hE hj (by omega) _
   ·exact uJ hE hj (by omega) hp
  ·refine ⟨Dn hE h.mem hi hx hSi hvq hdq hnode hpf,?_⟩
   obtain ⟨_,p,_,hp,_,_,_,rfl⟩:=tH hj hn1 hmem
   exact pV hE hj hp _ _
  ·exact absurd hph (by show ¬ (ph+6≤5);omega)
 obtain ⟨⟨hst1,hst2⟩,hgo⟩:=hst
 have hr:∀ v2 vs2,l.pair.verbs=v2::vs2→l.pair.refusal v2 x=0:=λv2 vs2 e=>by
  rw [hpv] at e
  cases e
  exact jC (h.mem.fix m x hx) hE.n.2 hgo hj.i6 hpf.cl hpf.inc
 have hmain:∃ s',s'.ph=(S i).ph∧(E.ids=[i]→qW (E.J i) (S i)→qW (E.J i) s')∧ie E (F.nodes.set m (l.pair.step x).2.1) (updS S i s')∧Fi E i (C.comes m l (l.pair.step x).1 (l.pair.step x).2.2) t s':=by
  have hsv:=Gh l.pair x
  have hdry:∀ (k:Nat) (l':Lane),(C.comes m l (l.pair.step x).1 (l.pair.step x).2.2).lanes[k]?=some l'→Dry l'.pair:=λk l' hk=>by
   by_cases e:k=m
   ·subst e
    have hlt2:=aO hl
    have hp':l'.pair=(l.pair.step x).1:=by
     cases hd:(l.pair.step x).2.2<;>(rw [hd] at hk;simp [Comp.comes,hlt2] at hk;rw [←hk])
    rw [hp']
    exact yT (hc.dry k l hl)
   ·rw [eE e] at hk
    exact hc.dry k l' hk
  have hinc:(C.comes m l (l.pair.step x).1 (l.pair.step x).2.2).inc=C.inc:=by cases (l.pair.step x).2.2<;>rfl
  have hlan:(C.comes m l (l.pair.step x).1 (l.pair.step x).2.2).lanes.length=C.lanes.length:=by cases (l.pair.step x).2.2<;>simp [Comp.comes]
  have hal:=ya C m l (l.pair.step x).1 (l.pair.step x).2.2
  have htr:(C.comes m l (l.pair.step x).1 (l.pair.step x).2.2).trips=C.trips:=by cases (l.pair.step x).2.2<;>rfl
  cases hd:(l.pair.step x).2.2 with
  |none=>
   rw [hd] at hdry hinc hlan hal htr
   have hvb:(l.pair.step x).1.verbs=l.pair.verbs:=by
    rcases hsv with ⟨_,e⟩ | ⟨d,e,_⟩
    ·exact e
    ·rw [hd] at e;cases e
   refine ⟨S i,rfl,λ_ g=>g,hst1 hd,hc.cl,hc.job,hc.bad,hinc.trans hc.inc,hal.trans hc.live,hlan.trans hc.lanes,hc.ph,hdry,λ_=>⟨hov,hbt.more hl hvb,hres,hgot⟩,λe=>by omega,λe=>by omega,λa b c=>htr.trans (hc.trips a b c)⟩
  |some d=>
   rw [hd] at hdry hinc hlan hal htr
   have hvb:(l.pair.step x).1.verbs=vs':=by
    rcases hsv with ⟨e,_⟩ | ⟨d',_,e⟩
    ·rw [hd] at e;cases e
    ·rw [e,hpv];rfl
   obtain ⟨e1,e2,e3⟩:=hst2 d hd
   refine ⟨{ S i with dn:=upd (S i).dn q d },rfl,λhone g=>⟨g.1,g.2.1,λh1 k xw e hw hk=>?_⟩,e3,hc.cl,hc.job,hc.bad,hinc.trans hc.inc,hal.trans hc.live,hlan.trans hc.lanes,hc.ph,hdry,λ_=>⟨hov,hbt.done hl hpv hvb hpl d,λk e hk=>?_,hgot⟩,λe=>?_,λe=>?_,λa b c=>htr.trans (hc.trips a b c)⟩
   ·have h1:(S i).ph=1:=h1
    by_cases ek:k=q
    ·subst ek
     have hk:upd (S i).dn k d k=some e:=hk
     rw [jT] at hk
     cases hk
     generalize hSi:S i=s at *
     obtain ⟨ph,dn,D⟩:=s
     have h1:ph=1:=h1
     subst h1
     have hvq:(aW (E.J i))[k]?=some v:=hvq
     have hm0:m=0:=by
      rcases lW hj hE.n.1 hvq with ⟨p,_,_,rfl⟩ | ⟨s,_,rfl⟩
      ·exact hnode.symm
      ·exact hnode.symm
     subst hm0
     rw [BG hE h.mem hi hx hvq hnode hpf d hd]
     exact BI hE h.mem hone hx hSi hvq hdq hw
    ·have hk:upd (S i).dn q d k=some e:=hk
     rw [lI ek] at hk
     exact g.2.2 h1 k xw e hw hk
   ·by_cases ek:k=q
    ·subst ek
     have hk:upd (S i).dn k d k=some e:=hk
     rw [jT] at hk
     cases hk
     exact ⟨v,hvq,e1,e2⟩
    ·have hk:upd (S i).dn q d k=some e:=hk
     rw [lI ek] at hk
     exact hres k e hk
   ·have e:(S i).ph=6∨(S i).ph=7:=e
    omega
   ·have e:(S i).ph=8:=e
    omega
 obtain ⟨s',hs1,hs1',hs2,hs3⟩:=hmain
 have hcl':F'.clients[i]?=some (C.comes m l (l.pair.step x).1 (l.pair.step x).2.2):=by rw [hF'];exact List.getElem?_set_self hlt
 have hoth:∀ k,k≠i→F'.clients[k]?=F.clients[k]?:=λk hk=>by rw [hF'];exact List.getElem?_set_ne (λe=>hk e.symm)
 refine ⟨s',⟨hfine',by rw [hF'];exact h.lines,by rw [hF'];exact hs2,h.tl,λk hk=>?_,λk C2 hk hC2=>?_,by rw [hF'];exact h.orph,λk hk=>?_⟩,hs1,hs1',C,_,hC,hcl',?_,hoth⟩
 ·by_cases e:k=i
  ·subst e
   exact ⟨_,t,hcl',ht,by rw [bU];exact hs3⟩
  ·obtain ⟨C2,t2,g1,g2,g3⟩:=h.cli k hk
   exact ⟨C2,t2,by rw [hoth k e];exact g1,g2,by rw [eD e];exact g3⟩
 ·rw [hoth k (λe=>hk (by rw [e];exact hi))] at hC2
  exact h.rest k C2 hk hC2
 ·by_cases e:k=i
  ·subst e
   exact ⟨_,hcl'⟩
  ·rw [hoth k e]
   exact h.six k hk
 ·have hlt2:=aO hl
  have hset:∃ l',(C.comes m l (l.pair.step x).1 (l.pair.step x).2.2).lanes=C.lanes.set m l'∧l'.pair=(l.pair.step x).1:=by
   cases (l.pair.step x).2.2 with
   |none=>exact ⟨_,rfl,rfl⟩
   |some d=>exact ⟨_,rfl,rfl⟩
  obtain ⟨l',e1,e2⟩:=hset
  unfold pcs
  rw [e1,List.map_set]
  have hps:=xm hP hr (l:=l) (l':=l') rfl e2 hvne
  have:=vF (l:=C.lanes.map plen) (i:=m) (a:=plen l) (b:=plen l') (by rw [List.getElem?_map,hl];rfl)
  omega
end Go.Proofs.YtegepanmkjemjaaGreat
namespace Go.Proofs.YtegepanmkjemjaaGreat
open Go.Eng C12
def rk:Nat→Nat
 | 0=>106
 | 1=>70
 | 2=>65
 | 3=>13
 | 8=>700
 | _=>0
def cost (vs:List Verb):Nat:=(vs.map λv=>v.v.pieces.length).sum
theorem rF {k:Nat}:∀ {vs:List Verb},(∀ v ∈ vs,v.v.count.toNat≤k)→cost vs≤vs.length * k
 | [],_=>by simp [cost]
 |v::vs,h=>by
  have h1:=rF λu hu=>h u (List.mem_cons_of_mem _ hu)
  have h2:=h v List.mem_cons_self
  have h3:v.v.pieces.length≤v.v.count.toNat:=jO _ _ _
  unfold cost at h1 ⊢
  simp only [List.map_cons,List.sum_cons,List.length_cons]
  rw [Nat.succ_mul]
  omega
theorem BP:∀ {xs:List Int} {ds:List Done},fA xs ds=false→∀ (q:Nat) (x:Int) (d:Done),xs[q]?=some x→ds[q]?=some d→gC d=x
 | [],_,_,q,x,d,h1,_=>by simp at h1
 |y::xs,[],_,q,x,d,_,h2=>by simp at h2
 |y::xs,e::ds,h,q,x,d,h1,h2=>by
  unfold fA at h
  rw [Bool.or_eq_false_iff] at h
  cases q with
  |zero=>
   simp only [List.getElem?_cons_zero,Option.some.injEq] at h1 h2
   subst h1 h2
   simpa using h.1
  |succ q=>exact BP h.2 q x d (by simpa using h1) (by simpa using h2)
def noD:Nat→Option Done:=λ_=>none
theorem rG {vs:List Verb} {v:Verb}:¬ Ex vs noD v:=λ⟨_,_,_,h⟩=>by cases h
theorem yb {vs:List Verb} {v:Verb} (h:v ∈ vs):Pe vs noD v:=by
 obtain ⟨q,hq⟩:=List.mem_iff_getElem?.1 h
 exact ⟨q,hq,rfl⟩
theorem GA {vs:List Verb} {dn:Nat→Option Done} {v:Verb} (h:Pe vs dn v):v ∈ vs:=by
 obtain ⟨q,hq,_⟩:=h
 exact List.mem_of_getElem? hq
theorem D9 {vs:List Verb} {dn:Nat→Option Done} {v:Verb} (h:Ex vs dn v):v ∈ vs:=by
 obtain ⟨q,_,hq,_⟩:=h
 exact List.mem_of_getElem? hq
def AllD (vs:List Verb) (dn:Nat→Option Done):Prop:=∀ q,q<vs.length→∃ d,dn q=some d
theorem AllD.no_pe {vs:List Verb} {dn:Nat→Option Done} (h:AllD vs dn) {v:Verb}:¬ Pe vs dn v:=λ⟨q,h1,h2⟩=>by
 obtain ⟨d,hd⟩:=h q (aO h1)
 rw [h2] at hd
 cases hd
theorem AllD.ex {vs:List Verb} {dn:Nat→Option Done} (h:AllD vs dn) {v:Verb} (hv:v ∈ vs):Ex vs dn v:=(yJ hv).resolve_right h.no_pe
section
variable {E:Env} {i:Nat} {j:CJob}
structure Adv (E:Env) (i:Nat) (j:CJob) (s:CS) (G:List (List Done)) (s':CS):Prop where
 L:∀ p ∈ j.writes,Lk j i s' p↔Lk j i s p
 N:∀ p ∈ j.writes,∀ m,m<E.n→(Nw j s' m p↔Nw j s m p)
 K:∀ m,m<E.n→(Ck j i s' m↔Ck j i s m)
 go:(s'.ph≤5∧s'.dn=noD∧cH j G=(vsOf j s',(0,0),false)∧vsOf j s'≠[]∧xn j s' G∧cost (vsOf j s')+rk s'.ph≤rk s.ph)∨(s'.ph=6∧cH j G=([],(0,3),true))∨(s'.ph=7∧cH j G=([],(7,1),true))
 one:qW j s→qW j s'
 tr:s'.ph≠5→s'.ph≠7→(s.ph≠5∧s.ph≠7)∧(s'.ph≤5→trOf E.n s'.ph=trOf E.n s.ph+1∧trOf E.n s.ph≤5)∧(s'.ph=6→trOf E.n s'.ph=trOf E.n s.ph)
theorem vG:∀ {xs:List Int} {ds:List Done},(∀ (q:Nat) (x:Int) (d:Done),xs[q]?=some x→ds[q]?=some d→gC d=x)→fA xs ds=false
 | [],_,_=>rfl
 | _::_,[],_=>rfl
 |x::xs,d::ds,h=>by
  unfold fA
  rw [Bool.or_eq_false_iff]
  exact ⟨by simpa using h 0 x d rfl rfl,vG λq y e h1 h2=>h (q+1) y e (by simpa using h1) (by simpa using h2)⟩
theorem cB.mem_ne (h:cB E i j) (hn:1≤E.n):j.v.mem≠[]:=by
 rw [h.mem]
 intro e
 have:=congrArg List.length e
 simp at this <;> omega
theorem Dw (h:cB E i j) (hn:1≤E.n):gE j=[]→E.n=1:=λe=>by
 by_cases h2:1<E.n
 ·have:=(vC h (m:=1) (by omega) h2).2
  rw [e] at this
  cases this
 ·omega
theorem Dx (h:cB E i j) (hn:E.n=1):gE j=[]:=by
 rw [h.backL,hn]
 rfl
theorem BQ (hE:fK E) (h:cB E i j):cost (fJ j)≤555:=by
 have hl:=oz j.seq j.writes
 have hf:=h.few
 have h1:cost (fJ j)≤(fJ j).length * 111:=rF λv hv=>by
  rw [h.bodyE] at hv
  obtain ⟨m,_,rfl⟩:=List.mem_map.1 hv
  show ((pe j.seq j.writes).length:Int).toNat≤111
  omega
 have h2:(fJ j).length=E.n:=by rw [h.bodyE];simp
 have:=hE.n
 rw [h2] at h1
 omega
theorem BR (hE:fK E) (h:cB E i j):cost (iV j)≤5:=by
 have h1:cost (iV j)≤(iV j).length * 1:=rF λv hv=>by
  rw [h.markE] at hv
  obtain ⟨m,_,rfl⟩:=List.mem_map.1 hv
  exact Nat.le_refl _
 have h2:(iV j).length=E.n:=by rw [h.markE];simp
 have:=hE.n
 omega
theorem BS (hE:fK E) (h:cB E i j):cost (aW j)≤36:=by
 have h1:cost (aW j)≤(aW j).length * 1:=rF λv hv=>by
  obtain ⟨q,hq⟩:=List.mem_iff_getElem?.1 hv
  rcases lW h hE.n.1 hq with ⟨p,_,_,rfl⟩ | ⟨s,_,rfl⟩
  ·exact Nat.le_refl _
  ·exact Nat.le_refl _
 have h2:(aW j).length=j.writes.length+j.reads.length:=by unfold aW;simp
 have:=h.few
 have:=h.rfew
 omega
theorem BT (hE:fK E) (h:cB E i j) (D:List Done):cost (iW j D)≤12:=by
 have h1:cost (iW j D)≤(iW j D).length * 1:=rF λv hv=>by
  obtain ⟨_,p,_,_,_,_,_,rfl⟩:=tH h hE.n.1 hv
  exact Nat.le_refl _
 have h2:=(qU (aW j) (dO j) D).length_le
 have h3:((aW j).filter λv=>v.kind == 3).length≤j.writes.length:=by
  rw [h.lockL hE.n.1,List.filter_append,List.length_append]
  have e2:((j.reads.map λs=>rV (s.Line * 8)).filter λv=>v.kind == 3)=[]:=by
   rw [List.filter_eq_nil_iff]
   intro v hv
   obtain ⟨p,_,rfl⟩:=List.mem_map.1 hv
   simp [rV]
  rw [e2]
  have:=List.length_filter_le (λv:Verb=>v.kind == 3) (j.writes.map λp=>cV (p.Line * 8) p.Head (fE p.Head i))
  simpa using this
 have:=h.few
 rw [List.length_map,List.length_map] at h2
 have h4:(iW j D).length=(fP (aW j) (dO j) D).length:=rfl
 omega
theorem yU (hE:fK E) (h:cB E i j):cost (finV j)≤13:=by
 have hf:=h.few
 have h0:∀ l:List aB,(∀ p ∈ l,p ∈ j.writes)→cost (l.map (pgV 0))≤l.length:=λl hl=>by
  induction l with
  |nil=>simp [cost]
  |cons p l ih=>
   have:=ih λq hq=>hl q (List.mem_cons_of_mem _ hq)
   unfold cost at this ⊢
   simp only [List.map_cons,List.sum_cons,List.length_cons]
   have hp:=h.pl (hl p List.mem_cons_self)
   have:(pgV 0 p).v.pieces=[(p.Line * 8,8)]:=jB (v:=(pgV 0 p).v) (by show (1:Int)≤8;omega) (by show p.Line * 8 % 8+8≤8;omega) (by show 0≤p.Line * 8;omega)
   rw [this,List.length_singleton]
   omega
 have h1:=h0 j.writes λp hp=>hp
 rw [h.finL hE.n.1]
 unfold cost at h1 ⊢
 simp only [List.map_cons,List.sum_cons]
 have h6:=h.i6
 have:(ckV i j.seq 0).v.pieces=[(32+(i:Int),1)]:=jB (v:=(ckV i j.seq 0).v) (by show (1:Int)≤1;omega) (by show (32+(i:Int)) % 8+1≤8;omega) (by show 0≤32+(i:Int);omega)
 rw [this,List.length_singleton]
 omega
theorem yV (a b:List Verb):cost (a++b)=cost a+cost b:=by simp [cost]
theorem BU (hE:fK E) (h:cB E i j):cost (gE j)≤52:=by
 have hf:=h.few
 have h6:=h.i6
 have hpg:∀ (m:Nat) (l:List aB),(∀ p ∈ l,p ∈ j.writes)→cost (l.map (pgV m))≤l.length:=λm l hl=>by
  induction l with
  |nil=>simp [cost]
  |cons p l ih=>
   have:=ih λq hq=>hl q (List.mem_cons_of_mem _ hq)
   unfold cost at this ⊢
   simp only [List.map_cons,List.sum_cons,List.length_cons]
   have hp:=h.pl (hl p List.mem_cons_self)
   have:(pgV m p).v.pieces=[(p.Line * 8,8)]:=jB (v:=(pgV m p).v) (by show (1:Int)≤8;omega) (by show p.Line * 8 % 8+8≤8;omega) (by show 0≤p.Line * 8;omega)
   rw [this,List.length_singleton]
   omega
 have hck:∀ m,cost [ckV i j.seq m]=1:=λm=>by
  have:(ckV i j.seq m).v.pieces=[(32+(i:Int),1)]:=jB (v:=(ckV i j.seq m).v) (by show (1:Int)≤1;omega) (by show (32+(i:Int)) % 8+1≤8;omega) (by show 0≤32+(i:Int);omega)
  simp [cost,this]
 have hall:∀ k:Nat,cost ((List.range k).map λm=>j.writes.map (pgV (m+1))++[ckV i j.seq (m+1)]).flatten≤k * 13:=λk=>by
  induction k with
  |zero=>simp [cost]
  |succ k ih=>
   rw [List.range_succ,List.map_append,List.flatten_append,yV]
   simp only [List.map_cons,List.map_nil,List.flatten_cons,List.flatten_nil,List.append_nil]
   rw [yV,hck]
   have:=hpg (k+1) j.writes λp hp=>hp
   omega
 rw [h.backL]
 have:=hall (E.n - 1)
 have:=hE.n
 omega
variable (hE:fK E) (h:cB E i j)
include hE h
theorem adv8 {dn:Nat→Option Done} {D:List Done}:Adv E i j ⟨8,dn,D⟩ [] ⟨0,noD,[]⟩:=by
 refine ⟨λp _=>Iff.rfl,λp _ m _=>Iff.rfl,λm _=>Iff.rfl,.inl ⟨by show 0≤5;omega,rfl,Gj h.valid h.some_ (h.mem_ne hE.n.1),(rB h.valid h.some_ (h.mem_ne hE.n.1)).1,rfl,?_⟩,λ_=>⟨by show 0≠5;omega,by show 0≠7;omega,λe=>absurd e (by show ¬ 0=1;omega)⟩,λ_ _=>⟨⟨by show 8≠5;omega,by show 8≠7;omega⟩,λ_=>⟨rfl,by show 0≤5;omega⟩,λe=>(by cases e)⟩⟩
 have:=BQ hE h
 show cost (fJ j)+106≤700
 omega
theorem adv0 {dn:Nat→Option Done} {D:List Done} {G:List (List Done)} (hg:xn j ⟨0,dn,D⟩ G) {ds:List Done} (hf:Fit (fJ j) ds):Adv E i j ⟨0,dn,D⟩ (G++[ds]) ⟨1,noD,[]⟩:=by
 have hg:G=[]:=hg
 subst hg
 refine ⟨λp _=>⟨λ⟨_,_,_,e,_⟩=>(by cases e),λe=>e.elim⟩,λp _ m _=>Iff.rfl,λm _=>Iff.rfl,.inl ⟨by show 1≤5;omega,rfl,Gk h.valid h.some_ (h.mem_ne hE.n.1) hf,vy h.valid h.some_,⟨ds,rfl,hf⟩,?_⟩,λ_=>⟨by show 1≠5;omega,by show 1≠7;omega,λ_ q x d _ e=>by cases e⟩,λ_ _=>⟨⟨by show 0≠5;omega,by show 0≠7;omega⟩,λ_=>⟨rfl,by show 1≤5;omega⟩,λe=>(by cases e)⟩⟩
 have:=BS hE h
 show cost (aW j)+70≤106
 omega
theorem lk1 {dn:Nat→Option Done} {D ds:List Done} {p:aB} (hp:p ∈ j.writes) (hds:∀ q d,dn q=some d→ds[q]?=some d) (ha:AllD (aW j) dn):Lk j i ⟨1,dn,D⟩ p↔∃ (q:Nat) (d:Done),j.writes[q]?=some p∧ds[q]?=some d∧gC d=p.Head:=by
 constructor
 ·rintro ⟨r,d,h1,h2,h3⟩
  rcases lW h hE.n.1 h1 with ⟨p',hp',hq,e⟩ | ⟨s,_,e⟩
  ·have:=vB h hp hp' e
   subst this
   exact ⟨r,d,hq,hds r d h2,h3⟩
  ·exact absurd e E8
 ·rintro ⟨q,d,h1,h2,h3⟩
  have hl:=sD h hE.n.1 h1
  obtain ⟨d',hd'⟩:=ha q (aO hl)
  have:=hds q d' hd'
  rw [h2] at this
  cases this
  exact ⟨q,d,hl,hd',h3⟩
theorem adv1 {dn:Nat→Option Done} {D:List Done} {G:List (List Done)} (hg:xn j ⟨1,dn,D⟩ G) {ds:List Done} (hf:Fit (aW j) ds) (hds:∀ q d,dn q=some d→ds[q]?=some d) (ha:AllD (aW j) dn):∃ s',Adv E i j ⟨1,dn,D⟩ (G++[ds]) s':=by
 obtain ⟨d0,hG,h0⟩:=hg
 subst hG
 have hm:=h.mem_ne hE.n.1
 have hno:qW j ⟨1,dn,D⟩→fA (dO j) ds=false:=λg=>vG λq x d h1 h2=>by
  have hlen:q<(aW j).length:=by rw [←hf.len];exact aO h2
  obtain ⟨d',hd'⟩:=ha q hlen
  have:=hds q d' hd'
  rw [h2] at this
  cases this
  exact g.2.2 rfl q x d h1 hd'
 cases hc:fA (dO j) ds with
 |false=>
  refine ⟨⟨2,noD,ds⟩,λp hp=>⟨λ_=>?_,λ_=>trivial⟩,λp _ m _=>Iff.rfl,λm _=>Iff.rfl,.inl ⟨by show 2≤5;omega,rfl,Gq h.valid h.some_ hm h0 hf hc,(rB h.valid h.some_ hm).2,⟨d0,rfl,h0,hf,hc⟩,?_⟩,λ_=>⟨by show 2≠5;omega,by show 2≠7;omega,λe=>absurd e (by show ¬ 2=1;omega)⟩,λ_ _=>⟨⟨by show 1≠5;omega,by show 1≠7;omega⟩,λ_=>⟨rfl,by show 2≤5;omega⟩,λe=>(by cases e)⟩⟩
  ·rw [lk1 hE h hp hds ha]
   obtain ⟨q,hq⟩:=List.mem_iff_getElem?.1 hp
   have hl:=sD h hE.n.1 hq
   obtain ⟨d,hd⟩:=ha q (aO hl)
   exact ⟨q,d,hq,hds q d hd,BP hc q _ d (vD h hq) (hds q d hd)⟩
  ·have:=BR hE h
   show cost (iV j)+65≤70
   omega
 |true=>
  have hun:∀ p ∈ j.writes,qT i p ∈ iW j ds↔Lk j i ⟨1,dn,D⟩ p:=λp hp=>by
   rw [lk1 hE h hp hds ha]
   constructor
   ·intro hu
    obtain ⟨q,p',d,hp',g1,g2,g3,g4⟩:=tH h hE.n.1 hu
    have:=yK h hp hp' g4
    subst this
    exact ⟨q,d,g1,g2,g3⟩
   ·rintro ⟨q,d,g1,g2,g3⟩
    exact Dj h hE.n.1 g1 g2 g3
  by_cases hu:iW j ds=[]
  ·refine ⟨⟨7,noD,ds⟩,λp hp=>⟨λe=>e.elim,λe=>?_⟩,λp _ m _=>Iff.rfl,λm _=>Iff.rfl,.inr (.inr ⟨rfl,Gm h.valid h.some_ hm h0 hf hc hu⟩),λg=>absurd (hno g) (by rw [hc];simp),λ_ e=>absurd rfl e⟩
   have:=(hun p hp).2 e
   rw [hu] at this
   cases this
  ·refine ⟨⟨5,noD,ds⟩,λp hp=>?_,λp _ m _=>Iff.rfl,λm _=>Iff.rfl,.inl ⟨by show 5≤5;omega,rfl,Gl h.valid h.some_ hm h0 hf hc hu,hu,⟨d0,rfl,h0,hf,hc,hu⟩,?_⟩,λg=>absurd (hno g) (by rw [hc];simp),λe _=>absurd rfl e⟩
   ·rw [←hun p hp]
    exact ⟨λe=>GA e,λe=>yb e⟩
   ·have:=BT hE h ds
    show cost (iW j ds)+0≤70
    omega
theorem adv2 {dn:Nat→Option Done} {D:List Done} {G:List (List Done)} (hg:xn j ⟨2,dn,D⟩ G) {ds:List Done} (hf:Fit (iV j) ds):∃ s',Adv E i j ⟨2,dn,D⟩ (G++[ds]) s':=by
 obtain ⟨d0,hG,h0,hD,hc⟩:=hg
 subst hG
 have hm:=h.mem_ne hE.n.1
 by_cases hb:gE j=[]
 ·have hn1:=Dw h hE.n.1 hb
  refine ⟨⟨4,noD,D⟩,λp hp=>⟨λ_=>trivial,λ_=>yb ((tF h hE.n.1).1 p hp)⟩,λp _ m hm'=>⟨λe=>?_,λe=>e.elim⟩,λm hm'=>⟨λe=>?_,λe=>e.elim⟩,.inl ⟨by show 4≤5;omega,rfl,E4 h.valid h.some_ hm h0 hD hc hf hb,uI h.valid h.some_ hm,.inr ⟨d0,ds,rfl,h0,hD,hc,hf,hb⟩,?_⟩,λ_=>⟨by show 4≠5;omega,by show 4≠7;omega,λe=>absurd e (by show ¬ 4=1;omega)⟩,λ_ _=>⟨⟨by show 2≠5;omega,by show 2≠7;omega⟩,λ_=>⟨by show (if E.n=1 then 4 else 5)=3+1;rw [if_pos hn1],by show 3≤5;omega⟩,λe=>(by cases e)⟩⟩
  ·rcases e with e | e
   ·omega
   ·exact (rG e).elim
  ·rcases e with e | e
   ·omega
   ·exact (rG e).elim
  ·have:=yU hE h
   show cost (finV j)+0≤65
   omega
 ·refine ⟨⟨3,noD,D⟩,λp hp=>Iff.rfl,λp _ m _=>⟨λe=>(rG e).elim,λe=>e.elim⟩,λm _=>⟨λe=>(rG e).elim,λe=>e.elim⟩,.inl ⟨by show 3≤5;omega,rfl,Gr h.valid h.some_ hm h0 hD hc hf hb,hb,⟨d0,ds,rfl,h0,hD,hc,hf,hb⟩,?_⟩,λ_=>⟨by show 3≠5;omega,by show 3≠7;omega,λe=>absurd e (by show ¬ 3=1;omega)⟩,λ_ _=>⟨⟨by show 2≠5;omega,by show 2≠7;omega⟩,λ_=>⟨rfl,by show 3≤5;omega⟩,λe=>(by cases e)⟩⟩
  have:=BU hE h
  show cost (gE j)+13≤65
  omega
theorem adv3 {dn:Nat→Option Done} {D:List Done} {G:List (List Done)} (hg:xn j ⟨3,dn,D⟩ G) {ds:List Done} (hf:Fit (gE j) ds) (ha:AllD (gE j) dn):∃ s',Adv E i j ⟨3,dn,D⟩ (G++[ds]) s':=by
 obtain ⟨d0,d2,hG,h0,hD,hc,h2,hb⟩:=hg
 subst hG
 have hm:=h.mem_ne hE.n.1
 refine ⟨⟨4,noD,D⟩,λp hp=>⟨λ_=>trivial,λ_=>yb ((tF h hE.n.1).1 p hp)⟩,λp hp m hm'=>⟨λe=>?_,λe=>?_⟩,λm hm'=>⟨λe=>?_,λe=>?_⟩,.inl ⟨by show 4≤5;omega,rfl,Gs h.valid h.some_ hm h0 hD hc h2 hb hf,uI h.valid h.some_ hm,.inl ⟨d0,d2,ds,rfl,h0,hD,hc,h2,hb,hf⟩,?_⟩,λ_=>⟨by show 4≠5;omega,by show 4≠7;omega,λe=>absurd e (by show ¬ 4=1;omega)⟩,λ_ _=>⟨⟨by show 3≠5;omega,by show 3≠7;omega⟩,λ_=>⟨by show (if E.n=1 then 4 else 5)=4+1;rw [if_neg λe=>hb (Dx h e)],by show 4≤5;omega⟩,λe=>(by cases e)⟩⟩
 ·rcases e with e | e
  ·exact ha.ex ((vC h e hm').1 p hp)
  ·exact (rG e).elim
 ·obtain ⟨m',g1,_,g⟩:=tE h (D9 e)
  rcases g with ⟨p',hp',e2⟩ | e2
  ·exact .inl (by rw [(tD h hp hp' e2).1];exact g1)
  ·exact absurd e2 (xd h hp _)
 ·rcases e with e | e
  ·exact ha.ex (vC h e hm').2
  ·exact (rG e).elim
 ·obtain ⟨m',g1,_,g⟩:=tE h (D9 e)
  rcases g with ⟨p',hp',e2⟩ | e2
  ·exact absurd e2.symm (xd h hp' _)
  ·exact .inl (by rw [BB e2];exact g1)
 ·have:=yU hE h
  show cost (finV j)+0≤13
  omega
theorem adv4 {dn:Nat→Option Done} {D:List Done} {G:List (List Done)} (hg:xn j ⟨4,dn,D⟩ G) {ds:List Done} (hf:Fit (finV j) ds) (ha:AllD (finV j) dn):∃ s',Adv E i j ⟨4,dn,D⟩ (G++[ds]) s':=by
 have hm:=h.mem_ne hE.n.1
 have hL:∀ p ∈ j.writes,Lk j i ⟨6,noD,D⟩ p↔Lk j i ⟨4,dn,D⟩ p:=λp hp=>⟨λe=>e.elim,λe=>(ha.no_pe e).elim⟩
 have hN:∀ p ∈ j.writes,∀ m,m<E.n→(Nw j ⟨6,noD,D⟩ m p↔Nw j ⟨4,dn,D⟩ m p):=λp hp m _=>⟨λ_=>by
  cases m with
  |zero=>exact .inr (ha.ex ((tF h hE.n.1).1 p hp))
  |succ m=>exact .inl (by omega),λ_=>trivial⟩
 have hK:∀ m,m<E.n→(Ck j i ⟨6,noD,D⟩ m↔Ck j i ⟨4,dn,D⟩ m):=λm _=>⟨λ_=>by
  cases m with
  |zero=>exact .inr (ha.ex (tF h hE.n.1).2)
  |succ m=>exact .inl (by omega),λ_=>trivial⟩
 rcases hg with ⟨d0,d2,d3,hG,h0,hD,hc,h2,hb,h3⟩ | ⟨d0,d2,hG,h0,hD,hc,h2,hb⟩
 ·subst hG
  exact ⟨⟨6,noD,D⟩,hL,hN,hK,.inr (.inl ⟨rfl,Gt h.valid h.some_ hm h0 hD hc h2 hb h3 hf⟩),λ_=>⟨by show 6≠5;omega,by show 6≠7;omega,λe=>absurd e (by show ¬ 6=1;omega)⟩,λ_ _=>⟨⟨by show 4≠5;omega,by show 4≠7;omega⟩,λe=>absurd e (by show ¬ 6≤5;omega),λ_=>rfl⟩⟩
 ·subst hG
  exact ⟨⟨6,noD,D⟩,hL,hN,hK,.inr (.inl ⟨rfl,E5 h.valid h.some_ hm h0 hD hc h2 hb hf⟩),λ_=>⟨by show 6≠5;omega,by show 6≠7;omega,λe=>absurd e (by show ¬ 6=1;omega)⟩,λ_ _=>⟨⟨by show 4≠5;omega,by show 4≠7;omega⟩,λe=>absurd e (by show ¬ 6≤5;omega),λ_=>rfl⟩⟩
theorem adv5 {dn:Nat→Option Done} {D:List Done} {G:List (List Done)} (hg:xn j ⟨5,dn,D⟩ G) {ds:List Done} (hf:Fit (iW j D) ds) (ha:AllD (iW j D) dn):∃ s',Adv E i j ⟨5,dn,D⟩ (G++[ds]) s':=by
 obtain ⟨d0,hG,h0,hD,hc,hu⟩:=hg
 subst hG
 exact ⟨⟨7,noD,D⟩,λp hp=>⟨λe=>e.elim,λe=>(ha.no_pe e).elim⟩,λp _ m _=>Iff.rfl,λm _=>Iff.rfl,.inr (.inr ⟨rfl,Gn h.valid h.some_ (h.mem_ne hE.n.1) h0 hD hc hu hf⟩),λg=>absurd rfl g.1,λ_ e=>absurd rfl e⟩
end
end Go.Proofs.YtegepanmkjemjaaGreat
