import Derived.Test.YtegepanmkjemjaaGreatw36
import Derived.Test.YtegepanmkjemjaaGreatw34
set_option linter.unusedVariables false
set_option linter.unusedSectionVars false
namespace Go.Proofs.YtegepanmkjemjaaGreat
open Go.Eng C12
section
variable {j:CJob} (hv:j.valid=0) (hW:j.writes=[])
include hv hW
theorem vJ:aW j=j.reads.map (sm j):=by
 unfold aW
 rw [hW]
 rfl
theorem Fm:gE j=[]:=by
 unfold gE
 have:∀ l:List aF,(l.map (memV j)).flatten=[]:=λl=>by
  induction l with
  |nil=>rfl
  |cons m l ih=>
   rw [List.map_cons,List.flatten_cons,ih,List.append_nil]
   unfold memV
   rw [if_pos hW]
 exact this _
theorem B1 (G:List (List Done)):runM j G=iq (nv j G) λG=>⟨true,[],(0,0),G,none,false⟩:=by
 have hb:∀ G,xY j G=pi G:=λG=>by unfold xY logM;rw [if_pos hW]
 have hm:∀ G,wM j G=pi G:=λG=>by unfold wM logM;rw [if_pos hW]
 have hk:∀ G,nt j G=pi G:=λG=>by unfold nt;rw [Fm hv hW,oC];rfl
 have hf:∀ G,finM j G=pi G:=λG=>by unfold finM;rw [if_pos hW]
 unfold runM qO
 rw [runL]
 unfold iq
 rw [hb]
 simp only [pi,if_true]
 rw [runL]
 unfold iq
 congr 1
 rw [runL]
 unfold iq
 rw [hm]
 simp only [pi,if_true]
 rw [runL]
 unfold iq
 rw [hk]
 simp only [pi,if_true]
 rw [runL]
 unfold iq
 rw [hf]
 simp only [pi,if_true]
 rfl
theorem Dy (hr:j.reads≠[]):cH j []=(aW j,(0,0),false):=by
 have hl:aW j≠[]:=by rw [vJ hv hW];simpa using hr
 have e:runM j []=⟨false,[],(0,0),[],some (aW j),false⟩:=by
  rw [B1 hv hW]
  unfold iq nv
  rw [im hl]
  rfl
 unfold cH
 rw [if_neg (by rw [hv];simp),e]
theorem Dz (hr:j.reads≠[]) {D:List Done} (hD:Fit (aW j) D) (hc:fA (dO j) D=false):cH j [D]=([],(0,3),true):=by
 have hl:aW j≠[]:=by rw [vJ hv hW];simpa using hr
 have e:runM j [D]=⟨true,[],(0,0),[],none,false⟩:=by
  rw [B1 hv hW]
  unfold iq nv
  rw [hU [] hl hD]
  simp only [hc,if_true]
  rfl
 unfold cH
 rw [if_neg (by rw [hv];simp),e]
 rfl
theorem DA (hr:j.reads=[]):cH j []=([],(0,3),true):=by
 have hl:aW j=[]:=by rw [vJ hv hW,hr];rfl
 have hw:dO j=[]:=by unfold dO;rw [hW,hr];rfl
 have e:runM j []=⟨true,[],(0,0),[],none,false⟩:=by
  rw [B1 hv hW]
  unfold iq nv
  rw [hl,oC,hw]
  rfl
 unfold cH
 rw [if_neg (by rw [hv];simp),e]
 rfl
end
end Go.Proofs.YtegepanmkjemjaaGreat
namespace Go.Proofs.YtegepanmkjemjaaGreat
open Go.Eng C12
structure RdJ (n L:Nat) (base:Nat→Nat→Int) (i:Nat) (j:CJob):Prop where
 nn:1≤n∧n≤5
 LL:98≤L∧L≤256
 i6:i<6
 valid:j.valid=0
 none_:j.writes=[]
 view:j.v=vA n
 few:j.reads.length≤24
 read:∀ s ∈ j.reads,∃ l:Nat,s.Line=(l:Int)∧96≤l∧l<L∧s.Head=base l 0
section
variable {n L i:Nat} {base:Nat→Nat→Int} {bc:Nat→Int} {j:CJob}
theorem RdJ.readE (h:RdJ n L base i j) (s:aU):sm j s=rV (s.Line * 8):=by
 have h0:j.v.number=0:=by rw [h.view];rfl
 have h1:m0Of j=mm 0:=by
  unfold m0Of
  have:j.v.mem=(List.range n).map mm:=by rw [h.view];rfl
  rw [this]
  obtain ⟨k,hk⟩:∃ k,n=k+1:=⟨n - 1,by have:=h.nn;omega⟩
  rw [hk,List.range_succ_eq_map]
  rfl
 unfold sm
 rw [h0,h1]
 rfl
theorem RdJ.lockE (h:RdJ n L base i j):aW j=j.reads.map λs=>rV (s.Line * 8):=by
 rw [vJ h.valid h.none_]
 exact List.map_congr_left λs _=>h.readE s
theorem RdJ.wantE (h:RdJ n L base i j):dO j=j.reads.map (·.Head):=by
 unfold dO
 rw [h.none_]
 rfl
theorem RdJ.at_ (h:RdJ n L base i j) {q:Nat} {v:Verb} (hv:(aW j)[q]?=some v):∃ (s:aU) (l:Nat),j.reads[q]?=some s∧s.Line=(l:Int)∧96≤l∧l<L∧s.Head=base l 0∧v=rV ((l:Int) * 8):=by
 rw [h.lockE,List.getElem?_map] at hv
 cases hs:j.reads[q]? with
 |none=>rw [hs] at hv;cases hv
 |some s=>
  rw [hs] at hv
  cases hv
  obtain ⟨l,h1,h2,h3,h4⟩:=h.read s (List.mem_of_getElem? hs)
  exact ⟨s,l,rfl,h1,h2,h3,h4,by show rV (s.Line * 8)=_;rw [h1]⟩
theorem RdJ.go (h:RdJ n L base i j):(∀ v ∈ aW j,VGo n L v)∧(aW j).length≤1024:=by
 refine ⟨λv hv=>?_,by rw [h.lockE,List.length_map];have:=h.few;omega⟩
 obtain ⟨q,hq⟩:=List.mem_iff_getElem?.1 hv
 obtain ⟨s,l,_,_,h2,h3,_,rfl⟩:=h.at_ hq
 have:=h.LL
 exact Gu h.nn (by omega) (by omega) (by omega)
structure RdC (n i:Nat) (j:CJob) (C:Comp) (t:Tk conv) (ph:Nat) (dn:Nat→Option Done):Prop where
 cl:t.client=(i:Int)
 job:t.job=j
 bad:t.bad=false
 inc:C.inc=1
 live:C.alive=true
 lanes:C.lanes.length=n
 dry:∀ (k:Nat) (l:Lane),C.lanes[k]?=some l→Dry l.pair
 p0:ph=0→t.over=false∧t.got=[]∧C.batch=none∧kv C∧C.trips=0
 p1:ph=1→t.over=false∧t.got=[]∧Bt C (aW j) dn∧Gz (aW j) dn∧(∀ (q:Nat) (x:Int) (d:Done),(dO j)[q]?=some x→dn q=some d→gC d=x)∧C.trips=1∧j.reads≠[]
 p2:ph=2→t.over=true∧C.batch=none∧kv C∧t.out=((0:Int),(3:Int))∧C.trips=if j.reads=[] then 0 else 1
 ph:ph≤2
structure RdI (n L:Nat) (base:Nat→Nat→Int) (bc:Nat→Int) (i:Nat) (j:CJob) (F:Fab) (t:Tk conv) (ph:Nat) (dn:Nat→Option Done):Prop where
 fine:Fine F
 lines:F.lines=L
 len:F.nodes.length=n
 fix:∀ (m:Nat) (x:aP),F.nodes[m]?=some x→NFix L x
 heap:∀ l:Nat,96≤l→l<L→∀ (m:Nat) (x:aP),F.nodes[m]?=some x→∀ k,k<8→x.get (l * 8+k)=base l k
 clock:∀ c:Nat,c<6→∀ (m:Nat) (x:aP),F.nodes[m]?=some x→x.get (32+c)=bc c
 rest:∀ (k:Nat) (C:Comp),k≠i→F.clients[k]?=some C→Du n C
 six:∀ k:Nat,k<6→∃ C,F.clients[k]?=some C
 orph:F.orphans=[]
 cli:∃ C,F.clients[i]?=some C∧RdC n i j C t ph dn
theorem RdI.still {F:Fab} {t:Tk conv} {dn:Nat→Option Done} (h:RdI n L base bc i j F t 2 dn):nA n L base bc F:=by
 refine ⟨h.fine,h.lines,h.len,h.fix,h.heap,h.clock,λk C hC=>?_,h.six,h.orph⟩
 by_cases e:k=i
 ·subst e
  obtain ⟨C',g1,g⟩:=h.cli
  rw [hC] at g1
  cases g1
  obtain ⟨_,g2,g3,_⟩:=g.p2 rfl
  exact ⟨g2,g3,g.inc,g.live,g.lanes,g.dry⟩
 ·exact h.rest k C e hC
theorem nA.rdI {F:Fab} (h:nA n L base bc F) (h6:i<6) {t:Tk conv} (h1:t.client=(i:Int)) (h2:t.job=j) (h3:t.bad=false) (h4:t.over=false) (h5:t.got=[]) (htr:∀ (i:Nat) (C:Comp),F.clients[i]?=some C→C.trips=0):RdI n L base bc i j F t 0 noD:=by
 obtain ⟨C,hC⟩:=h.six i h6
 have hc:=h.cli i C hC
 exact ⟨h.fine,h.lines,h.len,h.fix,h.heap,h.clock,λk C _ hC=>h.cli k C hC,h.six,h.orph,C,hC,h1,h2,h3,hc.inc,hc.live,hc.lanes,hc.dry,λ_=>⟨h4,h5,hc.batch,hc.quiet,htr i C hC⟩,(λe=>by cases e),(λe=>by cases e),by omega⟩
end
end Go.Proofs.YtegepanmkjemjaaGreat
namespace Go.Proofs.YtegepanmkjemjaaGreat
open Go.Eng C12
section
variable {n L i:Nat} {base:Nat→Nat→Int} {bc:Nat→Int} {j:CJob}
theorem Fn (hj:RdJ n L base i j) {F F':Fab} {t:Tk conv} {ph:Nat} {dn:Nat→Option Done} (h:RdI n L base bc i j F t ph dn) {m:Nat} (hs:stepL i m F=some F'):ph=1∧∃ dn',RdI n L base bc i j F' t 1 dn'∧gV F' i<gV F i:=by
 obtain ⟨C,l,x,hC,hl,hx,hv,hF'⟩:=ef.1 hs
 have hfine':=h.fine.stepL hs
 obtain ⟨C0,hC0,hc⟩:=h.cli
 rw [hC] at hC0
 cases hC0
 have hlt:=aO hC
 have hvne:l.pair.verbs≠[]:=λe=>hv (by rw [e];rfl)
 obtain ⟨v,vs',hpv⟩:=List.exists_cons_of_ne_nil hvne
 have hph:ph=1:=by
  have:=hc.ph
  by_cases e0:ph=0
  ·exact absurd ((hc.p0 e0).2.2.2.1 m l hl) hvne
  ·by_cases e2:ph=2
   ·exact absurd ((hc.p2 e2).2.2.1 m l hl) hvne
   ·omega
 subst hph
 refine ⟨rfl,?_⟩
 obtain ⟨hov,hgt,hbt,hres,hval,htr,hne⟩:=hc.p1 rfl
 obtain ⟨q,ps,hpl,hvq,hnode,hdq⟩:=(hbt.lane m l hl).head hpv
 obtain ⟨s,ln,hsq,e1,e2,e3,e4,rfl⟩:=hj.at_ hvq
 have hm0:m=0:=hnode.symm
 subst hm0
 have hco:=h.fine.good.ok.client i C hC
 have hlo:=hco.lane 0 l hl
 have hP:bR l.pair:=h.fine.good.cl C (List.mem_of_getElem? hC) l (List.mem_of_getElem? hl)
 have hLL:=hj.LL
 have hgo:VGo n L (rV ((ln:Int) * 8)):=hj.go.1 _ (List.mem_of_getElem? hvq)
 have hst:=BF hgo hj.nn.2 (h.fix 0 x hx) hj.i6 hlo.client (hlo.inc.trans hc.inc) hP hpv (by omega) (by omega) (by omega)
 have hF:F'={ F with nodes:=F.nodes.set 0 x,clients:=F.clients.set i (C.comes 0 l l.pair.done (some ⟨0,[x.get ((ln:Int) * 8).toNat]⟩)) }:=by rw [hF',hst]
 have hset:F.nodes.set 0 x=F.nodes:=vH hx
 rw [hset] at hF
 have hword:x.get ((ln:Int) * 8).toNat=base ln 0:=by
  have:=h.heap ln e2 e3 0 x hx 0 (by omega)
  rw [Nat.add_zero] at this
  rw [show ((ln:Int) * 8).toNat=ln * 8 by omega]
  exact this
 have hcl':F'.clients[i]?=some (C.comes 0 l l.pair.done (some ⟨0,[x.get ((ln:Int) * 8).toNat]⟩)):=by rw [hF];exact List.getElem?_set_self hlt
 have hoth:∀ k,k≠i→F'.clients[k]?=F.clients[k]?:=λk hk=>by rw [hF];exact List.getElem?_set_ne (λe=>hk e.symm)
 have hnd:F'.nodes=F.nodes:=by rw [hF]
 have hdv:l.pair.done.verbs=vs':=by
  show l.pair.verbs.tail=vs'
  rw [hpv]
  rfl
 have hdry:∀ (k:Nat) (l':Lane),(C.comes 0 l l.pair.done (some ⟨0,[x.get ((ln:Int) * 8).toNat]⟩)).lanes[k]?=some l'→Dry l'.pair:=λk l' hk=>by
  by_cases e:k=0
  ·subst e
   have hlt2:=aO hl
   have hp':l'.pair=l.pair.done:=by simp [Comp.comes,hlt2] at hk;rw [←hk]
   rw [hp']
   have:=yT (n:=x) (hc.dry 0 l hl)
   rw [hst] at this
   exact this
  ·rw [eE e] at hk
   exact hc.dry k l' hk
 refine ⟨upd dn q ⟨0,[x.get ((ln:Int) * 8).toNat]⟩,⟨hfine',by rw [hF];exact h.lines,by rw [hnd];exact h.len,by rw [hnd];exact h.fix,by rw [hnd];exact h.heap,by rw [hnd];exact h.clock,λk C2 hk hC2=>by rw [hoth k hk] at hC2;exact h.rest k C2 hk hC2,λk hk=>?_,by rw [hF];exact h.orph,_,hcl',hc.cl,hc.job,hc.bad,hc.inc,hc.live,by simpa [Comp.comes] using hc.lanes,hdry,(λe=>by cases e),λ_=>⟨hov,hgt,hbt.done hl hpv hdv hpl _,λk e hk=>?_,λk y e hy hk=>?_,htr,hne⟩,(λe=>by cases e),by omega⟩,?_⟩
 ·by_cases e:k=i
  ·rw [e];exact ⟨_,hcl'⟩
  ·rw [hoth k e];exact h.six k hk
 ·by_cases ek:k=q
  ·subst ek
   rw [jT] at hk
   cases hk
   exact ⟨_,hvq,rfl,rfl⟩
  ·rw [lI ek] at hk
   exact hres k e hk
 ·by_cases ek:k=q
  ·subst ek
   rw [jT] at hk
   cases hk
   rw [hj.wantE,List.getElem?_map,hsq] at hy
   cases hy
   show x.get ((ln:Int) * 8).toNat=s.Head
   rw [e4]
   exact hword
  ·rw [lI ek] at hk
   exact hval k y e hy hk
 ·have hr:∀ v2 vs2,l.pair.verbs=v2::vs2→l.pair.refusal v2 x=0:=λv2 vs2 e=>by
   rw [hpv] at e
   cases e
   exact jC (h.fix 0 x hx) hj.nn.2 hgo hj.i6 hlo.client (hlo.inc.trans hc.inc)
  have hset2:∃ l',(C.comes 0 l l.pair.done (some ⟨0,[x.get ((ln:Int) * 8).toNat]⟩)).lanes=C.lanes.set 0 l'∧l'.pair=(l.pair.step x).1:=by
   rw [hst]
   exact ⟨_,rfl,rfl⟩
  obtain ⟨l',g1,g2⟩:=hset2
  unfold gV
  rw [hcl',hC]
  simp only
  unfold pcs
  rw [g1,List.map_set]
  have hps:=xm hP hr (l:=l) (l':=l') rfl g2 hvne
  have:=vF (l:=C.lanes.map plen) (i:=0) (a:=plen l) (b:=plen l') (by rw [List.getElem?_map,hl];rfl)
  omega
theorem B2 (hj:RdJ n L base i j) {F:Fab} {t:Tk conv} {ph:Nat} {dn:Nat→Option Done} (h:RdI n L base bc i j F t ph dn):∃ ph' dn',RdI n L base bc i j (turn F t).1 (turn F t).2 ph' dn'∧gV (turn F t).1 i+(if ph'=0 then 30 else 0)≤gV F i+(if ph=0 then 30 else 0)∧(ph'=2∨∃ C,(turn F t).1.clients[i]?=some C∧¬ kv C)∧(ph=2→ph'=2)∧ph'≠0:=by
 obtain ⟨C,hC,hc⟩:=h.cli
 have hlt:=aO hC
 have hco:=h.fine.good.ok.client i C hC
 have hpa:gV F i=pcs C:=by unfold gV;rw [hC]
 have hph:=hc.ph
 have hpl:kv C→∀ (k:Nat) (l:Lane),C.lanes[k]?=some l→l.pair.verbs=[]∧l.places=[]∧l.pair.executed=0∧l.pair.words=[]:=λhq k l hl=>by
  have hv:=hq k l hl
  have h1:=(hco.lane k l hl).places
  rw [hv] at h1
  have hP:=h.fine.good.cl C (List.mem_of_getElem? hC) l (List.mem_of_getElem? hl)
  exact ⟨hv,List.length_eq_zero_iff.1 h1,hP.idle hv,hP.zero (hP.idle hv)⟩
 have hw:kv C→C.waiting=0:=λhq=>by
  rw [hco.waiting]
  unfold pend
  have:∀ ls:List Lane,(∀ l ∈ ls,l.pair.verbs=[])→(ls.map λl=>l.pair.verbs.length).sum=0:=λls=>by
   induction ls with
   |nil=>intro _;rfl
   |cons l ls ih=>
    intro hl
    rw [List.map_cons,List.sum_cons,ih λx hx=>hl x (List.mem_cons_of_mem _ hx),hl l List.mem_cons_self]
    rfl
  exact this C.lanes λl hl=>by
   obtain ⟨k,hk⟩:=List.mem_iff_getElem?.1 hl
   exact hq k l hk
 have hfine:=h.fine.turn t
 have hoth:∀ (C':Comp) (k:Nat) (C2:Comp),k≠i→(putC F i C').clients[k]?=some C2→Du n C2:=λC' k C2 hk hC2=>by
  have e:(putC F i C').clients[k]?=F.clients[k]?:=List.getElem?_set_ne (λe=>hk e.symm)
  rw [e] at hC2
  exact h.rest k C2 hk hC2
 have hsix:∀ (C':Comp) (k:Nat),k<6→∃ C2,(putC F i C').clients[k]?=some C2:=λC' k hk=>by
  by_cases e:k=i
  ·subst e
   exact ⟨C',List.getElem?_set_self hlt⟩
  ·have e2:(putC F i C').clients[k]?=F.clients[k]?:=List.getElem?_set_ne (λe3=>e e3.symm)
   rw [e2]
   exact h.six k hk
 have hput:∀ C':Comp,(putC F i C').clients[i]?=some C':=λC'=>List.getElem?_set_self hlt
 by_cases e2:ph=2
 ·subst e2
  have ho:=(hc.p2 rfl).1
  have e:turn F t=(F,t):=by unfold turn;rw [if_pos (.inl ho)]
  rw [e]
  exact ⟨2,dn,h,Nat.le_refl _,.inl rfl,λ_=>rfl,by omega⟩
 by_cases e0:ph=0
 ·subst e0
  obtain ⟨ho,hg,hb,hq,htr⟩:=hc.p0 rfl
  have hgo:jD t C=[]:=by unfold jD;rw [hb];exact hg
  by_cases hr:j.reads=[]
  ·have hx:cH t.job (jD t C)=([],(0,3),true):=by rw [hgo,hc.job];exact DA hj.valid hj.none_ hr
   have htn:=tM hC hc.live (hw hq) hc.cl ho (by rw [hgo];simp) hx
   rw [htn] at hfine ⊢
   refine ⟨2,dn,⟨hfine,h.lines,h.len,h.fix,h.heap,h.clock,hoth _,hsix _,h.orph,_,hput _,hc.cl,hc.job,hc.bad,hc.inc,hc.live,hc.lanes,hc.dry,(λe=>by cases e),(λe=>by cases e),λ_=>⟨rfl,rfl,hq,rfl,by rw [if_pos hr];exact htr⟩,by omega⟩,?_,.inl rfl,(λ_=>rfl),by omega⟩
   unfold gV
   rw [hput,hC]
   show pcs C+0≤pcs C+30
   omega
  ·obtain ⟨hg1,hg2⟩:=hj.go
   have hx:cH t.job (jD t C)=(aW j,(0,0),false):=by rw [hgo,hc.job];exact Dy hj.valid hj.none_ hr
   have hne:aW j≠[]:=by rw [hj.lockE];simpa using hr
   have htn:=xo (n:=n) (L:=L) hC hc.live (hw hq) hc.cl ho (by rw [hgo];simp) hx hne hg2 h.len hj.nn.2 h.lines hg1
   have hnode:∀ v ∈ aW j,v.node.toNat<({ C with batch:=none }:Comp).lanes.length:=λv hv=>by
    have:=(hg1 v hv).node
    show _<C.lanes.length
    rw [hc.lanes]
    omega
   have hbt:Bt (({ C with batch:=none }:Comp).posted' (aW j)) (aW j) noD:=Bt.post hc.live (λk l hl=>⟨(hpl hq k l hl).1,(hpl hq k l hl).2.1⟩) hnode
   obtain ⟨hla,hin⟩:=rI (aW j) ({ C with batch:=none }:Comp) 0
   have hpc:pcs (({ C with batch:=none }:Comp).posted' (aW j))=cost (aW j):=by
    have:=vI (aW j) (C:=({ C with batch:=none }:Comp)) (k:=0) (λm l hl=>(hpl hq m l hl).2.2.1) hnode
    have e0:pcs ({ C with batch:=none }:Comp)=0:=qX hq
    rw [e0,Nat.zero_add] at this
    exact this
   have hcost:cost (aW j)≤24:=by
    have h1:cost (aW j)≤(aW j).length * 1:=rF λv hv=>by
     obtain ⟨q,hq⟩:=List.mem_iff_getElem?.1 hv
     obtain ⟨_,_,_,_,_,_,_,rfl⟩:=hj.at_ hq
     exact Nat.le_refl _
    have h2:(aW j).length=j.reads.length:=by rw [hj.lockE,List.length_map]
    have:=hj.few
    omega
   rw [htn] at hfine ⊢
   refine ⟨1,noD,⟨hfine,h.lines,h.len,h.fix,h.heap,h.clock,hoth _,hsix _,h.orph,_,hput _,hc.cl,hc.job,hc.bad,hin.trans hc.inc,hbt.live,hla.trans hc.lanes,λk l hl=>?_,(λe=>by cases e),λ_=>⟨rfl,hgo,hbt,(λq d e=>by cases e),(λq x d _ e=>by cases e),?_,hr⟩,(λe=>by cases e),by omega⟩,?_,.inr ⟨_,hput _,λhqq=>?_⟩,(λe=>by cases e),by omega⟩
   ·obtain ⟨l0,e1,e2⟩:=rH (aW j) (C:=({ C with batch:=none }:Comp)) (k:=0) (l:=l) hl
    intro v vs' _ _
    rw [e2]
    exact (hpl hq k l0 e1).2.2.2
   ·show IntKind.i64.wrap (C.trips+1)=1
    rw [htr]
    rfl
   ·unfold gV
    rw [hput,hC]
    simp only
    rw [hpc]
    show cost (aW j)+0≤pcs C+30
    omega
   ·obtain ⟨v,vs',e⟩:=List.exists_cons_of_ne_nil hne
    obtain ⟨k,l,hl,hm⟩:=hbt.left 0 (by rw [e];simp) rfl
    have:=(hbt.lane k l hl).len
    rw [hqq k l hl] at this
    rw [List.length_eq_zero_iff.1 this] at hm
    cases hm
 have e1:ph=1:=by omega
 subst e1
 obtain ⟨ho,hg,hbt,hres,hval,htr,hr⟩:=hc.p1 rfl
 by_cases hq:kv C
 ·obtain ⟨ds,d1,d2,d3,d4⟩:=hbt.all λk l hl=>hq k l hl
  have hgo:jD t C=[ds]:=by unfold jD;rw [d1,hg];rfl
  have hfit:Fit (aW j) ds:=⟨d2,λq v d hv hd=>by
   obtain ⟨d',hd'⟩:=d4 q (aO hv)
   have:=d3 q d' hd'
   rw [hd] at this
   cases this
   obtain ⟨v',hv',e1,e2⟩:=hres q d hd'
   rw [hv] at hv'
   cases hv'
   exact ⟨e1,e2⟩⟩
  have hcf:fA (dO j) ds=false:=vG λq x d h1 h2=>by
   have hlen:q<(aW j).length:=by rw [←d2];exact aO h2
   obtain ⟨d',hd'⟩:=d4 q hlen
   have:=d3 q d' hd'
   rw [h2] at this
   cases this
   exact hval q x d h1 hd'
  have hx:cH t.job (jD t C)=([],(0,3),true):=by rw [hgo,hc.job];exact Dz hj.valid hj.none_ hr hfit hcf
  have htn:=tM hC hc.live (hw hq) hc.cl ho (by rw [hgo];simp) hx
  rw [htn] at hfine ⊢
  refine ⟨2,dn,⟨hfine,h.lines,h.len,h.fix,h.heap,h.clock,hoth _,hsix _,h.orph,_,hput _,hc.cl,hc.job,hc.bad,hc.inc,hc.live,hc.lanes,hc.dry,(λe=>by cases e),(λe=>by cases e),λ_=>⟨rfl,rfl,hq,rfl,by rw [if_neg hr];exact htr⟩,by omega⟩,?_,.inl rfl,(λ_=>rfl),by omega⟩
  unfold gV
  rw [hput,hC]
  show pcs C+0≤pcs C+0
  omega
 ·have hwait:0<C.waiting:=by
   rw [hco.waiting]
   rcases Nat.eq_zero_or_pos (pend C.lanes) with e | e
   ·exact absurd (λk l hl=>mA e l (List.mem_of_getElem? hl)) hq
   ·exact e
  have e:turn F t=(F,t):=qQ (by unfold Fab.waiting;rw [hc.cl,nf,hC];exact hwait)
  rw [e]
  exact ⟨1,dn,h,Nat.le_refl _,.inr ⟨C,hC,hq⟩,(λe=>by cases e),by omega⟩
end
end Go.Proofs.YtegepanmkjemjaaGreat
namespace Go.Proofs.YtegepanmkjemjaaGreat
open Go.Eng C12
section
variable {n L i:Nat} {base:Nat→Nat→Int} {bc:Nat→Int} {j:CJob}
theorem DB {F:Fab} {t:Tk conv} {ph:Nat} {dn:Nat→Option Done} (h:RdI n L base bc i j F t ph dn) (sch:List Int) (k:Nat) :
  (rstep F sch k=(false,F)∧∀ C,F.clients[i]?=some C→kv C)∨∃ m F',stepL i m F=some F'∧rstep F sch k=(true,F'):=by
 have hlane:∀ {q m:Nat} {C:Comp} {l:Lane},F.clients[q]?=some C→C.lanes[m]?=some l→l.pair.verbs≠[]→q=i∧∃ F',stepL i m F=some F':=λ{q m C l} hC hl hv=>by
  have hi:q=i:=by
   by_cases g:q=i
   ·exact g
   ·exact absurd ((h.rest q C g hC).quiet m l hl) hv
  subst hi
  refine ⟨rfl,?_⟩
  obtain ⟨C0,g1,g3⟩:=h.cli
  rw [hC] at g1
  cases g1
  have hm:m<F.nodes.length:=by rw [h.len,←g3.lanes];exact aO hl
  have hvl:l.pair.verbs.length≠0:=λe=>hv (List.length_eq_zero_iff.1 e)
  exact ⟨_,ef.2 ⟨C,l,_,hC,hl,List.getElem?_eq_getElem hm,hvl,rfl⟩⟩
 unfold Go.Proofs.YtegepanmkjemjaaGreat.rstep
 cases hx:F.choices[ny F sch k]? with
 |some x=>
  have hm:=List.mem_of_getElem? hx
  unfold Fab.choices at hm
  rw [h.orph] at hm
  rcases List.mem_append.1 hm with hm | hm
  ·obtain ⟨q,C,hC,hm⟩:=gG.1 hm
   obtain ⟨m,l,hl,hv,rfl⟩:=gF.1 hm
   rw [Nat.zero_add] at hm ⊢
   rw [Nat.zero_add] at hm ⊢
   obtain ⟨rfl,F',hs⟩:=hlane hC hl (λe=>by rw [e] at hv;simp at hv)
   exact .inr ⟨m,F',hs,oL hs⟩
  ·simp [eO] at hm
 |none=>
  refine .inl ⟨rfl,λC hC k' l hl=>?_⟩
  cases hv:l.pair.verbs with
  |nil=>rfl
  |cons v vs=>
   exfalso
   obtain ⟨_,F',hs⟩:=hlane hC hl (by rw [hv];simp)
   have hm:=pR hs
   have hpos:0<F.choices.length:=List.length_pos_of_mem hm
   have hlt:ny F sch k<F.choices.length:=by
    unfold ny
    split
    ·have h1:=Int.emod_nonneg (sch.getD k 0) (b:=(F.choices.length:Int)) (by omega)
     have h2:=Int.emod_lt_of_pos (sch.getD k 0) (b:=(F.choices.length:Int)) (by omega)
     omega
    ·exact hpos
   rw [List.getElem?_eq_getElem hlt] at hx
   cases hx
theorem GC (hj:RdJ n L base i j) (cs sch:List Int):∀ (f k:Nat) {F:Fab} {t:Tk conv} {ph:Nat} {dn:Nat→Option Done},RdI n L base bc i j F t ph dn→gV F i+(if ph=0 then 30 else 0)<f→∃ t' dn',(driveGo cs sch [] f k F [t]).2=[t']∧RdI n L base bc i j (driveGo cs sch [] f k F [t]).1 t' 2 dn'
 | 0,k,F,t,ph,dn,h,hw=>by omega
 |f+1,k,F,t,ph,dn,h,hw=>by
  obtain ⟨ph1,dn1,g1,g2,g3,g4,g5⟩:=B2 hj h
  have htn:turns F [t]=((turn F t).1,[(turn F t).2]):=rfl
  unfold driveGo
  have hh:happens F cs k []=F:=rfl
  rw [hh,htn]
  simp only
  rcases DB g1 sch k with ⟨e,hq⟩ | ⟨m,F',hs,e⟩
  ·rw [e,if_neg (by simp)]
   have h2:ph1=2:=by
    rcases g3 with g3 | ⟨C,hC,hnq⟩
    ·exact g3
    ·exact absurd (hq C hC) hnq
   subst h2
   exact ⟨_,dn1,rfl,g1⟩
  ·rw [e,if_pos rfl]
   obtain ⟨h1,dn2,k1,k2⟩:=Fn hj g1 hs
   subst h1
   refine GC hj cs sch f (k+1) k1 ?_
   rw [if_neg (by omega)] at g2 ⊢
   split at hw<;>simp_all<;>omega
theorem DC (hj:RdJ n L base i j) {F:Fab} (h:nA n L base bc F) {t:Tk conv} (h1:t.client=(i:Int)) (h2:t.job=j) (h3:t.bad=false) (h4:t.over=false) (h5:t.got=[]) (htr:∀ (i:Nat) (C:Comp),F.clients[i]?=some C→C.trips=0) (sch:List Int) {most:Nat} (hm:40<most) :
  ∃ t' dn',(drive F [t] sch [] most).2=[t']∧RdI n L base bc i j (drive F [t] sch [] most).1 t' 2 dn':=by
 have hi:=h.rdI hj.i6 h1 h2 h3 h4 h5 htr
 have hp:gV F i=0:=by
  unfold gV
  cases hC:F.clients[i]? with
  |none=>rfl
  |some C=>exact qX (h.cli i C hC).quiet
 obtain ⟨t1,dn1,e,g⟩:=GC hj ([t].map Tk.client) sch most 0 hi (by rw [hp,if_pos rfl];omega)
 obtain ⟨ph2,dn2,k1,_,_,k4,_⟩:=B2 hj g
 have k4:=k4 rfl
 subst k4
 unfold drive
 rw [e]
 exact ⟨_,dn2,rfl,k1⟩
end
end Go.Proofs.YtegepanmkjemjaaGreat
namespace Go.Proofs.YtegepanmkjemjaaGreat
open Go.Eng C12
theorem yW {x:Nat} (hx:x<18446744073709551616):band .u64 (x:Int) 255=((x % 256:Nat):Int):=by
 have hb:band .u64 (x:Int) ((2 ^ 8 - 1:Nat):Int)=(x:Int) % (2 ^ 8:Nat):=vR (by omega) (by omega) 8 (by omega)
 have hb:band .u64 (x:Int) 255=(x:Int) % 256:=hb
 rw [hb]
 omega
theorem xp {a k:Nat} (ha:256 * a<18446744073709551616) (hk:k<255):fE ((256 * a:Nat):Int) k=((256 * a+(k+1):Nat):Int):=by
 unfold fE
 have e:((k:Int)+1)=((k+1:Nat):Int):=by omega
 rw [e,xE _ _ ha (by omega)]
 congr 1
 exact (Nat.two_pow_add_eq_or_of_lt (i:=8) (by omega) a).symm
theorem B3 {a:Nat}:bshr .u64 ((256 * a:Nat):Int) 8=(a:Int):=by
 show Int.fdiv ((256 * a:Nat):Int) 256=_
 rw [Int.fdiv_eq_ediv_of_nonneg _ (by decide)]
 omega
theorem xq {a:Nat} (ha:256 * (a+1)<18446744073709551616):sl ((256 * a:Nat):Int)=((256 * (a+1):Nat):Int):=by
 unfold sl
 rw [B3]
 show IntKind.u64.wrap (((a:Int)+1) * 256)=_
 rw [sO (by omega) (by omega)]
 omega
theorem Aa {p:aB} (h:je p=true):∃ a:Nat,p.Head=((256 * a:Nat):Int)∧1≤a∧a≤281474976710654:=by
 simp only [je,lE,unl,Bool.and_eq_true,decide_eq_true_eq,beq_iff_eq] at h
 obtain ⟨⟨h1,h2⟩,h3⟩:=h
 have e:bshr .u64 p.Head 8=p.Head / 256:=by
  show Int.fdiv p.Head 256=_
  rw [Int.fdiv_eq_ediv_of_nonneg _ (by decide)]
 rw [e] at h1 h2
 obtain ⟨x,hx⟩:∃ x:Nat,p.Head=x:=⟨p.Head.toNat,by omega⟩
 rw [hx] at h1 h2 h3 ⊢
 rw [yW (by omega)] at h3
 exact ⟨x / 256,by omega,by omega,by omega⟩
theorem B4 {p:aB} {a:Nat} (h:p.Head=((256 * a:Nat):Int)) (h1:1≤a) (h2:a≤281474976710654):je p=true:=by
 simp only [je,lE,unl,Bool.and_eq_true,decide_eq_true_eq,beq_iff_eq]
 rw [h,B3,yW (by omega)]
 omega
theorem DD {l:List aB} (h:∀ i,i<l.length→ascP l i=true):∀ a b (ha:a<l.length) (hb:b<l.length),a<b→l[a].Line<l[b].Line:=by
 intro a b ha hb hab
 induction b with
 |zero=>omega
 |succ b ih=>
  have h1:=h (b+1) hb
  simp only [ascP,Bool.or_eq_true,decide_eq_true_eq,List.getD_eq_getElem?_getD] at h1
  have hb':b<l.length:=by omega
  rw [Nat.add_sub_cancel,List.getElem?_eq_getElem hb',List.getElem?_eq_getElem hb] at h1
  have h1:l[b].Line<l[b+1].Line:=h1.resolve_left (by omega)
  by_cases e:a=b
  ·subst e
   exact h1
  ·have:=ih hb' (by omega)
   omega
theorem xr {l L:Int} (h:g8 l L=true):∃ k:Nat,l=(k:Int)∧96≤k∧(k:Int)<L:=by
 simp only [g8,decide_eq_true_eq] at h
 exact ⟨l.toNat,by omega,by omega,by omega⟩
theorem cB.of_valid {E:Env} {i:Nat} {j:CJob} (hv:j.valid=0) (hc:j.client=(i:Int)) (h6:i<6) (hw:j.v=vA E.n) (hL:j.lines=E.L) (hs:j.writes≠[]) (hh:∀ p ∈ j.writes,p.Head=E.base p.Line.toNat 0) (hr:∀ s ∈ j.reads,s.Head=E.base s.Line.toNat 0):cB E i j:=by
 have hv0:=hv
 have hlen:0<j.writes.length:=List.length_pos_iff.2 hs
 unfold CJob.valid at hv
 split at hv
 ·omega
 split at hv
 ·next h=>exact absurd hv h
 split at hv
 ·omega
 next hln=>
 split at hv
 ·next h=>exact absurd hv h.2
 next h1=>
 split at hv
 ·omega
 next h24=>
 split at hv
 ·omega
 next hrl=>
 split at hv
 ·omega
 next hrs=>
 have h1:iK j.seq j.writes j.lines=0:=Decidable.not_not.1 λe=>h1 ⟨hlen,e⟩
 unfold iK at h1
 split at h1
 ·omega
 split at h1
 ·omega
 next hsq=>
 split at h1
 ·omega
 next hwl=>
 split at h1
 ·omega
 next hws=>
 have hwl:∀ p ∈ j.writes,g8 p.Line j.lines=true:=List.all_eq_true.1 (by simpa using hwl)
 have hrl:∀ p ∈ j.reads,g8 p.Line j.lines=true:=List.all_eq_true.1 (by simpa using hrl)
 have hws:∀ i,i<j.writes.length→ascP j.writes i=true∧je (j.writes.getD i noP)=true:=λi hi=>by
  have:=List.all_eq_true.1 (show (List.range j.writes.length).all (λi=>ascP j.writes i && je (j.writes.getD i noP))=true by simpa using hws) i (List.mem_range.2 hi)
  rwa [Bool.and_eq_true] at this
 have hrs:∀ i,i<j.reads.length→m8 j.reads j.writes i=true:=λi hi=>List.all_eq_true.1 (show (List.range j.reads.length).all (m8 j.reads j.writes)=true by simpa using hrs) i (List.mem_range.2 hi)
 have hlt:=DD λi hi=>(hws i hi).1
 have hhd:∀ p ∈ j.writes,∃ a:Nat,p.Head=((256 * a:Nat):Int)∧1≤a∧a≤281474976710654:=λp hp=>by
  obtain ⟨k,hk,rfl⟩:=List.getElem_of_mem hp
  have:=(hws k hk).2
  rw [List.getD_eq_getElem?_getD,List.getElem?_eq_getElem hk] at this
  exact Aa this
 refine ⟨hc,h6,hv0,hw,hs,by omega,by omega,λp hp=>?_,λp hp=>?_,λp hp q hq e=>?_,?_,hh,λp hp k hk=>?_,λp hp=>?_,hr,λs hsm p hp e=>?_⟩
 ·obtain ⟨k,e1,e2,e3⟩:=xr (hwl p hp)
  exact ⟨k,e1,e2,by omega⟩
 ·obtain ⟨k,e1,e2,e3⟩:=xr (hrl p hp)
  exact ⟨k,e1,e2,by omega⟩
 ·obtain ⟨a,ha,rfl⟩:=List.getElem_of_mem hp
  obtain ⟨b,hb,rfl⟩:=List.getElem_of_mem hq
  rcases Nat.lt_trichotomy a b with h | h | h
  ·have:=hlt a b ha hb h
   omega
  ·subst h
   rfl
  ·have:=hlt b a hb ha h
   omega
 ·rw [List.nodup_iff_pairwise_ne,List.pairwise_map,List.pairwise_iff_getElem]
  intro a b ha hb hab e
  have:=hlt a b ha hb hab
  omega
 ·obtain ⟨a,e,h1,h2⟩:=hhd p hp
  rw [e,xp (by omega) (by omega),xp (by omega) (by omega)]
  exact ⟨by omega,λe=>by omega⟩
 ·obtain ⟨a,e,h1,h2⟩:=hhd p hp
  rw [e,xq (by omega)]
  omega
 ·obtain ⟨k,hk,rfl⟩:=List.getElem_of_mem hsm
  have:=hrs k hk
  simp only [m8,Bool.and_eq_true,List.getD_eq_getElem?_getD,List.getElem?_eq_getElem hk,Bool.not_eq_true',has,List.any_eq_false,decide_eq_true_eq] at this
  exact this.2 p hp e.symm
theorem B5 {seq L:Int} {W:List aB} (hL:98≤L∧L≤256) (hs:1≤seq∧seq<1073741824) (h1:1≤W.length) (h12:W.length≤12) (hw:∀ p ∈ W,g8 p.Line L=true) (ha:W.Pairwise λp q=>p.Line<q.Line) (hh:∀ p ∈ W,je p=true):iK seq W L=0:=by
 unfold iK
 rw [if_neg (by omega),if_neg (by omega),if_neg,if_neg]
 ·rw [Bool.not_eq_false,List.all_eq_true]
  intro i hi
  have hi:=List.mem_range.1 hi
  rw [Bool.and_eq_true,List.getD_eq_getElem?_getD,List.getElem?_eq_getElem hi]
  refine ⟨?_,hh _ (List.getElem_mem hi)⟩
  unfold ascP
  rw [Bool.or_eq_true]
  cases i with
  |zero=>exact .inl rfl
  |succ i=>
   right
   rw [List.getD_eq_getElem?_getD,List.getD_eq_getElem?_getD,Nat.add_sub_cancel,List.getElem?_eq_getElem (by omega),List.getElem?_eq_getElem hi]
   exact decide_eq_true (List.pairwise_iff_getElem.1 ha i (i+1) (by omega) hi (by omega))
 ·rw [Bool.not_eq_false,List.all_eq_true]
  exact hw
theorem ye {n:Nat} (hn:1≤n∧n≤5):(vA n).valid 5=0:=by
 obtain rfl | rfl | rfl | rfl | rfl:n=1∨n=2∨n=3∨n=4∨n=5:=by omega
 all_goals rfl
end Go.Proofs.YtegepanmkjemjaaGreat
namespace Go.Proofs.YtegepanmkjemjaaGreat
open Go.Eng C12
def pgOf (B:Nat→Nat→Int) (l:Nat):aB:=⟨l,B l 0,B l 1,B l 2,B l 3,B l 4,B l 5,B l 6,B l 7⟩
theorem nA.page {n L:Nat} {B:Nat→Nat→Int} {bc:Nat→Int} {F:Fab} (h:nA n L B bc F) {m:Nat} {x:aP} (hx:F.nodes[m]?=some x) {l:Nat} (h1:96≤l) (h2:l<L):x.page l=pgOf B l:=by
 have g:=h.heap l h1 h2 m x hx
 have g0:=g 0 (by omega)
 rw [Nat.add_zero] at g0
 unfold aP.page pgOf
 rw [g0,g 1 (by omega),g 2 (by omega),g 3 (by omega),g 4 (by omega),g 5 (by omega),g 6 (by omega),g 7 (by omega)]
theorem nA.eqX {n L:Nat} {B:Nat→Nat→Int} {bc:Nat→Int} {X:FabX} (h:nA n L B bc X.pure) (hL:98≤L∧L≤256) (hB:∀ l:Nat,96≤l→l<L→B l 0 % 256=0):EqX X n L:=by
 have get:∀ (i:Nat) (x:kg),X.nodes[i]?=some x→X.pure.nodes[i]?=some x.n:=λi x hx=>by
  simp [FabX.pure,hx]
 have hl:X.nodes.length=n:=by
  rw [←h.len]
  simp [FabX.pure]
 refine ⟨hl,λi x x0 hx h0=>⟨(h.fix i _ (get i x hx)).up,λl h1 h2=>⟨?_,?_⟩,λc hc=>⟨?_,?_⟩⟩,λi x hx=>?_,hL.2,hL.1⟩
 ·rw [h.page (get 0 x0 h0) h1 h2,h.page (get i x hx) h1 h2]
 ·have:=h.heap l h1 h2 0 _ (get 0 x0 h0) 0 (by omega)
  rw [Nat.add_zero] at this
  rw [this]
  exact hB l h1 h2
 ·rw [h.clock c hc 0 _ (get 0 x0 h0),h.clock c hc i _ (get i x hx)]
 ·rw [(h.fix 0 _ (get 0 x0 h0)).door c hc,(h.fix i _ (get i x hx)).door c hc]
 ·rw [(h.fix i _ (get i x hx)).len]
  omega
def Ab (l k:Nat):Int:=if k=0 then 256 else 0
def yf (n L:Nat):Bool:=
 let w:=fmt L n
 w.length == L * 8 && (w.getD 0 0 == 1 && (w.getD 1 0 == 1 && ((List.range 6).all (λc=>w.getD (24+c) 0 == 1 && w.getD (32+c) 0 == 0) && (List.range (L - 96)).all λq=>(List.range 8).all λk=>w.getD ((q+96) * 8+k) 0 == Ab 0 k)))
theorem tO {n L:Nat} (hn:1≤n∧n≤5) (hL:98≤L∧L≤256) (h:yf n L=true):nA n L Ab (λ_=>0) (Fab.fresh n 6 L):=by
 simp only [yf,Bool.and_eq_true,List.all_eq_true,List.mem_range,beq_iff_eq] at h
 obtain ⟨h1,h2,h3,h4,h5⟩:=h
 have hx:∀ (m:Nat) (x:aP),(Fab.fresh n 6 L).nodes[m]?=some x→x=⟨fmt L n,false⟩:=λm x e=>by
  have e:=List.mem_of_getElem? e
  exact (List.mem_replicate.1 e).2
 refine ⟨Fine.fresh hn (by omega) hL,rfl,by simp [Fab.fresh],λm x e=>?_,λl l1 l2 m x e k hk=>?_,λc hc m x e=>?_,λi C e=>?_,λk hk=>?_,rfl⟩
 ·rw [hx m x e]
  exact ⟨rfl,h1,h2,h3,λc hc=>(h4 c hc).1⟩
 ·rw [hx m x e]
  have:=h5 (l - 96) (by omega) k hk
  rw [show l - 96+96=l by omega] at this
  exact this
 ·rw [hx m x e]
  exact (h4 c hc).2
 ·have e:=List.mem_of_getElem? e
  obtain ⟨q,hq,rfl⟩:=List.mem_map.1 e
  have hln:∀ (k:Nat) (l:Lane),(nq n q).lanes[k]?=some l→l.pair.verbs=[]∧l.pair.words=[]:=λk l hl=>by
   have hl:=List.mem_of_getElem? hl
   unfold nq dY at hl
   simp only at hl
   obtain ⟨z,hz,rfl⟩:=List.mem_map.1 hl
   exact ⟨rfl,rfl⟩
  refine ⟨rfl,λk l hl=>(hln k l hl).1,rfl,rfl,by simp [nq,dY],λk l hl=>?_⟩
  intro v vs' e _
  rw [(hln k l hl).1] at e
  cases e
 ·exact ⟨nq n k,by simp [Fab.fresh,hk]⟩
theorem tP {n L:Nat}:∀ (i:Nat) (C:Comp),(Fab.fresh n 6 L).clients[i]?=some C→C.trips=0:=λi C e=>by
 have e:=List.mem_of_getElem? e
 obtain ⟨q,hq,rfl⟩:=List.mem_map.1 e
 rfl
theorem tQ {n:Nat} (hn:1≤n∧n≤5):yf n 104=true:=by
 obtain rfl | rfl | rfl | rfl | rfl:n=1∨n=2∨n=3∨n=4∨n=5:=by omega
 all_goals kernel_rfl
end Go.Proofs.YtegepanmkjemjaaGreat
namespace Go.Proofs.YtegepanmkjemjaaGreat
open Go.Eng C12
structure Law (w z:World) (n:Nat) (lines:Int) (fb p:Nat) (A:Nat→Prop) (χ:Nat→Tag) (X:FabX) (rv:aM):Prop where
 fab:aY A χ z fb X
 new:New w z
 own:∀ k,A k→w.heap.size≤k
 box:Blk z p (fofC fb lines rv) TFo
 out:¬ A p
 view:ViewAt A z rv (vA n)
theorem Law.noop {w z z':World} {n:Nat} {lines:Int} {fb p:Nat} {A:Nat→Prop} {χ:Nat→Tag} {X:FabX} {rv:aM} (h:Law w z n lines fb p A χ X rv) (hn:New z z'):Law w z' n lines fb p A χ X rv:=
 ⟨h.fab.new hn,h.new.new hn,h.own,New.blk hn h.box,h.out,h.view.new hn⟩
theorem Made.law {w u:World} {n lines:Nat} {fb p:Nat} {A:Nat→Prop} {χ:Nat→Tag} {X:FabX} {rv:aM} (h:Made w u n lines fb p A χ X rv):Law w u n lines fb p A χ X rv:=⟨h.fab,h.new,h.own,h.box,h.out,h.view⟩
theorem Law.other {w z z':World} {n:Nat} {lines:Int} {fb p b:Nat} {A:Nat→Prop} {χ:Nat→Tag} {X:FabX} {rv:aM} (h:Law w z n lines fb p A χ X rv) (hk:Keep (λk=>k=b) z z') (h1:¬ A b) (h2:b≠p) (h3:w.heap.size≤b) (hm:Rd z rv.Members (iC (stM n)).flatten→Rd z' rv.Members (iC (stM n)).flatten) (hf:aY A χ z' fb X):Law w z' n lines fb p A χ X rv:=by
 refine ⟨hf,h.new.trans hk λk hlt e=>by omega,h.own,hk.blk h.box λe=>h2 e.symm,h.out,?_⟩
 obtain ⟨a1,a2,a3,a4,a5,a6⟩:=h.view
 exact ⟨a1,a2,a3,hm a4,a5,a6⟩
attribute [local irreducible] drive
end Go.Proofs.YtegepanmkjemjaaGreat
