import Derived.Test.YtegepanmkjemjaaGreatq42
import Derived.Test.YtegepanmkjemjaaGreatq39
set_option linter.unusedVariables false
namespace Go.Proofs.YtegepanmkjemjaaGreat
open Go.Eng C12
def rep (T:List bD) (F:Fab):Fab:={ F with nodes:=T.map bD.s }
section
variable {cv:Conv}
theorem Ah (T:List bD) (F:Fab) (c:Int):(rep T F).take c=((F.take c).1,rep T (F.take c).2)∧(F.take c).2.nodes=F.nodes:=by
 have hc:(rep T F).cl c=F.cl c:=rfl
 unfold Fab.take
 rw [hc]
 cases F.cl c with
 |none=>exact ⟨rfl,rfl⟩
 |some C=>
  simp only
  split
  ·exact ⟨rfl,rfl⟩
  ·cases C.batch with
   |none=>exact ⟨rfl,rfl⟩
   |some ds=>
    simp only
    split
    ·exact ⟨rfl,rfl⟩
    ·exact ⟨rfl,rfl⟩
theorem Ai {T:List bD} {F:Fab} (h:F.nodes.length=T.length) (c:Int) (vs:List Verb):(rep T F).post c vs=((F.post c vs).1,rep T (F.post c vs).2)∧(F.post c vs).2.nodes=F.nodes:=by
 have hc:(rep T F).cl c=F.cl c:=rfl
 have hn:(rep T F).nodes.length=F.nodes.length:=by rw [h];simp [rep]
 have hl:(rep T F).lines=F.lines:=rfl
 unfold Fab.post
 rw [hc,hn,hl]
 cases F.cl c with
 |none=>exact ⟨rfl,rfl⟩
 |some C=>
  simp only
  split
  ·exact ⟨rfl,rfl⟩
  ·split
   ·exact ⟨rfl,rfl⟩
   ·split
    ·exact ⟨rfl,rfl⟩
    ·split
     ·exact ⟨rfl,rfl⟩
     ·split
      ·exact ⟨rfl,rfl⟩
      ·exact ⟨rfl,rfl⟩
theorem sJ {T:List bD} {F:Fab} (h:F.nodes.length=T.length) (t:Tk cv):turn (rep T F) t=(rep T (turn F t).1,(turn F t).2)∧(turn F t).1.nodes.length=T.length:=by
 have ha:(rep T F).alive t.client=F.alive t.client:=rfl
 have hw:(rep T F).waiting t.client=F.waiting t.client:=rfl
 obtain ⟨h1,h2⟩:=Ah T F t.client
 unfold turn
 rw [ha,hw,h1]
 split
 ·exact ⟨rfl,h⟩
 ·unfold qL
  simp only
  obtain ⟨h3,h4⟩:=Ai (T:=T) (F:=(F.take t.client).2) (by rw [h2];exact h) (t.fed (F.take t.client).1).client (cv.next (t.fed (F.take t.client).1).job (t.fed (F.take t.client).1).got).1
  rw [h3]
  split
  ·exact ⟨rfl,by rw [h2];exact h⟩
  ·split
   ·exact ⟨rfl,by rw [h2];exact h⟩
   ·simp only
    split
    ·exact ⟨rfl,by rw [h4,h2];exact h⟩
    ·exact ⟨rfl,by rw [h4,h2];exact h⟩
abbrev St (cv:Conv):=List bD×Fab×Tk cv
def toP (s:St cv):Fab×Tk cv:=(rep s.1 s.2.1,s.2.2)
def rU (c j:Nat) (s:St cv):Option (St cv):=
 match s.2.1.clients[c]? with
 |none=>none
 |some C=>match C.lanes[j]?,s.1[j]? with
  |some l,some n=>if l.pair.verbs.length=0 then none else
   let r:=l.pair.stepT n
   let u:=turn { s.2.1 with clients:=s.2.1.clients.set c (C.comes j l r.1 r.2.2) } s.2.2
   some (s.1.set j r.2.1,u.1,u.2)
  | _,_=>none
structure OkT (s:St cv):Prop where
 ok:∀ x ∈ s.1,x.Ok
 len:s.2.1.nodes.length=s.1.length
theorem ue {s:St cv} {c j:Nat} (hf:Fine (rep s.1 s.2.1)) (hs:OkT s):nR c j (toP s)=(rU c j s).map toP∧∀ s',rU c j s=some s'→OkT s':=by
 obtain ⟨T,F,t⟩:=s
 obtain ⟨hT,hl⟩:=hs
 unfold nR stepL rU toP
 simp only
 have hcl:(rep T F).clients=F.clients:=rfl
 rw [hcl]
 cases hC:F.clients[c]? with
 |none=>exact ⟨rfl,λs' h=>by cases h⟩
 |some C=>
  simp only
  have hnd:(rep T F).nodes[j]?=(T[j]?).map bD.s:=by simp [rep]
  rw [hnd]
  cases hL:C.lanes[j]? with
  |none=>exact ⟨rfl,λs' h=>by cases h⟩
  |some l=>
   cases hN:T[j]? with
   |none=>exact ⟨rfl,λs' h=>by cases h⟩
   |some n=>
    simp only [Option.map_some]
    by_cases hv:l.pair.verbs.length=0
    ·rw [if_pos hv,if_pos hv]
     exact ⟨rfl,λs' h=>by cases h⟩
    ·rw [if_neg hv,if_neg hv]
     have hP:cJ l.pair:=hf.good.cl C (List.mem_of_getElem? hC) l (List.mem_of_getElem? hL)
     obtain ⟨he,hok⟩:=Ag hP (hT n (List.mem_of_getElem? hN))
     rw [he]
     simp only
     have hset:({ rep T F with nodes:=(rep T F).nodes.set j (l.pair.stepT n).2.1.s,clients:=F.clients.set c (C.comes j l (l.pair.stepT n).1 (l.pair.stepT n).2.2) }:Fab)=rep (T.set j (l.pair.stepT n).2.1) { F with clients:=F.clients.set c (C.comes j l (l.pair.stepT n).1 (l.pair.stepT n).2.2) }:=by
      simp [rep,List.map_set]
     rw [hset]
     obtain ⟨h1,h2⟩:=sJ (cv:=cv) (T:=T.set j (l.pair.stepT n).2.1) (F:={ F with clients:=F.clients.set c (C.comes j l (l.pair.stepT n).1 (l.pair.stepT n).2.2) }) (by rw [List.length_set];exact hl) t
     refine ⟨?_,λs' h=>?_⟩
     ·simp only [Option.map_some]
      rw [h1]
     ·cases h
      refine ⟨λx hx=>?_,h2⟩
      rcases List.mem_or_eq_of_mem_set hx with h | h
      ·exact hT x h
      ·rw [h];exact hok
def rV (c:Nat) (s:St cv):Nat→Nat→Option (St cv)
 | 0,_=>none
 |q+1,j=>match rU c j s with
  |some s'=>some s'
  |none=>rV c s q (j+1)
theorem uf {s:St cv} {c:Nat} (hf:Fine (rep s.1 s.2.1)) (hs:OkT s):∀ (q j:Nat),oU c (toP s) q j=(rV c s q j).map toP∧∀ s',rV c s q j=some s'→OkT s'∧∃ i,rU c i s=some s'
 | 0,j=>⟨rfl,λs' h=>by cases h⟩
 |q+1,j=>by
  obtain ⟨h1,h2⟩:=ue (c:=c) (j:=j) hf hs
  unfold oU rV
  rw [h1]
  cases h:rU c j s with
  |some s1=>exact ⟨rfl,λs' e=>by cases e;exact ⟨h2 _ h,j,h⟩⟩
  |none=>exact uf hf hs q (j+1)
def runT (c:Nat):Nat→St cv→Option (Nat×St cv)
 | 0,_=>none
 |f+1,s=>match rV c s 5 0 with
  |none=>some (0,s)
  |some s'=>(runT c f s').map λx=>(x.1+1,x.2)
theorem yL {c:Nat}:∀ (f:Nat) {s:St cv},OkP c (toP s)→OkT s→runP c f (toP s)=(runT c f s).map (λx=>(x.1,toP x.2))∧∀ x,runT c f s=some x→OkT x.2
 | 0,s,hok,hs=>⟨rfl,λx h=>by cases h⟩
 |f+1,s,hok,hs=>by
  obtain ⟨h1,h2⟩:=uf (c:=c) hok.fine hs 5 0
  unfold runP runT
  rw [h1]
  cases h:rV c s 5 0 with
  |none=>exact ⟨rfl,λx e=>by cases e;exact hs⟩
  |some s1=>
   obtain ⟨h3,i,hi⟩:=h2 _ h
   have hst:nR c i (toP s)=some (toP s1):=by rw [(ue (c:=c) (j:=i) hok.fine hs).1,hi];rfl
   have hok1:=(qN c).keep hok hst
   obtain ⟨h4,h5⟩:=yL f hok1 h3
   simp only [Option.map_some]
   rw [h4]
   refine ⟨by cases runT c f s1<;>rfl,λx e=>?_⟩
   cases hr:runT c f s1 with
   |none=>rw [hr] at e;cases e
   |some y=>rw [hr] at e;cases e;exact h5 y hr
end
def rW (c:Nat) (T:List bD) (F:Fab) (t:Tk conv):Option (St conv):=match runT c 400 (T,(turn F t).1,(turn F t).2) with
 |some (k,s)=>if k<3000 then some (s.1,(turn s.2.1 s.2.2).1,(turn s.2.1 s.2.2).2) else none
 |none=>none
theorem ug {T:List bD} {F:Fab} (h:F.nodes.length=T.length):nF (rep T F)=nF F:=by
 have hn:(rep T F).nodes.length=F.nodes.length:=by rw [h];simp [rep]
 unfold nF
 rw [hn]
 rfl
theorem uh {c:Nat} {T:List bD} {F:Fab} {t:Tk conv} {s:St conv} (hf:Fine (rep T F)) (hq:nF F=true) (hT:∀ x ∈ T,x.Ok) (hl:F.nodes.length=T.length) (hc:t.client=(c:Int)) (h:rW c T F t=some s) (sch:List Int) {most:Nat} (hm:3000≤most) :
  drive (rep T F) [t] sch [] most=(rep s.1 s.2.1,[s.2.2])∧OkT s:=by
 obtain ⟨ht,htl⟩:=sJ (T:=T) hl t
 have hok:OkP c (rep T F,t):=⟨hf,yv (by rw [ug hl];exact hq) c,hc⟩
 have hok1:=hok.turn
 rw [ht] at hok1
 unfold rW at h
 obtain ⟨h1,h2⟩:=yL (cv:=conv) 400 (s:=(T,(turn F t).1,(turn F t).2)) hok1 ⟨hT,htl⟩
 cases hr:runT c 400 (T,(turn F t).1,(turn F t).2) with
 |none=>rw [hr] at h;cases h
 |some x=>
  obtain ⟨k,s1⟩:=x
  rw [hr] at h h1
  simp only at h
  split at h
  ·rename_i hk
   cases h
   have hs1:=h2 _ hr
   have hp:rQ c (rep T F) t=some (turn (rep s1.1 s1.2.1) s1.2.2):=by
    unfold rQ
    rw [ht]
    have:runP c 400 (rep T (turn F t).1,(turn F t).2)=some (k,toP s1):=h1
    rw [this]
    simp only
    rw [if_pos hk]
    rfl
   obtain ⟨h5,h6⟩:=sJ (cv:=conv) (T:=s1.1) hs1.len s1.2.2
   have:=tZ hf (by rw [ug hl];exact hq) hc hp sch hm
   rw [h5] at this
   exact ⟨this,hs1.ok,h6⟩
  ·cases h
def pi (n lines:Nat):List bD:=List.replicate n (bD.of (fmt lines n))
theorem ui {n lines:Nat} (h:lines≤128):rep (pi n lines) (Fab.fresh n 6 lines)=Fab.fresh n 6 lines:=by
 have hl:(fmt lines n).length≤1024:=by rw [sB];omega
 unfold rep pi Fab.fresh
 simp [bD.of_s hl]
theorem yM {n lines:Nat} (h:lines≤128):∀ x ∈ pi n lines,x.Ok:=by
 intro x hx
 rw [List.eq_of_mem_replicate hx]
 exact bD.of_ok (by rw [sB];omega)
theorem wW (n lines:Nat):(Fab.fresh n 6 lines).nodes.length=(pi n lines).length:=by simp [Fab.fresh,pi]
def noT:bD:=⟨.leaf 0,0,true⟩
def qj (T:List bD) (i:Nat):bD:=T.getD i noT
theorem k8 (T:List bD) (F:Fab) (i:Nat):eI (rep T F) i=(qj T i).s:=by
 unfold eI qj rep
 rw [List.getD_eq_getElem?_getD,List.getD_eq_getElem?_getD,List.getElem?_map]
 cases T[i]?<;>rfl
def B0 (x:bD) (l:Nat):aG:=⟨l,x.get (l * 8),x.get (l * 8+1),x.get (l * 8+2),x.get (l * 8+3),x.get (l * 8+4),x.get (l * 8+5),x.get (l * 8+6),x.get (l * 8+7)⟩
theorem Aj (x:bD) (l:Nat):x.s.page l=B0 x l:=by
 unfold aP.page B0
 simp only [bD.s_get]
def cwsT (c:Int) (x:bD) (L:List Nat):List aG:=L.map λl=>bump c (B0 x l)
theorem vf (c:Int) (x:bD) (L:List Nat):cws c x.s L=cwsT c x L:=by
 unfold cws cwsT
 simp only [Aj]
def segT (x:bD) (at_ c:Nat):List Int:=(List.range c).map λi=>x.t.get (at_+i)
theorem vg {x:bD} {at_ c:Nat} (h:at_+c≤x.n):segM x.s at_ c=segT x at_ c:=by
 have:=bD.read_s x (at_:Int) (c:Int)
 unfold aP.read bD.read at this
 simp only [Int.toNat_natCast] at this
 rw [Nat.min_eq_left (by omega)] at this
 exact this
def eqBT (T:List bD) (F:Fab) (n lines:Nat) (E:List Int):Bool:=decide (T.length=n∧F.lines=lines) && ((List.range (lines - 96)).all (λq=>E.getD (q * 8) 0 % 256 == 0) && (List.range n).all λi=>!(qj T i).down && (decide ((qj T i).n=lines * 8) && (eqL (segT (qj T i) 768 ((lines - 96) * 8)) E && eqL (segT (qj T i) 24 14) (segT (qj T 0) 24 14))))
theorem B1 {T:List bD} {F:Fab} {n lines:Nat} {E:List Int} (h98:98≤lines) (h:eqBT T F n lines E=true):EqF (rep T F) n lines E:=by
 refine C2 ?_
 simp only [eqBT,Bool.and_eq_true,List.all_eq_true,List.mem_range,decide_eq_true_eq,Bool.not_eq_true'] at h
 obtain ⟨⟨h1,h2⟩,h3,h4⟩:=h
 have hn:(rep T F).nodes.length=n:=by simpa [rep] using h1
 simp only [eqB,Bool.and_eq_true,List.all_eq_true,List.mem_range,decide_eq_true_eq,Bool.not_eq_true']
 refine ⟨⟨hn,h2⟩,h3,λi hi=>?_⟩
 obtain ⟨g1,g2,g3,g4⟩:=h4 i hi
 obtain ⟨_,k2,_,_⟩:=h4 0 (by omega)
 rw [k8,k8,vg (by omega),vg (by omega),vg (by omega)]
 exact ⟨g1,g3,g4⟩
end Go.Proofs.YtegepanmkjemjaaGreat
namespace Go.Proofs.YtegepanmkjemjaaGreat
open Go.Eng C12
def jobM (t:Tk conv):CJob:=t.job
def strW (n a:Nat):Bool→List aG
 |true=>BY n a 0
 |false=>pJ n a
def strT (n a:Nat) (c:Bool):Tk conv:=rz 0 1 100 n [] (strW n a c)
def strI (a:Nat) (c:Bool) (l:Nat):Bool:=!c && (aS a).contains l
def Ak (a b:Nat) (c:Bool) (l:Nat):List Int:=match strI a c l,(aS b).contains l with
 |true,true=>[768,2,2,0,0,0,0,0]
 |true,false=>[512,1,1,0,0,0,0,0]
 |false,true=>[512,1,2,0,0,0,0,0]
 |false,false=>[256,0,0,0,0,0,0,0]
def strE (a b:Nat) (c:Bool):List Int:=Ak a b c 96++(Ak a b c 97++(Ak a b c 98++Ak a b c 99))
def lD (a:Nat) (c:Bool) (l:Nat):Int:=match strI a c l with
 |true=>2
 |false=>1
def strU (n b:Nat) (F:Fab):Tk conv:=rz 1 1 100 n [] (cws 1 (eI F 0) (aS b))
def yN (n a:Nat):List aG:=cwsT 0 (qj (pi n 100) 0) (aS a)
def C8 (n a:Nat):Bool→List aG
 |true=>n0 (yN n a) 0 (IntKind.u64.wrap (vO (yN n a) 0+256))
 |false=>yN n a
def Al (n a:Nat) (c:Bool):Tk conv:=rz 0 1 100 n [] (C8 n a c)
def Am (n b:Nat) (s:St conv):Tk conv:=rz 1 1 100 n [] (cwsT 1 (qj s.1 0) (aS b))
def sK:Bool→Int
 |true=>7
 |false=>0
def strC (n a:Nat) (c:Bool) (s:St conv):Bool:=nF s.2.1 && (s.2.2.over && ((outM s.2.2).1 == sK c && (eqL ((jobM s.2.2).writes.map aG.Line) (ns (aS a)) && (!(qj s.1 0).down && decide (s.1.length=n∧s.2.1.lines=100)))))
def strB (n a:Nat) (c:Bool) (s:St conv) (b:Nat):Bool:=eqL ((cwsT 1 (qj s.1 0) (aS b)).map aG.Data0) ((aS b).map (lD a c)) && match rW 1 s.1 s.2.1 (Am n b s) with
 |some s2=>(outM s2.2.2).1 == 0 && ((outM s2.2.2).2 == 3 && eqBT s2.1 s2.2.1 n 100 (strE a b c))
 |none=>false
def strA (n a:Nat) (c:Bool):Bool:=nF (Fab.fresh n 6 100) && match rW 0 (pi n 100) (Fab.fresh n 6 100) (Al n a c) with
 |some s=>strC n a c s && (List.range 14).all (strB n a c s)
 |none=>false
theorem vh (n:Nat):eI (Fab.fresh n 6 100) 0=(qj (pi n 100) 0).s:=by
 have h:=ui (n:=n) (lines:=100) (by omega)
 rw [←h,k8]
theorem B2 (n a:Nat) (c:Bool):strT n a c=Al n a c:=by
 have h:pJ n a=yN n a:=by
  unfold pJ yN
  rw [vh,vf]
 unfold strT Al
 congr 1
 cases c
 ·exact h
 ·unfold strW C8 BY
  rw [h]
def AP:Prop:=∀ (n a b:Nat),1≤n∧n≤3→a<14→b<14→∀ (c:Bool) (sch:List Int),∃ e:Fab×Tk conv,drive (Fab.fresh n 6 100) [strT n a c] sch [] 3000=(e.1,[e.2])∧Fine e.1∧e.2.over=true∧(outM e.2).1=sK c∧(jobM e.2).writes.map aG.Line=ns (aS a)∧
  (eI e.1 0).down=false∧e.1.nodes.length=n∧e.1.lines=100∧(cws 1 (eI e.1 0) (aS b)).map aG.Data0=(aS b).map (lD a c)∧
  ∃ e2:Fab×Tk conv,drive e.1 [strU n b e.1] sch [] 3000=(e2.1,[e2.2])∧Fine e2.1∧(outM e2.2).1=0∧(outM e2.2).2=3∧EqF e2.1 n 100 (strE a b c)
theorem C9 {n a:Nat} (hn:1≤n∧n≤3) {c:Bool} (h:strA n a c=true) {b:Nat} (hb:b<14) (sch:List Int):∃ e:Fab×Tk conv,drive (Fab.fresh n 6 100) [strT n a c] sch [] 3000=(e.1,[e.2])∧Fine e.1∧e.2.over=true∧(outM e.2).1=sK c∧(jobM e.2).writes.map aG.Line=ns (aS a)∧
  (eI e.1 0).down=false∧e.1.nodes.length=n∧e.1.lines=100∧(cws 1 (eI e.1 0) (aS b)).map aG.Data0=(aS b).map (lD a c)∧
  ∃ e2:Fab×Tk conv,drive e.1 [strU n b e.1] sch [] 3000=(e2.1,[e2.2])∧Fine e2.1∧(outM e2.2).1=0∧(outM e2.2).2=3∧EqF e2.1 n 100 (strE a b c):=by
 unfold strA at h
 rw [Bool.and_eq_true] at h
 obtain ⟨hq,h⟩:=h
 cases hd:rW 0 (pi n 100) (Fab.fresh n 6 100) (Al n a c) with
 |none=>rw [hd] at h;cases h
 |some s=>
 rw [hd] at h
 simp only [Bool.and_eq_true,List.all_eq_true,List.mem_range] at h
 obtain ⟨hc,hB⟩:=h
 have hf:Fine (Fab.fresh n 6 100):=Fine.fresh (by omega) (by omega) (by omega)
 have hre:=ui (n:=n) (lines:=100) (by omega)
 obtain ⟨hdr,hs⟩:=uh (by rw [hre];exact hf) hq (yM (by omega)) (wW n 100) rfl hd sch (Nat.le_refl 3000)
 rw [hre,←B2] at hdr
 have hfe:Fine (rep s.1 s.2.1):=by
  have:=Fine.drive hf [strT n a c] sch [] 3000
  rw [hdr] at this
  exact this
 simp only [strC,Bool.and_eq_true,beq_iff_eq,Bool.not_eq_true',decide_eq_true_eq] at hc
 obtain ⟨hq1,h1,h2,h3,h4,h5,h6⟩:=hc
 have hb:=hB b hb
 unfold strB at hb
 rw [Bool.and_eq_true] at hb
 obtain ⟨hw,hb⟩:=hb
 have hU:strU n b (rep s.1 s.2.1)=Am n b s:=by unfold strU Am;rw [k8,vf]
 refine ⟨(rep s.1 s.2.1,s.2.2),hdr,hfe,h1,h2,t0 h3,by rw [k8];exact h4,by simpa [rep] using h5,h6,by rw [k8,vf];exact t0 hw,?_⟩
 cases hd2:rW 1 s.1 s.2.1 (Am n b s) with
 |none=>rw [hd2] at hb;cases hb
 |some s2=>
 rw [hd2] at hb
 simp only [Bool.and_eq_true,beq_iff_eq] at hb
 obtain ⟨hdr2,hs2⟩:=uh hfe hq1 hs.ok hs.len rfl hd2 sch (Nat.le_refl 3000)
 rw [←hU] at hdr2
 refine ⟨(rep s2.1 s2.2.1,s2.2.2),hdr2,?_,hb.1,hb.2.1,B1 (by omega) hb.2.2⟩
 have:=Fine.drive hfe [strU n b (rep s.1 s.2.1)] sch [] 3000
 rw [hdr2] at this
 exact this
end Go.Proofs.YtegepanmkjemjaaGreat
