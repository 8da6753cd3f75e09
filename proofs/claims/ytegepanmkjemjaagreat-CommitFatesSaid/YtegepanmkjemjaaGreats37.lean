import Derived.Test.YtegepanmkjemjaaGreats36
set_option linter.unusedVariables false
namespace Go.Proofs.YtegepanmkjemjaaGreat
open Go.Eng C12
section
variable {cv:Conv}
def pQ (i:Nat) (s:Fab×Tk cv):Fab×Tk cv:=(s.1.setN i ka,s.2)
def stO (c i j:Nat) (s:Fab×Tk cv):Option (Fab×Tk cv):=if j=i then none else ey c j s
theorem lO {c i j:Nat} {s s':Fab×Tk cv} (h:stO c i j s=some s'):j≠i∧ey c j s=some s':=by
 unfold stO at h
 split at h
 ·cases h
 ·rename_i hj
  exact ⟨hj,h⟩
theorem uu {c i j:Nat} {s s':Fab×Tk cv} (hj:j≠i) (h:ey c j s=some s'):stO c i j s=some s':=by
 unfold stO
 rw [if_neg hj,h]
theorem vq (c i:Nat):sO (stO (cv:=cv) c i) (OkP c):=by
 refine ⟨λhok h=>(gY c).keep hok (lO h).2,λ{j1 j2 s s1 s2} hok h1 h2=>?_⟩
 obtain ⟨n1,h1⟩:=lO h1
 obtain ⟨n2,h2⟩:=lO h2
 rcases (gY c).dia hok h1 h2 with e | ⟨s3,h3,h4⟩
 ·exact .inl e
 ·exact .inr ⟨s3,uu n2 h3,uu n1 h4⟩
theorem xo (F:Fab) (i:Nat) (f:aP→aP):(F.setN i f).nodes=F.nodes.modify i f:=by
 unfold Fab.setN
 cases h:F.nodes[i]? with
 |none=>
  have hl:F.nodes.length≤i:=List.getElem?_eq_none_iff.1 h
  rw [List.modify_eq_self hl]
 |some n=>
  simp only
  apply List.ext_getElem?
  intro j
  rw [List.getElem?_set,List.getElem?_modify]
  by_cases hij:i=j
  ·subst hij
   have hl:i<F.nodes.length:=(List.getElem?_eq_some_iff.1 h).1
   rw [if_pos rfl,if_pos hl,h]
   simp
  ·rw [if_neg hij]
   simp [hij]
theorem vr (F:Fab) (i:Nat) (f:aP→aP):F.setN i f={ F with nodes:=F.nodes.modify i f }:=by
 have h1:=xo F i f
 unfold Fab.setN at h1 ⊢
 split
 ·rename_i h
  rw [h] at h1
  simp only at h1
  rw [←h1]
 ·rename_i n h
  rw [h] at h1
  simp only at h1
  rw [←h1]
def nC (ns:List aP) (F:Fab):Fab:={ F with nodes:=ns }
theorem y6 (ns:List aP) (F:Fab) (c:Int):(nC ns F).take c=((F.take c).1,nC ns (F.take c).2)∧(F.take c).2.nodes=F.nodes:=by
 have hc:(nC ns F).cl c=F.cl c:=rfl
 unfold Fab.take
 rw [hc]
 cases F.cl c with
 |none=>exact ⟨rfl,rfl⟩
 |some C=>
  simp only
  split
  ·exact ⟨rfl,rfl⟩
  ·cases C.batch with
   |none=>exact ⟨rfl,rfl⟩
   |some ds=>
    simp only
    split
    ·exact ⟨rfl,rfl⟩
    ·exact ⟨rfl,rfl⟩
theorem y7 {ns:List aP} {F:Fab} (h:ns.length=F.nodes.length) (c:Int) (vs:List Verb):(nC ns F).post c vs=((F.post c vs).1,nC ns (F.post c vs).2)∧(F.post c vs).2.nodes=F.nodes:=by
 have hc:(nC ns F).cl c=F.cl c:=rfl
 have hn:(nC ns F).nodes.length=F.nodes.length:=h
 have hl:(nC ns F).lines=F.lines:=rfl
 unfold Fab.post
 rw [hc,hn,hl]
 cases F.cl c with
 |none=>exact ⟨rfl,rfl⟩
 |some C=>
  simp only
  split
  ·exact ⟨rfl,rfl⟩
  ·split
   ·exact ⟨rfl,rfl⟩
   ·split
    ·exact ⟨rfl,rfl⟩
    ·split
     ·exact ⟨rfl,rfl⟩
     ·split
      ·exact ⟨rfl,rfl⟩
      ·exact ⟨rfl,rfl⟩
theorem uv {ns:List aP} {F:Fab} (h:ns.length=F.nodes.length) (t:Tk cv):turn (nC ns F) t=(nC ns (turn F t).1,(turn F t).2)∧(turn F t).1.nodes=F.nodes:=by
 have ha:(nC ns F).alive t.client=F.alive t.client:=rfl
 have hw:(nC ns F).waiting t.client=F.waiting t.client:=rfl
 obtain ⟨h1,h2⟩:=y6 ns F t.client
 unfold turn
 rw [ha,hw,h1]
 split
 ·exact ⟨rfl,rfl⟩
 ·unfold qt
  simp only
  obtain ⟨h3,h4⟩:=y7 (ns:=ns) (F:=(F.take t.client).2) (by rw [h2];exact h) (t.fed (F.take t.client).1).client (cv.next (t.fed (F.take t.client).1).job (t.fed (F.take t.client).1).got).1
  rw [h3]
  split
  ·exact ⟨rfl,h2⟩
  ·split
   ·exact ⟨rfl,h2⟩
   ·simp only
    split
    ·exact ⟨rfl,h4.trans h2⟩
    ·exact ⟨rfl,h4.trans h2⟩
theorem pp (F:Fab) (i:Nat):F.setN i ka=nC (F.nodes.modify i ka) F:=vr F i ka
theorem uw (F:Fab) (i:Nat) (t:Tk cv):turn (F.setN i ka) t=((turn F t).1.setN i ka,(turn F t).2):=by
 rw [pp]
 obtain ⟨h1,h2⟩:=uv (ns:=F.nodes.modify i ka) (F:=F) (by simp) t
 rw [h1,pp,h2]
theorem xp {c i j:Nat} (hj:j≠i) (F:Fab):stepL c j (F.setN i ka)=(stepL c j F).map λF'=>F'.setN i ka:=by
 rw [pp]
 unfold stepL
 have hc:(nC (F.nodes.modify i ka) F).clients=F.clients:=rfl
 have hn:(nC (F.nodes.modify i ka) F).nodes[j]?=F.nodes[j]?:=by
  show (F.nodes.modify i ka)[j]?=_
  rw [List.getElem?_modify]
  simp [Ne.symm hj]
 rw [hc,hn]
 cases F.clients[c]? with
 |none=>rfl
 |some C=>
  simp only
  cases C.lanes[j]? with
  |none=>rfl
  |some l=>
   cases hnd:F.nodes[j]? with
   |none=>rfl
   |some n=>
    simp only
    split
    ·rfl
    ·simp only [Option.map_some]
     rw [pp]
     congr 1
     unfold nC
     congr 1
     simp only
     apply List.ext_getElem?
     intro q
     rw [List.getElem?_set,List.getElem?_modify,List.getElem?_modify,List.getElem?_set]
     by_cases hq:j=q
     ·subst hq
      simp [Ne.symm hj]
     ·simp [hq]
theorem xq {c i j:Nat} (hj:j≠i) (s:Fab×Tk cv):ey c j (pQ i s)=(ey c j s).map (pQ i):=by
 obtain ⟨F,t⟩:=s
 unfold ey pQ
 simp only
 rw [xp hj]
 cases stepL c j F with
 |none=>rfl
 |some F'=>
  simp only [Option.map_some]
  rw [uw]
theorem y8 {c q i:Nat} {s s1 s':Fab×Tk cv} (hne:q≠i) (hok:OkP c s) (h1:ey c q s=some s1) (h2:ey c i s=some s'):∃ s3,ey c i s1=some s3:=by
 obtain ⟨F,t⟩:=s
 obtain ⟨F1,hs1,rfl⟩:=ez.1 h1
 obtain ⟨F2,hs2,rfl⟩:=ez.1 h2
 obtain ⟨C,l,n,hC,hl,hn,hv,hF1⟩:=dQ.1 hs1
 obtain ⟨C',l',n',hC',hl',hn',hv',_⟩:=dQ.1 hs2
 simp only at hC hC' hn hn'
 rw [hC] at hC'
 cases hC'
 have hlt:=aX hC
 have h3:∃ F3,stepL c i F1=some F3:=by
  subst hF1
  exact ⟨_,dQ.2 ⟨_,l',n',List.getElem?_set_self hlt,by rw [iL (λe2=>hne e2.symm)];exact hl',by simp only [List.getElem?_set_ne hne];exact hn',hv',rfl⟩⟩
 obtain ⟨F3,h3⟩:=h3
 have hc:t.client=(c:Int):=hok.cl
 have w1:turn F1 t=(F1,t):=qX (by rw [hc];exact uI (hok.stepL hs1).fine h3)
 refine ⟨turn F3 t,?_⟩
 simp only [w1]
 exact ez.2 ⟨F3,h3,rfl⟩
def ro (s:Fab×Tk cv):Fab×Tk cv:=turn s.1 s.2
inductive jE (c i:Nat) (chk:Fab×Tk cv→Prop):Nat→Fab×Tk cv→Prop
 |stop {N k k2:Nat} {s sf e:Fab×Tk cv}:Norm (stO c i) k s sf→ey c i sf=none→Norm (ey c) k2 (pQ i sf) e→k+k2≤N→chk (ro e)→chk (ro sf)→jE c i chk N s
 |go {N k k2:Nat} {s sf s1 e:Fab×Tk cv}:Norm (stO c i) k s sf→ey c i sf=some s1→Norm (ey c) k2 (pQ i sf) e→k+k2≤N→chk (ro e)→jE c i chk (N - k) s1→jE c i chk N s
variable {c i:Nat} {chk:Fab×Tk cv→Prop}
theorem jE.mono {N M:Nat} {s:Fab×Tk cv} (h:jE c i chk N s):N≤M→jE c i chk M s:=by
 intro hM
 induction h generalizing M with
 |stop h1 h2 h3 h4 h5 h6=>exact .stop h1 h2 h3 (by omega) h5 h6
 |go h1 h2 h3 h4 h5 _ ih=>exact .go h1 h2 h3 (by omega) h5 (ih (by omega))
theorem jE.back {N j:Nat} {s s':Fab×Tk cv} (h:jE c i chk N s') (hs:stO c i j s=some s'):jE c i chk (N+1) s:=by
 cases h with
 |stop h1 h2 h3 h4 h5 h6=>exact .stop (.cons j hs h1) h2 h3 (by omega) h5 h6
 | @go _ k k2 _ sf s1 e h1 h2 h3 h4 h5 h6=>exact .go (.cons j hs h1) h2 h3 (by omega) h5 (by rw [show N+1 - (k+1)=N - k by omega];exact h6)
theorem jE.own {k:Nat}:∀ {N:Nat} {s s':Fab×Tk cv},OkP c s→(∃ (sf e:Fab×Tk cv) (k2:Nat),Norm (stO c i) k s sf∧Norm (ey c) k2 (pQ i sf) e∧k+k2≤N∧chk (ro e)∧∃ s1,ey c i sf=some s1∧jE c i chk (N - k) s1)→ey c i s=some s'→jE c i chk N s':=by
 induction k with
 |zero=>
  rintro N s s' hok ⟨sf,e,k2,hn,_,_,_,s1,h1,h2⟩ hs
  cases hn
  rw [h1] at hs
  cases hs
  exact h2
 |succ k ih=>
  rintro N s s' hok ⟨sf,e,k2,hn,hf,hk,hc,s2,h1,h2⟩ hs
  cases hn with
  | @cons _ _ s1 _ j hj hn=>
   obtain ⟨hne,hj'⟩:=lO hj
   have hok1:=(gY c).keep hok hj'
   rcases (gY c).dia hok hj' hs with he | ⟨s3,h3,h4⟩
   ·subst he
    exact .go hn h1 hf (by omega) hc (h2.mono (by omega))
   ·have h5:jE c i chk (N - 1) s3:=ih (N:=N - 1) hok1 ⟨sf,e,k2,hn,hf,by omega,hc,s2,h1,by rw [show N - 1 - k=N - (k+1) by omega];exact h2⟩ h3
    have:=h5.back (uu hne h4)
    rwa [show N - 1+1=N by omega] at this
theorem jE.step {N j:Nat} {s s':Fab×Tk cv} (hok:OkP c s) (h:jE c i chk N s) (hs:ey c j s=some s'):jE c i chk N s':=by
 by_cases hj:j=i
 ·subst hj
  cases h with
  | @stop _ k k2 _ sf e h1 h2 h3 h4 h5 h6=>
   exfalso
   have:∀ {k:Nat} {s s':Fab×Tk cv},OkP c s→Norm (stO c j) k s sf→ey c j s=some s'→False:=by
    intro k
    induction k with
    |zero=>
     intro s s' hok hn hs
     cases hn
     rw [h2] at hs
     cases hs
    |succ k ih=>
     intro s s' hok hn hs
     cases hn with
     | @cons _ _ s1 _ q hq hn=>
      obtain ⟨hne,hq'⟩:=lO hq
      have hok1:=(gY c).keep hok hq'
      rcases (y8 hne hok hq' hs) with ⟨s3,h3⟩
      exact ih hok1 hn h3
   exact this hok h1 hs
  | @go _ k k2 _ sf s1 e h1 h2 h3 h4 h5 h6=>exact jE.own hok ⟨sf,e,k2,h1,h3,h4,h5,s1,h2,h6⟩ hs
 ·cases h with
  |stop h1 h2 h3 h4 h5 h6=>
   obtain ⟨k',rfl,hn⟩:=h1.after (vq c i) hok (uu hj hs)
   exact .stop hn h2 h3 (by omega) h5 h6
  |go h1 h2 h3 h4 h5 h6=>
   obtain ⟨k',rfl,hn⟩:=h1.after (vq c i) hok (uu hj hs)
   exact .go hn h2 h3 (by omega) h5 (h6.mono (by omega))
theorem jE.now {N:Nat} {s:Fab×Tk cv} (h:jE c i chk N s):∃ (k:Nat) (e:Fab×Tk cv),Norm (ey c) k (pQ i s) e∧k≤N∧chk (ro e):=by
 have lift:∀ {k:Nat} {s sf:Fab×Tk cv},Norm (stO c i) k s sf→∀ {k2:Nat} {e:Fab×Tk cv},Norm (ey c) k2 (pQ i sf) e→Norm (ey c) (k+k2) (pQ i s) e:=by
  intro k
  induction k with
  |zero=>
   intro s sf hn k2 e h2
   cases hn
   rw [Nat.zero_add]
   exact h2
  |succ k ih=>
   intro s sf hn k2 e h2
   cases hn with
   | @cons _ _ s1 _ j hj hn=>
    obtain ⟨hne,hj'⟩:=lO hj
    rw [show k+1+k2=k+k2+1 by omega]
    exact .cons j (by rw [xq hne,hj'];rfl) (ih hn h2)
 cases h with
 | @stop _ k k2 _ sf e h1 h2 h3 h4 h5 h6=>exact ⟨k+k2,e,lift h1 h3,h4,h5⟩
 | @go _ k k2 _ sf s1 e h1 h2 h3 h4 h5 h6=>exact ⟨k+k2,e,lift h1 h3,h4,h5⟩
theorem jE.over {N:Nat} {s:Fab×Tk cv} (h:jE c i chk N s) (hs:∀ j,ey c j s=none):chk (ro s):=by
 have:∀ {k:Nat} {sf:Fab×Tk cv},Norm (stO c i) k s sf→sf=s:=by
  intro k sf hn
  cases hn with
  |nil _=>rfl
  |cons j hj _=>
   have:=(lO hj).2
   rw [hs j] at this
   cases this
 cases h with
 |stop h1 h2 h3 h4 h5 h6=>rw [this h1] at h6;exact h6
 |go h1 h2 h3 h4 h5 h6=>
  rw [this h1,hs i] at h2
  cases h2
theorem OkP.fail {s:Fab×Tk cv} (h:OkP c s):OkP c (pQ i s):=by
 obtain ⟨F,t⟩:=s
 refine ⟨h.fine.setN' i λ_=>rfl,?_,h.cl⟩
 have hs:=h.solo
 show Solo c (F.setN i ka)
 rw [vr]
 exact ⟨hs.orph,hs.idle,hs.apart,λC hC=>by simpa using hs.lanes C hC⟩
theorem qd {c:Nat} (cs sch:List Int) {ev:fM} {m:Nat} (hm:ev.at_ % 60=m):∀ (f n:Nat) (F:Fab) (l:List (Tk cv)),m<n→driveGo cs sch [ev] f n F l=driveGo cs sch [] f n F l
 | 0,_,_,_,_=>rfl
 |f+1,n,F,l,h=>by
  unfold driveGo
  have h1:happens F cs n [ev]=F:=by
   unfold happens
   rw [if_neg (by omega)]
   rfl
  have h2:happens F cs n []=F:=rfl
  rw [h1,h2]
  split
  ·exact qd (c:=c) cs sch hm f (n+1) _ _ (by omega)
  ·rfl
theorem vt (cs sch:List Int) {ev:fM} {m:Nat} (hm:ev.at_ % 60=m) (hk:ev.kind % 4=1) (f:Nat) (F:Fab) (l:List (Tk cv)):driveGo cs sch [ev] (f+1) m F l=driveGo cs sch [] (f+1) m (F.setN (ev.a % (F.nodes.length:Int)).toNat ka) l:=by
 unfold driveGo
 have h1:happens F cs m [ev]=F.setN (ev.a % (F.nodes.length:Int)).toNat ka:=by
  unfold happens
  rw [if_pos hm]
  show happens _ cs m []=_
  unfold happens Fab.happen
  rw [if_neg (by omega),if_pos hk]
 have h2:happens (F.setN (ev.a % (F.nodes.length:Int)).toNat ka) cs m []=F.setN (ev.a % (F.nodes.length:Int)).toNat ka:=rfl
 rw [h1,h2]
 split
 ·exact qd (c:=0) cs sch hm f (m+1) _ _ (by omega)
 ·rfl
theorem pq (cs sch:List Int) {ev:fM} {m nn:Nat} (hm:ev.at_ % 60=m) (hk:ev.kind % 4=1) (hi:(ev.a % (nn:Int)).toNat=i) {N:Nat}:∀ (f n:Nat) {F:Fab} {t:Tk cv},OkP c (F,t)→F.nodes.length=nn→jE c i chk N (turn F t)→n≤m→m+N+1<n+f→∃ E:Fab×Tk cv,driveGo cs sch [ev] f n F [t]=(E.1,[E.2])∧chk (ro E)
 | 0,n,F,t,hok,hl,hF,hn,hb=>by omega
 |f+1,n,F,t,hok,hl,hF,hn,hb=>by
  by_cases hnm:n=m
  ·subst hnm
   rw [vt cs sch hm hk,hl,hi]
   obtain ⟨k,e,h1,h2,h3⟩:=hF.now
   have hok2:OkP c (F.setN i ka,t):=OkP.fail (s:=(F,t)) hok
   have h4:Norm (ey c) k (turn (F.setN i ka) t) e:=by rw [uw];exact h1
   exact ⟨e,mI cs sch (f+1) n hok2 h4 (by omega),h3⟩
  ·have hh:happens F cs n [ev]=F:=by
    unfold happens
    rw [if_neg (by omega)]
    rfl
   have hok1:=hok.turn
   unfold driveGo
   rw [hh,tS]
   rcases hok1.solo.rstep sch n with ⟨h1,h2⟩ | ⟨j,F',h1,h2⟩
   ·rw [h1,if_neg (by simp)]
    refine ⟨turn F t,rfl,hF.over λj=>?_⟩
    cases hx:ey c j (turn F t) with
    |none=>rfl
    |some s'=>
     obtain ⟨F',hs,_⟩:=ez.1 hx
     rw [h2 j] at hs
     cases hs
   ·rw [h2,if_pos rfl]
    have hst:ey c j (turn F t)=some (turn F' (turn F t).2):=ez.2 ⟨F',h1,rfl⟩
    refine pq cs sch hm hk hi f (n+1) (OkP.stepL hok1 h1) ?_ (hF.step hok1 hst) (by omega) (by omega)
    have hns:=(uv (ns:=F.nodes) (F:=F) rfl t).2
    obtain ⟨C,l,nd,_,_,_,_,hF'⟩:=dQ.1 h1
    rw [hF']
    simp only [List.length_set]
    rw [hns,hl]
theorem vu {F:Fab} {t:Tk cv} (hok:OkP c (F,t)) {ev:fM} (hk:ev.kind % 4=1) (hi:(ev.a % (F.nodes.length:Int)).toNat=i) {N:Nat} (hF:jE c i chk N (turn F t)) (sch:List Int) {most:Nat} (hb:N+62<most) :
  ∃ E:Fab×Tk cv,drive F [t] sch [ev] most=(E.1,[E.2])∧chk E:=by
 obtain ⟨E,h1,h2⟩:=pq (m:=(ev.at_ % 60).toNat) (nn:=F.nodes.length) ([t].map Tk.client) sch (by omega) hk hi most 0 hok rfl hF (Nat.zero_le _) (by omega)
 refine ⟨ro E,?_,h2⟩
 unfold drive
 rw [h1]
 rfl
end
end Go.Proofs.YtegepanmkjemjaaGreat
namespace Go.Proofs.YtegepanmkjemjaaGreat
open Go.Eng C12
section
variable {cv:Conv}
def CT (x:bJ):bJ:={ x with down:=true }
def ux (i:Nat) (s:St cv):St cv:=(s.1.modify i CT,s.2)
def y9 (s:St cv):St cv:=(s.1,(turn s.2.1 s.2.2).1,(turn s.2.1 s.2.2).2)
theorem v6 (i:Nat) (s:St cv):toP (ux i s)=pQ i (toP s):=by
 unfold toP ux pQ
 simp only
 rw [vr]
 congr 1
 unfold rep
 congr 1
 simp only
 apply List.ext_getElem?
 intro j
 rw [List.getElem?_map,List.getElem?_modify,List.getElem?_modify,List.getElem?_map]
 by_cases h:i=j
 ·subst h
  cases s.1[i]?<;>simp [CT,bJ.s,ka]
 ·simp [h]
theorem OkT.fail {s:St cv} (h:OkT s) (i:Nat):OkT (ux i s):=by
 refine ⟨λx hx=>?_,by simp [ux];exact h.len⟩
 obtain ⟨j,hj⟩:=List.mem_iff_getElem?.1 hx
 simp only [ux] at hj
 rw [List.getElem?_modify] at hj
 cases hs:s.1[j]? with
 |none=>rw [hs] at hj;simp at hj
 |some y=>
  have hy:=h.ok y (List.mem_of_getElem? hs)
  rw [hs] at hj
  by_cases hij:i=j
  ·simp [hij] at hj
   subst hj
   exact ⟨hy.deep,hy.n⟩
  ·simp [hij] at hj
   subst hj
   exact hy
theorem v7 {s:St cv} (h:OkT s):toP (y9 s)=ro (toP s)∧OkT (y9 s):=by
 obtain ⟨h1,h2⟩:=sW (T:=s.1) h.len s.2.2
 refine ⟨?_,h.ok,h2⟩
 unfold toP y9 ro
 simp only
 rw [h1]
def stOT (c i j:Nat) (s:St cv):Option (St cv):=if j=i then none else pn c j s
def og (c i:Nat) (s:St cv):Nat→Nat→Option (St cv)
 | 0,_=>none
 |q+1,j=>match stOT c i j s with
  |some s'=>some s'
  |none=>og c i s q (j+1)
def rp (c i:Nat):Nat→St cv→Option (Nat×St cv)
 | 0,_=>none
 |f+1,s=>match og c i s 5 0 with
  |none=>some (0,s)
  |some s'=>(rp c i f s').map λx=>(x.1+1,x.2)
theorem za {c i j:Nat} {s:St cv} (hf:Fine (rep s.1 s.2.1)) (hs:OkT s):stO c i j (toP s)=(stOT c i j s).map toP∧∀ s',stOT c i j s=some s'→OkT s':=by
 unfold stO stOT
 split
 ·exact ⟨rfl,λs' h=>by cases h⟩
 ·exact po hf hs
theorem qe {c i:Nat} {s s':St cv}:∀ {q j:Nat},og c i s q j=some s'→∃ k,stOT c i k s=some s'
 | 0,j,h=>by cases h
 |q+1,j,h=>by
  unfold og at h
  cases hs:stOT c i j s with
  |some s1=>rw [hs] at h;exact ⟨j,hs.trans h⟩
  |none=>rw [hs] at h;exact qe h
theorem qg {c i:Nat} {s:St cv}:∀ {q j:Nat},og c i s q j=none→∀ k,j≤k→k<j+q→stOT c i k s=none
 | 0,j,h,k,h1,h2=>by omega
 |q+1,j,h,k,h1,h2=>by
  unfold og at h
  cases hs:stOT c i j s with
  |some s1=>rw [hs] at h;cases h
  |none=>
   rw [hs] at h
   by_cases e:k=j
   ·rw [e];exact hs
   ·exact qg h k (by omega) (by omega)
theorem xr {c j:Nat} {s:Fab×Tk cv} (h:Fine s.1) (hj:5≤j):ey c j s=none:=by
 cases hx:ey c j s with
 |none=>rfl
 |some s'=>
  obtain ⟨F',h1,_⟩:=ez.1 hx
  obtain ⟨C,l,n,hC,hl,hn,_⟩:=dQ.1 h1
  have h2:=aX hn
  have h3:=h.good.ok.nodes
  omega
theorem uy {c i:Nat}:∀ {f:Nat} {s sf:St cv} {k:Nat},OkP c (toP s)→OkT s→rp c i f s=some (k,sf)→Norm (stO c i) k (toP s) (toP sf)∧OkP c (toP sf)∧OkT sf
 | 0,s,sf,k,hok,hs,h=>by cases h
 |f+1,s,sf,k,hok,hs,h=>by
  unfold rp at h
  cases hx:og c i s 5 0 with
  |none=>
   rw [hx] at h
   cases h
   refine ⟨.nil λj=>?_,hok,hs⟩
   by_cases hj:j<5
   ·rw [(za (c:=c) (i:=i) (j:=j) hok.fine hs).1,qg hx j (by omega) (by omega)]
    rfl
   ·unfold stO
    split
    ·rfl
    ·exact xr hok.fine (by omega)
  |some s1=>
   rw [hx] at h
   obtain ⟨j,hj⟩:=qe hx
   obtain ⟨h1,h2⟩:=za (c:=c) (i:=i) (j:=j) hok.fine hs
   rw [hj] at h1
   have h1:stO c i j (toP s)=some (toP s1):=h1
   have hok1:=(vq c i).keep hok h1
   simp only at h
   cases hr:rp c i f s1 with
   |none=>rw [hr] at h;cases h
   |some x=>
    rw [hr] at h
    cases h
    obtain ⟨g1,g2,g3⟩:=uy hok1 (h2 s1 hj) (show rp c i f s1=some (x.1,x.2) from hr)
    exact ⟨.cons j h1 g1,g2,g3⟩
def v8 (c i:Nat) (chkB:St cv→Bool):Nat→Nat→St cv→Bool
 | 0,_,_=>false
 |f+1,N,s=>match rp c i 400 s with
  |none=>false
  |some (k,sf)=>(match runT c 400 (ux i sf) with
   |some (k2,e)=>decide (k+k2≤N) && chkB (y9 e)
   |none=>false) && match pn c i sf with
   |none=>chkB (y9 sf)
   |some s1=>v8 c i chkB f (N - k) s1
theorem uz {c i:Nat} {chkB:St cv→Bool} {chk:Fab×Tk cv→Prop} (hchk:∀ x:St cv,chkB x=true→chk (toP x)):∀ {f N:Nat} {s:St cv},OkP c (toP s)→OkT s→v8 c i chkB f N s=true→jE c i chk N (toP s)
 | 0,N,s,hok,hs,h=>by cases h
 |f+1,N,s,hok,hs,h=>by
  unfold v8 at h
  cases hx:rp c i 400 s with
  |none=>rw [hx] at h;cases h
  |some x=>
   obtain ⟨k,sf⟩:=x
   rw [hx] at h
   simp only [Bool.and_eq_true] at h
   obtain ⟨h1,h2⟩:=h
   obtain ⟨g1,g2,g3⟩:=uy hok hs hx
   have hokf:OkP c (toP (ux i sf)):=by rw [v6];exact g2.fail
   cases hr:runT c 400 (ux i sf) with
   |none=>rw [hr] at h1;cases h1
   |some y=>
    obtain ⟨k2,e⟩:=y
    rw [hr] at h1
    simp only [Bool.and_eq_true,decide_eq_true_eq] at h1
    obtain ⟨r1,r2⟩:=y0 (c:=c) 400 hokf (g3.fail i)
    rw [hr] at r1
    have hn:Norm (ey c) k2 (pQ i (toP sf)) (toP e):=by
     rw [←v6]
     exact q0 hokf r1
    have hce:chk (ro (toP e)):=by rw [←(v7 (r2 _ hr)).1];exact hchk _ h1.2
    obtain ⟨q1,q2⟩:=po (c:=c) (j:=i) g2.fine g3
    cases hst:pn c i sf with
    |none=>
     rw [hst] at h2 q1
     exact .stop g1 q1 hn h1.1 hce (by rw [←(v7 g3).1];exact hchk _ h2)
    |some s1=>
     rw [hst] at h2 q1
     have q1:ey c i (toP sf)=some (toP s1):=q1
     exact .go g1 q1 hn h1.1 hce (uz hchk ((gY c).keep g2 q1) (q2 _ hst) h2)
end
structure rq (n:Nat) (E:Fab×Tk conv):Prop where
 len:E.1.nodes.length=n
 lns:E.1.lines=100
 over:E.2.over=true
 bad:E.2.bad=false
 code:(outM E.2).1=0∨(outM E.2).1=4
 fate:1≤(outM E.2).2∧(outM E.2).2≤3
 sure:(outM E.2).1=0→(outM E.2).2=3
 mark:∀ q,q<n→(jU E.1 q).down=false→((outM E.2).2=1→(jU E.1 q).get 48≠22)∧((outM E.2).2=3→(jU E.1 q).get 48=22)
 page:∀ q,q<n→(jU E.1 q).down=false→(outM E.2).2≠3→∀ l,96≤l→l<100→bshr .u64 ((jU E.1 q).page l).Head 8=1∧((jU E.1 q).page l).Data0=0
def AA (f:Int) (x:bJ):Bool:=x.down || ((!(f == 1) || !(x.get 48 == 22)) && ((!(f == 3) || x.get 48 == 22) && (f == 3 || (List.range 4).all λl=>bshr .u64 (x.get ((96+l) * 8)) 8 == 1 && x.get ((96+l) * 8+1) == 0)))
def B8 (n:Nat) (s:St conv):Bool:=decide (s.1.length=n∧s.2.1.lines=100) && (s.2.2.over && (!s.2.2.bad && (((outM s.2.2).1 == 0 || (outM s.2.2).1 == 4) && (decide (1≤(outM s.2.2).2∧(outM s.2.2).2≤3) && ((!((outM s.2.2).1 == 0) || (outM s.2.2).2 == 3) && s.1.all (AA (outM s.2.2).2))))))
theorem AB {n:Nat} {s:St conv} (h:B8 n s=true):rq n (toP s):=by
 simp only [B8,Bool.and_eq_true,decide_eq_true_eq,Bool.not_eq_true',Bool.or_eq_true,beq_iff_eq,List.all_eq_true] at h
 obtain ⟨⟨h1,h2⟩,h3,h4,h5,h6,h7,h8⟩:=h
 have hq:∀ q,q<n→(jU (toP s).1 q).down=false→AA (outM s.2.2).2 (rN s.1 q)=true∧(rN s.1 q).down=false:=λq hq hd=>by
  have hm:rN s.1 q ∈ s.1:=by
   unfold rN
   rw [List.getD_eq_getElem?_getD,List.getElem?_eq_getElem (by omega)]
   exact List.getElem_mem (by omega)
  have e:jU (toP s).1 q=(rN s.1 q).s:=rn _ _ _
  rw [e] at hd
  exact ⟨h8 _ hm,hd⟩
 have e:∀ q,jU (toP s).1 q=(rN s.1 q).s:=λq=>rn _ _ _
 refine ⟨by simpa [toP,rep] using h1,h2,h3,h4,h5,h6,λh=>?_,λq hqn hd=>?_,λq hqn hd hf l hl hl2=>?_⟩
 ·rcases h7 with h7 | h7
  ·have h:(outM s.2.2).1=0:=h
   rw [h] at h7
   simp at h7
  ·exact h7
 ·obtain ⟨g1,g2⟩:=hq q hqn hd
  rw [e,bJ.s_get]
  simp only [AA,g2,Bool.false_or,Bool.and_eq_true,Bool.or_eq_true,Bool.not_eq_true',beq_iff_eq,beq_eq_false_iff_ne] at g1
  refine ⟨λhf=>?_,λhf=>?_⟩
  ·have hf:(outM s.2.2).2=1:=hf
   exact g1.1.elim (λh=>absurd hf h) id
  ·have hf:(outM s.2.2).2=3:=hf
   exact g1.2.1.elim (λh=>absurd hf h) id
 ·obtain ⟨g1,g2⟩:=hq q hqn hd
  have hf:(outM s.2.2).2≠3:=hf
  simp only [AA,g2,Bool.false_or,Bool.and_eq_true,Bool.or_eq_true,Bool.not_eq_true',beq_iff_eq,beq_eq_false_iff_ne,List.all_eq_true,List.mem_range] at g1
  have g3:=(g1.2.2.resolve_left hf) (l - 96) (by omega)
  rw [show 96+(l - 96)=l by omega] at g3
  rw [e,v5]
  exact g3
def vv (n a:Nat):Tk conv:=ul 0 5 100 n [] (sV n a)
def rr (n a:Nat):Tk conv:=ul 0 5 100 n [] (CS n a)
theorem v9 (n a:Nat):vv n a=rr n a:=by
 unfold vv rr sV CS
 rw [vp,B7]
def zb (n a i:Nat):Bool:=uh (Fab.fresh n 6 100) && v8 0 i (B8 n) 100 1000 (nP n 100,(turn (Fab.fresh n 6 100) (rr n a)).1,(turn (Fab.fresh n 6 100) (rr n a)).2)
def sX:Prop:=∀ (n a:Nat),1≤n∧n≤3→a<14→∀ (ev:fM),ev.kind % 4=1→∀ sch:List Int,∃ E:Fab×Tk conv,drive (Fab.fresh n 6 100) [vv n a] sch [ev] 5000=(E.1,[E.2])∧Fine E.1∧rq n E
theorem B9 (hA:∀ n a i,1≤n∧n≤3→a<14→i<n→zb n a i=true):sX:=by
 intro n a hn ha ev hk sch
 have hf:Fine (Fab.fresh n 6 100):=Fine.fresh (by omega) (by omega) (by omega)
 have hre:=ut (n:=n) (lines:=100) (by omega)
 have hnl:(Fab.fresh n 6 100).nodes.length=n:=by simp [Fab.fresh]
 have e1:=Int.emod_nonneg ev.a (b:=(n:Int)) (by omega)
 have e2:=Int.emod_lt_of_pos ev.a (b:=(n:Int)) (by omega)
 obtain ⟨i,hi,hin⟩:∃ i:Nat,(ev.a % (n:Int)).toNat=i∧i<n:=⟨_,rfl,by omega⟩
 have h:=hA n a i hn ha hin
 unfold zb at h
 rw [Bool.and_eq_true] at h
 obtain ⟨hq,h⟩:=h
 have hok:OkP 0 (Fab.fresh n 6 100,vv n a):=⟨hf,yM hq 0,rfl⟩
 obtain ⟨t1,t2⟩:=sW (cv:=conv) (T:=nP n 100) (F:=Fab.fresh n 6 100) (xn n 100) (rr n a)
 rw [hre] at t1
 have hok1:=hok.turn
 rw [v9,t1] at hok1
 have hF:=uz (c:=0) (i:=i) (chk:=rq n) (λx hx=>AB hx) (s:=(nP n 100,(turn (Fab.fresh n 6 100) (rr n a)).1,(turn (Fab.fresh n 6 100) (rr n a)).2)) hok1 ⟨y5 (by omega),t2⟩ h
 have hF':jE 0 i (rq n) 1000 (turn (Fab.fresh n 6 100) (vv n a)):=by
  rw [v9,t1]
  exact hF
 obtain ⟨E,h1,h2⟩:=vu hok hk (by rw [hnl];exact hi) hF' sch (most:=5000) (by omega)
 refine ⟨E,h1,?_,h2⟩
 have:=Fine.drive hf [vv n a] sch [ev] 5000
 rw [h1] at this
 exact this
end Go.Proofs.YtegepanmkjemjaaGreat
