import Derived.Test.YtgpmeaicjonenaaGreata32
import Derived.Test.YtgpmeaicjonenaaGreata29
set_option linter.unusedVariables false
namespace Go.Proofs.YtgpmeaicjonenaaGreat
open Go.Eng C12
theorem AV {f g:Nat→Nat}:∀ {l:List Nat},(∀ k ∈ l,f k≤g k)→(l.map f).sum≤(l.map g).sum
 | [],_=>by simp
 |a::l,h=>by
  have:=AV λk hk=>h k (List.mem_cons_of_mem _ hk)
  have:=h a List.mem_cons_self
  simp only [List.map_cons,List.sum_cons]
  omega
theorem Db {f g:Nat→Nat}:∀ {l:List Nat},(∀ k ∈ l,f k≤g k)→∀ {i:Nat},i ∈ l→f i<g i→(l.map f).sum<(l.map g).sum
 | [],_,_,hi,_=>by cases hi
 |a::l,h,i,hi,hl=>by
  have h1:=AV λk hk=>h k (List.mem_cons_of_mem _ hk)
  have h2:=h a List.mem_cons_self
  simp only [List.map_cons,List.sum_cons]
  rcases List.mem_cons.1 hi with e | e
  ·subst e
   omega
  ·have:=Db (λk hk=>h k (List.mem_cons_of_mem _ hk)) e hl
   omega
def wt (ids:List Nat) (F:Fab) (S:Nat→CS):Nat:=(ids.map λi=>eK F i+rk (S i).ph).sum
theorem pZ {E:Env} (hE:eU E):∀ (l:List (Tk conv)) {pre:List (Tk conv)} {F:Fab} {S:Nat→CS},Inv E F (pre++l) S→∃ S',Inv E (turns F l).1 (pre++(turns F l).2) S'∧wt E.ids (turns F l).1 S'≤wt E.ids F S∧
   (∀ k i:Nat,k<pre.length→E.ids[k]?=some i→S' i=S i∧(turns F l).1.clients[i]?=F.clients[i]?)∧(∀ k i:Nat,pre.length≤k→E.ids[k]?=some i→Prog (turns F l).1 i (S' i))∧((∀ i,E.on i→(S i).ph=6∨(S i).ph=7)→∀ i,E.on i→(S' i).ph=(S i).ph)∧∀ i,mn (E.J i) (S i)→mn (E.J i) (S' i)
 | [],pre,F,S,h=>by
  refine ⟨S,h,Nat.le_refl _,λk i _ _=>⟨rfl,rfl⟩,λk i h1 h2=>?_,λ_ k _=>rfl,λ_ g=>g⟩
  have:=h.tl
  have:=aN h2
  simp at *
  omega
 |t::l,pre,F,S,h=>by
  have htl:=h.tl
  rw [List.length_append,List.length_cons] at htl
  obtain ⟨i,hid⟩:∃ i,E.ids[pre.length]?=some i:=⟨_,List.getElem?_eq_getElem (by omega)⟩
  have hi:E.on i:=List.mem_of_getElem? hid
  have ht:(pre++t::l)[pre.length]?=some t:=by rw [List.getElem?_append_right (Nat.le_refl _),Nat.sub_self];rfl
  have hpos:∀ {k:Nat},E.ids[k]?=some i→k=pre.length:=λ{k} hk=>(List.getElem?_inj (aN hk) hE.ids).1 (hk.trans hid.symm)
  obtain ⟨s',hT⟩:=turned hE h hid ht
  obtain ⟨C',hC',hcli⟩:=hT.cli
  have hinv:Inv E (turn F t).1 ((pre++[(turn F t).2])++l) (updS S i s'):=by
   refine ⟨h.fine.turn t,hT.lines.trans h.lines,by rw [hT.nodes];exact hT.mem,by simp;omega,λk hk=>?_,λk C hk hC=>?_,hT.orph.trans h.orph,λk hk=>?_⟩
   ·by_cases e:k=i
    ·subst e
     refine ⟨C',(turn F t).2,hC',λq hq=>?_,by rw [bQ];exact hcli⟩
     rw [hpos hq,List.append_assoc,List.getElem?_append_right (Nat.le_refl _),Nat.sub_self]
     rfl
    ·obtain ⟨C,t0,g1,g2,g3⟩:=h.cli k hk
     refine ⟨C,t0,by rw [hT.other k e];exact g1,λq hq=>?_,by rw [eF e];exact g3⟩
     rw [←g2 q hq,List.append_assoc]
     have hne:q≠pre.length:=λe2=>by rw [e2,hid] at hq;cases hq;exact e rfl
     by_cases hlt:q<pre.length
     ·rw [List.getElem?_append_left hlt,List.getElem?_append_left hlt]
     ·obtain ⟨z,hz⟩:∃ z,q - pre.length=z+1:=⟨q - pre.length - 1,by omega⟩
      rw [List.getElem?_append_right (l₁:=pre) (l₂:=[(turn F t).2]++l) (show pre.length≤q by omega),List.getElem?_append_right (l₁:=pre) (l₂:=t::l) (show pre.length≤q by omega),hz]
      rfl
   ·rw [hT.other k (λe=>hk (by rw [e];exact hi))] at hC
    exact h.rest k C hk hC
   ·by_cases e:k=i
    ·subst e
     exact ⟨C',hC'⟩
    ·rw [hT.other k e]
     exact h.six k hk
  obtain ⟨S',g1,g2,g4,g5,g6,g7⟩:=pZ hE l hinv
  have hw:wt E.ids (turn F t).1 (updS S i s')≤wt E.ids F S:=by
   refine AV λk hk=>?_
   by_cases e:k=i
   ·subst e
    rw [bQ]
    exact hT.wt
   ·rw [eF e]
    have:eK (turn F t).1 k=eK F k:=by unfold eK;rw [hT.other k e]
    rw [this]
    exact Nat.le_refl _
  have hun:turns F (t::l)=((turns (turn F t).1 l).1,(turn F t).2::(turns (turn F t).1 l).2):=rfl
  rw [hun]
  refine ⟨S',by rw [List.append_assoc] at g1;exact g1,Nat.le_trans g2 hw,λk i' hk hi'=>?_,λk i' h1 h2=>?_,λhall k hk=>?_,λk g=>g7 k ?_⟩
  ·have hne:i'≠i:=λe=>by rw [e] at hi';have:=hpos hi';omega
   obtain ⟨a,b⟩:=g4 k i' (by simp;omega) hi'
   rw [eF hne] at a
   exact ⟨a,b.trans (hT.other i' hne)⟩
  ·by_cases e:k=pre.length
   ·subst e
    rw [hid] at h2
    cases h2
    obtain ⟨a,b⟩:=g4 pre.length i (by simp) hid
    rw [bQ] at a
    rw [a]
    unfold Prog
    simp only
    rw [b]
    exact hT.prog
   ·exact g5 k i' (by simp;omega) h2
  ·obtain ⟨a,_⟩:=hT.stay (hall i hi)
   have hall':∀ k,E.on k→(updS S i s' k).ph=6∨(updS S i s' k).ph=7:=λk hk=>by
    by_cases e:k=i
    ·subst e;rw [bQ,a];exact hall _ hk
    ·rw [eF e];exact hall k hk
   rw [g6 hall' k hk]
   by_cases e:k=i
   ·subst e;rw [bQ,a]
   ·rw [eF e]
  ·by_cases e:k=i
   ·subst e;rw [bQ];exact hT.one g
   ·rw [eF e];exact g
theorem AW {E:Env} (hE:eU E) {F:Fab} {ts:List (Tk conv)} {S:Nat→CS} (h:Inv E F ts S) (sch:List Int) (n:Nat) :
  (rstep F sch n=(false,F)∧∀ i,E.on i→∀ C,F.clients[i]?=some C→hO C)∨∃ i m F',E.on i∧stepL i m F=some F'∧rstep F sch n=(true,F'):=by
 have hlane:∀ {i m:Nat} {C:Comp} {l:Lane},F.clients[i]?=some C→C.lanes[m]?=some l→l.pair.verbs≠[]→E.on i∧∃ F',stepL i m F=some F':=λ{i m C l} hC hl hv=>by
  have hi:E.on i:=by
   by_cases g:E.on i
   ·exact g
   ·exact absurd ((h.rest i C g hC).quiet m l hl) hv
  refine ⟨hi,?_⟩
  obtain ⟨C0,t,g1,_,g3⟩:=h.cli i hi
  rw [hC] at g1
  cases g1
  have hm:m<F.nodes.length:=by rw [h.mem.len,←g3.lanes];exact aN hl
  have hvl:l.pair.verbs.length≠0:=λe=>hv (List.length_eq_zero_iff.1 e)
  exact ⟨_,fC.2 ⟨C,l,_,hC,hl,List.getElem?_eq_getElem hm,hvl,rfl⟩⟩
 unfold Go.Proofs.YtgpmeaicjonenaaGreat.rstep
 cases hx:F.choices[oV F sch n]? with
 |some x=>
  have hm:=List.mem_of_getElem? hx
  unfold Fab.choices at hm
  rw [h.orph] at hm
  rcases List.mem_append.1 hm with hm | hm
  ·obtain ⟨i,C,hC,hm⟩:=iz.1 hm
   obtain ⟨m,l,hl,hv,rfl⟩:=iy.1 hm
   rw [Nat.zero_add] at hm ⊢
   rw [Nat.zero_add] at hm ⊢
   obtain ⟨hi,F',hs⟩:=hlane hC hl (λe=>by rw [e] at hv;simp at hv)
   exact .inr ⟨i,m,F',hi,hs,qG hs⟩
  ·simp [eY] at hm
 |none=>
  refine .inl ⟨rfl,λi hi C hC k l hl=>?_⟩
  cases hv:l.pair.verbs with
  |nil=>rfl
  |cons v vs=>
   exfalso
   obtain ⟨_,F',hs⟩:=hlane hC hl (by rw [hv];simp)
   have hm:=sn hs
   have hpos:0<F.choices.length:=List.length_pos_of_mem hm
   have hlt:oV F sch n<F.choices.length:=by
    unfold oV
    split
    ·have h1:=Int.emod_nonneg (sch.getD n 0) (b:=(F.choices.length:Int)) (by omega)
     have h2:=Int.emod_lt_of_pos (sch.getD n 0) (b:=(F.choices.length:Int)) (by omega)
     omega
    ·exact hpos
   rw [List.getElem?_eq_getElem hlt] at hx
   cases hx
theorem Dc {E:Env} (hE:eU E) (cs sch:List Int):∀ (f n:Nat) {F:Fab} {ts:List (Tk conv)} {S:Nat→CS},Inv E F ts S→wt E.ids F S<f→∃ S',Inv E (driveGo cs sch [] f n F ts).1 (driveGo cs sch [] f n F ts).2 S'∧(∀ i,E.on i→(S' i).ph=6∨(S' i).ph=7)∧∀ i,E.ids=[i]→mn (E.J i) (S i)→mn (E.J i) (S' i)
 | 0,n,F,ts,S,h,hw=>by omega
 |f+1,n,F,ts,S,h,hw=>by
  obtain ⟨S1,g1,g2,_,g5,_,g7⟩:=pZ hE ts (pre:=[]) h
  rw [List.nil_append] at g1
  unfold driveGo
  have hh:happens F cs n []=F:=rfl
  rw [hh]
  rcases AW hE g1 sch n with ⟨e,hq⟩ | ⟨i,m,F',hi,hs,e⟩
  ·rw [e,if_neg (by simp)]
   refine ⟨S1,g1,λi hi=>?_,λi _ g=>g7 i g⟩
   obtain ⟨k,hk⟩:=List.mem_iff_getElem?.1 hi
   rcases g5 k i (Nat.zero_le _) hk with a | a | ⟨_,C,hC,hnq⟩
   ·exact .inl a
   ·exact .inr a
   ·exact absurd (hq i hi C hC) hnq
  ·rw [e,if_pos rfl]
   obtain ⟨s',k1,k2,k8,C,C',k3,k4,k5,k6⟩:=xY hE g1 hi hs
   have hlt:wt E.ids F' (updS S1 i s')<wt E.ids (turns F ts).1 S1:=by
    refine Db (i:=i) (λk hk=>?_) hi ?_
    ·by_cases ek:k=i
     ·subst ek
      rw [bQ,k2]
      unfold eK
      rw [k3,k4]
      simp only
      omega
     ·rw [eF ek]
      have:eK F' k=eK (turns F ts).1 k:=by unfold eK;rw [k6 k ek]
      rw [this]
      exact Nat.le_refl _
    ·show eK F' i+rk (updS S1 i s' i).ph<eK (turns F ts).1 i+rk (S1 i).ph
     rw [bQ,k2]
     unfold eK
     rw [k3,k4]
     simp only
     omega
   obtain ⟨S',m1,m2,m3⟩:=Dc hE cs sch f (n+1) k1 (show wt E.ids F' (updS S1 i s')<f by omega)
   refine ⟨S',m1,m2,λc hc g=>m3 c hc ?_⟩
   have hci:i=c:=by have:i ∈ E.ids:=hi;rw [hc] at this;exact List.mem_singleton.1 this
   subst hci
   rw [bQ]
   exact k8 hc (g7 i g)
theorem AX {E:Env} (hE:eU E) {F:Fab} {ts:List (Tk conv)} {S:Nat→CS} (h:Inv E F ts S) (sch:List Int) {most:Nat} (hw:wt E.ids F S<most):∃ S',Inv E (drive F ts sch [] most).1 (drive F ts sch [] most).2 S'∧(∀ i,E.on i→(S' i).ph=6∨(S' i).ph=7)∧∀ i,E.ids=[i]→mn (E.J i) (S i)→(S' i).ph=6:=by
 unfold drive
 obtain ⟨S1,g1,g2,g3⟩:=Dc hE (ts.map Tk.client) sch most 0 h hw
 obtain ⟨S2,k1,_,_,_,k6,k7⟩:=pZ hE _ (pre:=[]) g1
 rw [List.nil_append] at k1
 have h67:∀ i,E.on i→(S2 i).ph=6∨(S2 i).ph=7:=λi hi=>by rw [k6 g2 i hi];exact g2 i hi
 refine ⟨S2,k1,h67,λi hi g=>?_⟩
 have:=k7 i (g3 i hi g)
 exact (h67 i (by unfold Env.on;rw [hi];exact List.mem_singleton_self _)).resolve_right this.2.1
end Go.Proofs.YtgpmeaicjonenaaGreat
namespace Go.Proofs.YtgpmeaicjonenaaGreat
open Go.Eng C12
structure xg (n L:Nat) (base:Nat→Nat→Int) (bc:Nat→Int) (F:Fab):Prop where
 fine:Fine F
 lines:F.lines=L
 len:F.nodes.length=n
 fix:∀ (m:Nat) (x:aP),F.nodes[m]?=some x→NFix L x
 heap:∀ l:Nat,96≤l→l<L→∀ (m:Nat) (x:aP),F.nodes[m]?=some x→∀ k,k<8→x.get (l * 8+k)=base l k
 clock:∀ c:Nat,c<6→∀ (m:Nat) (x:aP),F.nodes[m]?=some x→x.get (32+c)=bc c
 cli:∀ (i:Nat) (C:Comp),F.clients[i]?=some C→Cu n C
 six:∀ k:Nat,k<6→∃ C,F.clients[k]?=some C
 orph:F.orphans=[]
def xh (E:Env) (dn:Nat→Bool) (l:Nat):Option aG:=(E.ids.filter dn).findSome? λi=>(E.J i).writes.find? λp=>p.Line.toNat == l
def uH (E:Env) (dn:Nat→Bool) (l k:Nat):Int:=match xh E dn l with
 |some p=>(appL p).getD k 0
 |none=>E.base l k
def Fm (E:Env) (dn:Nat→Bool) (c:Nat):Int:=if E.ids.contains c && dn c then (E.J c).seq else E.bc c
theorem y7 {E:Env} {dn:Nat→Bool} {l:Nat} {p:aG} (h:xh E dn l=some p):∃ i,E.on i∧dn i=true∧p ∈ (E.J i).writes∧p.Line.toNat=l:=by
 obtain ⟨i,hi,hp⟩:=List.exists_of_findSome?_eq_some h
 obtain ⟨h1,h2⟩:=List.mem_filter.1 hi
 have h3:=List.mem_of_find?_eq_some hp
 have h4:=List.find?_some hp
 exact ⟨i,h1,h2,h3,by simpa using h4⟩
theorem y8 {E:Env} {dn:Nat→Bool} {l:Nat} (h:xh E dn l=none) {i:Nat} (hi:E.on i) (hd:dn i=true) {p:aG} (hp:p ∈ (E.J i).writes):p.Line.toNat≠l:=λe=>by
 unfold xh at h
 rw [List.findSome?_eq_none_iff] at h
 have:=h i (List.mem_filter.2 ⟨hi,hd⟩)
 rw [List.find?_eq_none] at this
 exact this p hp (by simpa using e)
def st8:Nat→CS:=λ_=>⟨8,noD,[]⟩
theorem xg.start {E:Env} (hE:eU E) {F:Fab} (h:xg E.n E.L E.base E.bc F) {ts:List (Tk conv)} (hl:ts.length=E.ids.length) (ht:∀ k i:Nat,E.ids[k]?=some i→∃ t,ts[k]?=some t∧t.client=(i:Int)∧t.job=E.J i∧t.bad=false∧t.over=false∧t.got=[])
  (htr:E.tr=true→∀ (i:Nat) (C:Comp),F.clients[i]?=some C→C.trips=0):Inv E F ts st8:=by
 refine ⟨h.fine,h.lines,?_,hl,λi hi=>?_,λi C _ hC=>h.cli i C hC,h.orph,h.six⟩
 ·refine ⟨h.len,h.fix,λi _ p _ m x _ c=>c.elim,λi _ p _ x _ c=>c.elim,λl h1 h2 m x hx _ k hk=>h.heap l h1 h2 m x hx k hk,λi i' _ _ _ p _ p' _ _ c=>?_,λi hi m x hx=>⟨λc=>c.elim,λ_=>h.clock i (hE.job i hi).i6 m x hx⟩,λi _ p _ c=>c.elim,λc h6 _ m x hx=>h.clock c h6 m x hx⟩
  rcases c with c | ⟨_,_,c⟩
  ·exact c.elim
  ·exact c.elim
 ·obtain ⟨C,hC⟩:=h.six i (hE.job i hi).i6
  obtain ⟨k,hk⟩:=List.mem_iff_getElem?.1 hi
  obtain ⟨t,h1,h2,h3,h4,h5,h6⟩:=ht k i hk
  have hc:=h.cli i C hC
  refine ⟨C,t,hC,λq hq=>?_,h2,h3,h4,hc.inc,hc.live,hc.lanes,by show 8≤8;omega,hc.dry,λe=>absurd e (by show ¬ 8≤5;omega),λe=>absurd e (by show ¬ (8=6∨8=7);omega),λ_=>⟨h5,h6,hc.batch,hc.quiet⟩,λa _ _=>htr a i C hC⟩
  have:q=k:=(List.getElem?_inj (aN hq) hE.ids).1 (hq.trans hk.symm)
  rw [this]
  exact h1
structure Left (E:Env) (F:Fab) (dn:Nat→Bool) (i:Nat) (t:Tk conv):Prop where
 client:t.client=(i:Int)
 job:t.job=E.J i
 bad:t.bad=false
 over:t.over=true
 out:t.out=if dn i=true then ((0:Int),(3:Int)) else ((7:Int),(1:Int))
 trips:E.tr=true→dn i=true→∃ C,F.clients[i]?=some C∧C.trips=if E.n=1 then 4 else 5
structure Round (E:Env) (r:Fab×List (Tk conv)) (dn:Nat→Bool):Prop where
 still:xg E.n E.L (uH E dn) (Fm E dn) r.1
 len:r.2.length=E.ids.length
 left:∀ k i:Nat,E.ids[k]?=some i→∃ t,r.2[k]?=some t∧Left E r.1 dn i t
 excl:∀ i i',E.on i→E.on i'→i≠i'→dn i=true→dn i'=true→∀ p ∈ (E.J i).writes,∀ p' ∈ (E.J i').writes,p.Line.toNat≠p'.Line.toNat
 one:∀ i,E.ids=[i]→dn i=true
theorem Inv.round {E:Env} (hE:eU E) {r:Fab×List (Tk conv)} {S:Nat→CS} (h:Inv E r.1 r.2 S) (h67:∀ i,E.on i→(S i).ph=6∨(S i).ph=7) (h1:∀ i,E.ids=[i]→(S i).ph=6):Round E r λi=>(S i).ph == 6:=by
 have hN:∀ i,(S i).ph=6→∀ m p,Nw (E.J i) (S i) m p:=λi e m p=>by
  unfold Nw
  rw [e]
  trivial
 have hK:∀ i,(S i).ph=6→∀ m,Ck (E.J i) i (S i) m:=λi e m=>by
  unfold Ck
  rw [e]
  trivial
 have hno:∀ i,(S i).ph=7→∀ m p,¬ Nw (E.J i) (S i) m p:=λi e m p=>by
  unfold Nw
  rw [e]
  exact id
 have hnk:∀ i,(S i).ph=7→∀ m,¬ Ck (E.J i) i (S i) m:=λi e m=>by
  unfold Ck
  rw [e]
  exact id
 have hnl:∀ i,(S i).ph=6∨(S i).ph=7→∀ p,¬ Lk (E.J i) i (S i) p:=λi e p=>by
  unfold Lk
  rcases e with e | e<;>(rw [e];exact id)
 refine ⟨⟨h.fine,h.lines,h.mem.len,h.mem.fix,λl h2 h3 m x hx k hk=>?_,λc h6 m x hx=>?_,λi C hC=>?_,h.six,h.orph⟩,h.tl,λk i hk=>?_,λi i' hi hi' hne hd hd' p hp p' hp' e=>?_,λi e=>by simpa using h1 i e⟩
 ·unfold uH
  cases hw:xh E (λi=>(S i).ph == 6) l with
  |some p=>
   obtain ⟨i,hi,hd,hp,hl⟩:=y7 hw
   have:=h.mem.new i hi p hp m x hx (hN i (by simpa using hd) m p) k hk
   rw [hl] at this
   exact this
  |none=>
   refine h.mem.free l h2 h3 m x hx (λi hi p hp hl=>⟨?_,λ_=>hnl i (h67 i hi) p⟩) k hk
   rcases h67 i hi with e | e
   ·exact absurd hl (y8 hw hi (by simpa using e) hp)
   ·exact hno i e m p
 ·unfold Fm
  by_cases hi:E.on c
  ·have hm:E.ids.contains c=true:=List.contains_iff_mem.2 hi
   obtain ⟨a,b⟩:=h.mem.clock c hi m x hx
   rcases h67 c hi with e | e
   ·rw [if_pos (by rw [hm];simpa using e)]
    exact a (hK c e m)
   ·rw [if_neg (by simp [e])]
    exact b (hnk c e m)
  ·have hm:E.ids.contains c=false:=by
    rw [Bool.eq_false_iff]
    intro e
    exact hi (List.contains_iff_mem.1 e)
   rw [hm,Bool.false_and,if_neg (by simp)]
   exact h.mem.oth c h6 hi m x hx
 ·by_cases hi:E.on i
  ·obtain ⟨C',t,g1,_,g⟩:=h.cli i hi
   rw [hC] at g1
   cases g1
   obtain ⟨_,⟨g2,g3⟩,_⟩:=g.stop (h67 i hi)
   exact ⟨g2,g3,g.inc,g.live,g.lanes,g.dry⟩
  ·exact h.rest i C hi hC
 ·have hi:E.on i:=List.mem_of_getElem? hk
  obtain ⟨C,t,g1,g2,g⟩:=h.cli i hi
  obtain ⟨g3,_,g4,g5⟩:=g.stop (h67 i hi)
  refine ⟨t,g2 k hk,g.cl,g.job,g.bad,g3,?_,λa b=>⟨C,g1,?_⟩⟩
  ·rcases h67 i hi with e | e
   ·rw [if_pos (by simpa using e)]
    exact g4 e
   ·rw [if_neg (by rw [e];simp)]
    exact g5 e
  ·have b:(S i).ph=6:=by simpa using b
   have:=g.trips a (by omega) (by omega)
   rw [b] at this
   rw [this]
   show ((if E.n=1 then 4 else 5:Nat):Int)=_
   split<;>rfl
 ·have hd:(S i).ph=6:=by simpa using hd
  have hd':(S i').ph=6:=by simpa using hd'
  have hn:=hE.n.1
  exact h.mem.excl i i' hi hi' hne p hp p' hp' e (.inr ⟨0,by omega,hN i hd 0 p⟩) (.inr ⟨0,by omega,hN i' hd' 0 p'⟩)
theorem xg.drive {E:Env} (hE:eU E) {F:Fab} (h:xg E.n E.L E.base E.bc F) {ts:List (Tk conv)} (hl:ts.length=E.ids.length) (ht:∀ k i:Nat,E.ids[k]?=some i→∃ t,ts[k]?=some t∧t.client=(i:Int)∧t.job=E.J i∧t.bad=false∧t.over=false∧t.got=[])
  (htr:E.tr=true→∀ (i:Nat) (C:Comp),F.clients[i]?=some C→C.trips=0) (sch:List Int) {most:Nat} (h6:E.ids.length≤6) (hm:4200<most):∃ dn,Round E (drive F ts sch [] most) dn:=by
 have hi:=h.start hE hl ht htr
 have hw:wt E.ids F st8≤4200:=by
  have:∀ l:List Nat,(l.map λi=>eK F i+rk (st8 i).ph).sum≤l.length * 700:=λl=>by
   induction l with
   |nil=>simp
   |cons i l ih=>
    rw [List.map_cons,List.sum_cons,List.length_cons,Nat.succ_mul]
    have e:eK F i=0:=by
     unfold eK
     cases hC:F.clients[i]? with
     |none=>rfl
     |some C=>exact kJ (h.cli i C hC).quiet
    have e2:rk (st8 i).ph=700:=rfl
    rw [e,e2]
    omega
  have:=this E.ids
  unfold wt
  omega
 obtain ⟨S,g1,g2,g3⟩:=AX hE hi sch (most:=most) (by omega)
 refine ⟨_,g1.round hE g2 λi e=>g3 i e ⟨by show 8≠5;omega,by show 8≠7;omega,λe=>absurd e (by show ¬ 8=1;omega)⟩⟩
end Go.Proofs.YtgpmeaicjonenaaGreat
namespace Go.Proofs.YtgpmeaicjonenaaGreat
open Go.Eng
structure FJob where
 total:Int
 v:Vw
 lines:List Int
def ascF (l:List Int) (i:Nat):Bool:=decide (i=0) || decide (l.getD (i - 1) 0<l.getD i 0)
def FJob.valid (j:FJob):Int:=
 if j.v.valid 5≠0 then j.v.valid 5 else if j.total<98∨256<j.total∨1024<j.lines.length then 18
 else if j.lines.all (fR · j.total)=false then 2 else if (List.range j.lines.length).all (ascF j.lines)=false then 1 else 0
def m0F (v:Vw):aE:=v.mem.getD 0 noM
def fetV (j:FJob):List Verb:=j.lines.map λl=>addr j.v.number (m0F j.v) ⟨1,0,l * 8,8,0,0,[],0,0⟩
def pgW (line:Int) (ws:List Int):aG:=⟨line,ws.getD 0 0,ws.getD 1 0,ws.getD 2 0,ws.getD 3 0,ws.getD 4 0,ws.getD 5 0,ws.getD 6 0,ws.getD 7 0⟩
def lg (lines:List Int) (ds:List Done):List aG:=(lines.zip ds).map λp=>pgW p.1 p.2.words
def eV (j:FJob) (G:List (List Done)):List Verb×(Int×List aG)×Bool:=
 if j.valid≠0 then ([],(j.valid,[]),true)
 else match (batch G (fetV j)).ask with
  |some vs=>(vs,(0,[]),false)
  |none=>if (batch G (fetV j)).ok=false∨(batch G (fetV j)).wrong=true∨0<(batch G (fetV j)).got.length then ([],(6,[]),true)
   else if fT (batch G (fetV j)).done≠0 then ([],(fT (batch G (fetV j)).done,[]),true) else ([],(0,lg j.lines (batch G (fetV j)).done),true)
namespace C16
def conv:Conv:=⟨CJob ⊕ FJob,(Int×Int) ⊕ (Int×List aG),λj G=>match j with
 | .inl j=>((bZ j G).1,.inl (bZ j G).2.1,(bZ j G).2.2)
 | .inr f=>((eV f G).1,.inr (eV f G).2.1,(eV f G).2.2)⟩
def up (t:Tk C12.conv):Tk conv:=⟨t.client,.inl t.job,t.got,t.over,t.bad,.inl t.out⟩
theorem up_fed (t:Tk C12.conv) (o:Option (List Done)):(up t).fed o=up (t.fed o):=by cases o<;>rfl
end C16
end Go.Proofs.YtgpmeaicjonenaaGreat
namespace Go.Proofs.YtgpmeaicjonenaaGreat
open Go.Eng C12
structure Msk (k:Nat) (F G:Fab):Prop where
 nodes:G.nodes=F.nodes
 lines:G.lines=F.lines
 orph:G.orphans=[]
 len:G.clients.length=6
 here:∃ C,F.clients[k]?=some C∧G.clients[k]?=some C
 rest:∀ (i:Nat) (C:Comp),i≠k→G.clients[i]?=some C→C=gI F.nodes.length i
section
variable {k:Nat} {F F' G:Fab}
theorem Msk.put (h:Msk k F G) (C':Comp) {ns:List aP} (hn:ns.length=F.nodes.length):Msk k { F with nodes:=ns,clients:=F.clients.set k C' } { G with nodes:=ns,clients:=G.clients.set k C' }:=by
 obtain ⟨C,h1,h2⟩:=h.here
 refine ⟨rfl,h.lines,h.orph,by simpa using h.len,⟨C',List.getElem?_set_self (aN h1),List.getElem?_set_self (aN h2)⟩,λi C2 hi hC2=>?_⟩
 have e:(G.clients.set k C')[i]?=G.clients[i]?:=List.getElem?_set_ne λe=>hi e.symm
 have hC2:(G.clients.set k C')[i]?=some C2:=hC2
 rw [e] at hC2
 show C2=gI ns.length i
 rw [hn]
 exact h.rest i C2 hi hC2
theorem Msk.setC (h:Msk k F G) (C':Comp):Msk k (F.setC (k:Int) C') (G.setC (k:Int) C'):=by
 have:=h.put C' (ns:=F.nodes) rfl
 have e:G.nodes=F.nodes:=h.nodes
 unfold Fab.setC
 simp only [Int.toNat_natCast]
 obtain ⟨l,ns,cs,os⟩:=G
 subst e
 exact this
theorem Msk.stepL (h:Msk k F G) {m:Nat} (hs:stepL k m F=some F'):∃ G',stepL k m G=some G'∧Msk k F' G':=by
 obtain ⟨C,l,x,hC,hl,hx,hv,rfl⟩:=fC.1 hs
 obtain ⟨C0,h1,h2⟩:=h.here
 rw [hC] at h1
 cases h1
 refine ⟨_,fC.2 ⟨C,l,x,h2,hl,by rw [h.nodes];exact hx,hv,rfl⟩,?_⟩
 have:=h.put (C.comes m l (l.pair.step x).1 (l.pair.step x).2.2) (ns:=F.nodes.set m (l.pair.step x).2.1) (by simp)
 rw [h.nodes]
 exact this
theorem Msk.same (h:Msk k F G) (hn:F'.nodes=F.nodes) (hl:F'.lines=F.lines) (hc:F'.clients[k]?=F.clients[k]?):Msk k F' G:=
 ⟨h.nodes.trans hn.symm,h.lines.trans hl.symm,h.orph,h.len,by rw [hc];exact h.here,by rw [hn];exact h.rest⟩
theorem Msk.take (h:Msk k F G):(F.take (k:Int)).1=(G.take (k:Int)).1∧Msk k (F.take (k:Int)).2 (G.take (k:Int)).2:=by
 obtain ⟨C,h1,h2⟩:=h.here
 unfold Fab.take
 rw [ka,ka,h1,h2]
 simp only
 split
 ·exact ⟨rfl,h⟩
 ·split
  ·exact ⟨rfl,h⟩
  ·split
   ·exact ⟨rfl,h⟩
   ·exact ⟨rfl,h.setC _⟩
theorem Msk.post (h:Msk k F G) (vs:List Verb):(F.post (k:Int) vs).1=(G.post (k:Int) vs).1∧Msk k (F.post (k:Int) vs).2 (G.post (k:Int) vs).2:=by
 obtain ⟨C,h1,h2⟩:=h.here
 unfold Fab.post
 rw [ka,ka,h1,h2]
 simp only
 rw [h.nodes,h.lines]
 split
 ·exact ⟨rfl,h⟩
 split
 ·exact ⟨rfl,h⟩
 split
 ·exact ⟨rfl,h⟩
 split
 ·exact ⟨rfl,h⟩
 split
 ·exact ⟨rfl,h⟩
 exact ⟨rfl,h.setC _⟩
theorem Msk.tail (h:Msk k F G) {t:Tk conv} (hc:t.client=(k:Int)):Msk k (oW F (C16.up t)).1 (oW G t).1∧(oW F (C16.up t)).2=C16.up (oW G t).2:=by
 unfold oW
 have e1:(C16.up t).got=t.got:=rfl
 have e2:C16.conv.next (C16.up t).job (C16.up t).got=((conv.next t.job t.got).1,.inl (conv.next t.job t.got).2.1,(conv.next t.job t.got).2.2):=rfl
 have e3:(C16.up t).client=(k:Int):=hc
 rw [e2,e1,e3,hc]
 obtain ⟨p1,p2⟩:=h.post (conv.next t.job t.got).1
 simp only
 rw [p1]
 split
 ·exact ⟨h,rfl⟩
 split
 ·exact ⟨h,rfl⟩
 split
 ·exact ⟨p2,rfl⟩
 ·exact ⟨p2,rfl⟩
theorem Msk.turn (h:Msk k F G) {t:Tk conv} (hc:t.client=(k:Int)):Msk k (turn F (C16.up t)).1 (turn G t).1∧(turn F (C16.up t)).2=C16.up (turn G t).2:=by
 unfold Go.Proofs.YtgpmeaicjonenaaGreat.turn
 obtain ⟨C,h1,h2⟩:=h.here
 have e0:(C16.up t).over=t.over:=rfl
 have e1:(C16.up t).client=(k:Int):=hc
 have e2:F.alive (k:Int)=G.alive (k:Int):=by unfold Fab.alive;rw [ka,ka,h1,h2]
 have e3:F.waiting (k:Int)=G.waiting (k:Int):=by unfold Fab.waiting;rw [ka,ka,h1,h2]
 rw [e0,e1,hc,e2,e3]
 split
 ·exact ⟨h,rfl⟩
 ·obtain ⟨t1,t2⟩:=h.take
  rw [t1,C16.up_fed]
  refine t2.tail ?_
  cases (G.take (k:Int)).1<;>exact hc
end
theorem AY {n i:Nat} (hn:1≤n∧n≤5) (hi:i<6):tt n i (gI n i)∧∀ l ∈ (gI n i).lanes,bO l.pair:=by
 have hg:Good (Fab.fresh n 6 98):=Good.fresh hn (by omega) (by omega)
 have hc:(Fab.fresh n 6 98).clients[i]?=some (gI n i):=by simp [Fab.fresh,hi]
 have h1:=hg.ok.client i _ hc
 have e:(Fab.fresh n 6 98).nodes.length=n:=by simp [Fab.fresh]
 rw [e] at h1
 exact ⟨h1,hg.cl _ (List.mem_of_getElem? hc)⟩
theorem p5 {n i:Nat}:Cu n (gI n i):=by
 have hln:∀ (k:Nat) (l:Lane),(gI n i).lanes[k]?=some l→l.pair.verbs=[]∧l.pair.words=[]:=λk l hl=>by
  have hl:=List.mem_of_getElem? hl
  unfold gI dI at hl
  simp only at hl
  obtain ⟨z,hz,rfl⟩:=List.mem_map.1 hl
  exact ⟨rfl,rfl⟩
 refine ⟨rfl,λk l hl=>(hln k l hl).1,rfl,rfl,by simp [gI,dI],λk l hl=>?_⟩
 intro v vs' e _
 rw [(hln k l hl).1] at e
 cases e
theorem Msk.fine {k:Nat} {F G:Fab} (h:Msk k F G) (hF:Fine F):Fine G:=by
 obtain ⟨C,h1,h2⟩:=h.here
 have hg:=hF.good
 have hnn:=hg.ok.nodes
 have h6:∀ {i:Nat} {C2:Comp},G.clients[i]?=some C2→i<6:=λh3=>by rw [←h.len];exact aN h3
 refine ⟨⟨⟨by rw [h.lines];exact hg.ok.lines,by rw [h.nodes];exact hnn,by rw [h.nodes,h.lines];exact hg.ok.words,by rw [h.len];omega,λi C2 hC2=>?_,λp hp=>?_⟩,λC2 hC2=>?_,λp hp=>?_⟩,?_⟩
 ·rw [h.nodes]
  by_cases e:i=k
  ·subst e
   rw [h2] at hC2
   cases hC2
   exact hg.ok.client _ _ h1
  ·rw [h.rest i C2 e hC2]
   exact (AY hnn (h6 hC2)).1
 ·rw [h.orph] at hp;cases hp
 ·obtain ⟨i,hi⟩:=List.mem_iff_getElem?.1 hC2
  by_cases e:i=k
  ·subst e
   rw [h2] at hi
   cases hi
   exact hg.cl _ (List.mem_of_getElem? h1)
  ·rw [h.rest i C2 e hi]
   exact (AY hnn (h6 hi)).2
 ·rw [h.orph] at hp;cases hp
 ·unfold OB
  rw [h.orph]
  have:∀ l:List Comp,(l.map jU).sum≤l.length:=λl=>by
   induction l with
   |nil=>simp
   |cons c l ih=>
    have:jU c≤1:=by unfold jU;split<;>omega
    simp only [List.map_cons,List.sum_cons,List.length_cons]
    omega
  have:=this G.clients
  rw [h.len] at this
  show 0+5 * (G.clients.map jU).sum≤1000
  omega
end Go.Proofs.YtgpmeaicjonenaaGreat
