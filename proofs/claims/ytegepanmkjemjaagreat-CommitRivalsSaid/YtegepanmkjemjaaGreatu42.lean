import Derived.Test.YtegepanmkjemjaaGreatu41
import Derived.Test.YtegepanmkjemjaaGreatu39
set_option linter.unusedVariables false
namespace Go.Proofs.YtegepanmkjemjaaGreat
open Go.Eng C12
structure rD (n L:Nat) (base:Nat→Nat→Int) (bc:Nat→Int) (F:Fab):Prop where
 fine:Fine F
 lines:F.lines=L
 len:F.nodes.length=n
 fix:∀ (m:Nat) (x:aO),F.nodes[m]?=some x→NFix L x
 heap:∀ l:Nat,96≤l→l<L→∀ (m:Nat) (x:aO),F.nodes[m]?=some x→∀ k,k<8→x.get (l * 8+k)=base l k
 clock:∀ c:Nat,c<6→∀ (m:Nat) (x:aO),F.nodes[m]?=some x→x.get (32+c)=bc c
 cli:∀ (i:Nat) (C:Comp),F.clients[i]?=some C→FI n C
 six:∀ k:Nat,k<6→∃ C,F.clients[k]?=some C
 orph:F.orphans=[]
def wx (E:Env) (dn:Nat→Bool) (l:Nat):Option aG:=(E.ids.filter dn).findSome? λi=>(E.J i).writes.find? λp=>p.Line.toNat == l
def pu (E:Env) (dn:Nat→Bool) (l k:Nat):Int:=match wx E dn l with
 |some p=>(appL p).getD k 0
 |none=>E.base l k
def FL (E:Env) (dn:Nat→Bool) (c:Nat):Int:=if E.ids.contains c && dn c then (E.J c).seq else E.bc c
theorem tZ {E:Env} {dn:Nat→Bool} {l:Nat} {p:aG} (h:wx E dn l=some p):∃ i,E.on i∧dn i=true∧p ∈ (E.J i).writes∧p.Line.toNat=l:=by
 obtain ⟨i,hi,hp⟩:=List.exists_of_findSome?_eq_some h
 obtain ⟨h1,h2⟩:=List.mem_filter.1 hi
 have h3:=List.mem_of_find?_eq_some hp
 have h4:=List.find?_some hp
 exact ⟨i,h1,h2,h3,by simpa using h4⟩
theorem t5 {E:Env} {dn:Nat→Bool} {l:Nat} (h:wx E dn l=none) {i:Nat} (hi:E.on i) (hd:dn i=true) {p:aG} (hp:p ∈ (E.J i).writes):p.Line.toNat≠l:=λe=>by
 unfold wx at h
 rw [List.findSome?_eq_none_iff] at h
 have:=h i (List.mem_filter.2 ⟨hi,hd⟩)
 rw [List.find?_eq_none] at this
 exact this p hp (by simpa using e)
def st8:Nat→CS:=λ_=>⟨8,noD,[]⟩
theorem rD.start {E:Env} (hE:fB E) {F:Fab} (h:rD E.n E.L E.base E.bc F) {ts:List (Tk conv)} (hl:ts.length=E.ids.length) (ht:∀ k i:Nat,E.ids[k]?=some i→∃ t,ts[k]?=some t∧t.client=(i:Int)∧t.job=E.J i∧t.bad=false∧t.over=false∧t.got=[])
  (htr:E.tr=true→∀ (i:Nat) (C:Comp),F.clients[i]?=some C→C.trips=0):Inv E F ts st8:=by
 refine ⟨h.fine,h.lines,?_,hl,λi hi=>?_,λi C _ hC=>h.cli i C hC,h.orph,h.six⟩
 ·refine ⟨h.len,h.fix,λi _ p _ m x _ c=>c.elim,λi _ p _ x _ c=>c.elim,λl h1 h2 m x hx _ k hk=>h.heap l h1 h2 m x hx k hk,λi i' _ _ _ p _ p' _ _ c=>?_,λi hi m x hx=>⟨λc=>c.elim,λ_=>h.clock i (hE.job i hi).i6 m x hx⟩,λi _ p _ c=>c.elim,λc h6 _ m x hx=>h.clock c h6 m x hx⟩
  rcases c with c | ⟨_,_,c⟩
  ·exact c.elim
  ·exact c.elim
 ·obtain ⟨C,hC⟩:=h.six i (hE.job i hi).i6
  obtain ⟨k,hk⟩:=List.mem_iff_getElem?.1 hi
  obtain ⟨t,h1,h2,h3,h4,h5,h6⟩:=ht k i hk
  have hc:=h.cli i C hC
  refine ⟨C,t,hC,λq hq=>?_,h2,h3,h4,hc.inc,hc.live,hc.lanes,by show 8≤8;omega,hc.dry,λe=>absurd e (by show ¬ 8≤5;omega),λe=>absurd e (by show ¬ (8=6∨8=7);omega),λ_=>⟨h5,h6,hc.batch,hc.quiet⟩,λa _ _=>htr a i C hC⟩
  have:q=k:=(List.getElem?_inj (aP hq) hE.ids).1 (hq.trans hk.symm)
  rw [this]
  exact h1
structure Left (E:Env) (F:Fab) (dn:Nat→Bool) (i:Nat) (t:Tk conv):Prop where
 client:t.client=(i:Int)
 job:t.job=E.J i
 bad:t.bad=false
 over:t.over=true
 out:t.out=if dn i=true then ((0:Int),(3:Int)) else ((7:Int),(1:Int))
 trips:E.tr=true→dn i=true→∃ C,F.clients[i]?=some C∧C.trips=if E.n=1 then 4 else 5
structure Round (E:Env) (r:Fab×List (Tk conv)) (dn:Nat→Bool):Prop where
 still:rD E.n E.L (pu E dn) (FL E dn) r.1
 len:r.2.length=E.ids.length
 left:∀ k i:Nat,E.ids[k]?=some i→∃ t,r.2[k]?=some t∧Left E r.1 dn i t
 excl:∀ i i',E.on i→E.on i'→i≠i'→dn i=true→dn i'=true→∀ p ∈ (E.J i).writes,∀ p' ∈ (E.J i').writes,p.Line.toNat≠p'.Line.toNat
 one:∀ i,E.ids=[i]→dn i=true
theorem Inv.round {E:Env} (hE:fB E) {r:Fab×List (Tk conv)} {S:Nat→CS} (h:Inv E r.1 r.2 S) (h67:∀ i,E.on i→(S i).ph=6∨(S i).ph=7) (h1:∀ i,E.ids=[i]→(S i).ph=6):Round E r λi=>(S i).ph == 6:=by
 have hN:∀ i,(S i).ph=6→∀ m p,Nw (E.J i) (S i) m p:=λi e m p=>by
  unfold Nw
  rw [e]
  trivial
 have hK:∀ i,(S i).ph=6→∀ m,Ck (E.J i) i (S i) m:=λi e m=>by
  unfold Ck
  rw [e]
  trivial
 have hno:∀ i,(S i).ph=7→∀ m p,¬ Nw (E.J i) (S i) m p:=λi e m p=>by
  unfold Nw
  rw [e]
  exact id
 have hnk:∀ i,(S i).ph=7→∀ m,¬ Ck (E.J i) i (S i) m:=λi e m=>by
  unfold Ck
  rw [e]
  exact id
 have hnl:∀ i,(S i).ph=6∨(S i).ph=7→∀ p,¬ Lk (E.J i) i (S i) p:=λi e p=>by
  unfold Lk
  rcases e with e | e<;>(rw [e];exact id)
 refine ⟨⟨h.fine,h.lines,h.mem.len,h.mem.fix,λl h2 h3 m x hx k hk=>?_,λc h6 m x hx=>?_,λi C hC=>?_,h.six,h.orph⟩,h.tl,λk i hk=>?_,λi i' hi hi' hne hd hd' p hp p' hp' e=>?_,λi e=>by simpa using h1 i e⟩
 ·unfold pu
  cases hw:wx E (λi=>(S i).ph == 6) l with
  |some p=>
   obtain ⟨i,hi,hd,hp,hl⟩:=tZ hw
   have:=h.mem.new i hi p hp m x hx (hN i (by simpa using hd) m p) k hk
   rw [hl] at this
   exact this
  |none=>
   refine h.mem.free l h2 h3 m x hx (λi hi p hp hl=>⟨?_,λ_=>hnl i (h67 i hi) p⟩) k hk
   rcases h67 i hi with e | e
   ·exact absurd hl (t5 hw hi (by simpa using e) hp)
   ·exact hno i e m p
 ·unfold FL
  by_cases hi:E.on c
  ·have hm:E.ids.contains c=true:=List.contains_iff_mem.2 hi
   obtain ⟨a,b⟩:=h.mem.clock c hi m x hx
   rcases h67 c hi with e | e
   ·rw [if_pos (by rw [hm];simpa using e)]
    exact a (hK c e m)
   ·rw [if_neg (by simp [e])]
    exact b (hnk c e m)
  ·have hm:E.ids.contains c=false:=by
    rw [Bool.eq_false_iff]
    intro e
    exact hi (List.contains_iff_mem.1 e)
   rw [hm,Bool.false_and,if_neg (by simp)]
   exact h.mem.oth c h6 hi m x hx
 ·by_cases hi:E.on i
  ·obtain ⟨C',t,g1,_,g⟩:=h.cli i hi
   rw [hC] at g1
   cases g1
   obtain ⟨_,⟨g2,g3⟩,_⟩:=g.stop (h67 i hi)
   exact ⟨g2,g3,g.inc,g.live,g.lanes,g.dry⟩
  ·exact h.rest i C hi hC
 ·have hi:E.on i:=List.mem_of_getElem? hk
  obtain ⟨C,t,g1,g2,g⟩:=h.cli i hi
  obtain ⟨g3,_,g4,g5⟩:=g.stop (h67 i hi)
  refine ⟨t,g2 k hk,g.cl,g.job,g.bad,g3,?_,λa b=>⟨C,g1,?_⟩⟩
  ·rcases h67 i hi with e | e
   ·rw [if_pos (by simpa using e)]
    exact g4 e
   ·rw [if_neg (by rw [e];simp)]
    exact g5 e
  ·have b:(S i).ph=6:=by simpa using b
   have:=g.trips a (by omega) (by omega)
   rw [b] at this
   rw [this]
   show ((if E.n=1 then 4 else 5:Nat):Int)=_
   split<;>rfl
 ·have hd:(S i).ph=6:=by simpa using hd
  have hd':(S i').ph=6:=by simpa using hd'
  have hn:=hE.n.1
  exact h.mem.excl i i' hi hi' hne p hp p' hp' e (.inr ⟨0,by omega,hN i hd 0 p⟩) (.inr ⟨0,by omega,hN i' hd' 0 p'⟩)
theorem rD.drive {E:Env} (hE:fB E) {F:Fab} (h:rD E.n E.L E.base E.bc F) {ts:List (Tk conv)} (hl:ts.length=E.ids.length) (ht:∀ k i:Nat,E.ids[k]?=some i→∃ t,ts[k]?=some t∧t.client=(i:Int)∧t.job=E.J i∧t.bad=false∧t.over=false∧t.got=[])
  (htr:E.tr=true→∀ (i:Nat) (C:Comp),F.clients[i]?=some C→C.trips=0) (sch:List Int) {most:Nat} (h6:E.ids.length≤6) (hm:4200<most):∃ dn,Round E (drive F ts sch [] most) dn:=by
 have hi:=h.start hE hl ht htr
 have hw:wt E.ids F st8≤4200:=by
  have:∀ l:List Nat,(l.map λi=>mg F i+rk (st8 i).ph).sum≤l.length * 700:=λl=>by
   induction l with
   |nil=>simp
   |cons i l ih=>
    rw [List.map_cons,List.sum_cons,List.length_cons,Nat.succ_mul]
    have e:mg F i=0:=by
     unfold mg
     cases hC:F.clients[i]? with
     |none=>rfl
     |some C=>exact ww (h.cli i C hC).quiet
    have e2:rk (st8 i).ph=700:=rfl
    rw [e,e2]
    omega
  have:=this E.ids
  unfold wt
  omega
 obtain ⟨S,g1,g2,g3⟩:=Bq hE hi sch (most:=most) (by omega)
 refine ⟨_,g1.round hE g2 λi e=>g3 i e ⟨by show 8≠5;omega,by show 8≠7;omega,λe=>absurd e (by show ¬ 8=1;omega)⟩⟩
end Go.Proofs.YtegepanmkjemjaaGreat
namespace Go.Proofs.YtegepanmkjemjaaGreat
open Go.Eng C12
theorem yn {x:Nat} (hx:x<18446744073709551616):band .u64 (x:Int) 255=((x % 256:Nat):Int):=by
 have hb:band .u64 (x:Int) ((2 ^ 8 - 1:Nat):Int)=(x:Int) % (2 ^ 8:Nat):=vh (by omega) (by omega) 8 (by omega)
 have hb:band .u64 (x:Int) 255=(x:Int) % 256:=hb
 rw [hb]
 omega
theorem Br {a:Nat} (ha:256 * a<18446744073709551616):uY .u64 ((256 * a:Nat):Int) 255=((256 * a:Nat):Int):=by
 unfold uY
 show IntKind.u64.wrap ((BitVec.ofInt 64 ((256 * a:Nat):Int) &&& ~~~ BitVec.ofInt 64 ((255:Nat):Int)).toNat:Int)=_
 rw [BitVec.ofInt_natCast,BitVec.ofInt_natCast]
 have e:BitVec.ofNat 64 (256 * a) &&& ~~~ BitVec.ofNat 64 255=BitVec.ofNat 64 (256 * a):=by
  apply BitVec.eq_of_getLsbD_eq
  intro i hi
  rw [BitVec.getLsbD_and,BitVec.getLsbD_not,BitVec.getLsbD_ofNat,BitVec.getLsbD_ofNat]
  have h1:(256 * a).testBit i=(decide (i≥8) && a.testBit (i - 8)):=Nat.testBit_two_pow_mul (i:=8) (a:=a) (j:=i)
  have h2:(255:Nat).testBit i=decide (i<8):=Nat.testBit_two_pow_sub_one 8 i
  rw [h1,h2]
  by_cases h8:i<8
  ·have:¬ i≥8:=by omega
   simp [this]
  ·simp [h8]
   omega
 rw [e,BitVec.toNat_ofNat,Nat.mod_eq_of_lt (by omega)]
 exact m7 (by omega) (by omega)
theorem wy {a k:Nat} (ha:256 * a<18446744073709551616) (hk:k<255):eZ ((256 * a:Nat):Int) k=((256 * a+(k+1):Nat):Int):=by
 unfold eZ
 have e:((k:Int)+1)=((k+1:Nat):Int):=by omega
 rw [e,wM _ _ ha (by omega)]
 congr 1
 exact (Nat.two_pow_add_eq_or_of_lt (i:=8) (by omega) a).symm
theorem Bs {a:Nat}:bshr .u64 ((256 * a:Nat):Int) 8=(a:Int):=by
 show Int.fdiv ((256 * a:Nat):Int) 256=_
 rw [Int.fdiv_eq_ediv_of_nonneg _ (by decide)]
 omega
theorem wz {a:Nat} (ha:256 * (a+1)<18446744073709551616):tu ((256 * a:Nat):Int)=((256 * (a+1):Nat):Int):=by
 unfold tu
 rw [Bs]
 show IntKind.u64.wrap (((a:Int)+1) * 256)=_
 rw [m7 (by omega) (by omega)]
 omega
theorem zl {p:aG} (h:iw p=true):∃ a:Nat,p.Head=((256 * a:Nat):Int)∧1≤a∧a≤281474976710654:=by
 simp only [iw,ll,unl,Bool.and_eq_true,decide_eq_true_eq,beq_iff_eq] at h
 obtain ⟨⟨h1,h2⟩,h3⟩:=h
 have e:bshr .u64 p.Head 8=p.Head / 256:=by
  show Int.fdiv p.Head 256=_
  rw [Int.fdiv_eq_ediv_of_nonneg _ (by decide)]
 rw [e] at h1 h2
 obtain ⟨x,hx⟩:∃ x:Nat,p.Head=x:=⟨p.Head.toNat,by omega⟩
 rw [hx] at h1 h2 h3 ⊢
 rw [yn (by omega)] at h3
 exact ⟨x / 256,by omega,by omega,by omega⟩
theorem Bu {p:aG} {a:Nat} (h:p.Head=((256 * a:Nat):Int)) (h1:1≤a) (h2:a≤281474976710654):iw p=true:=by
 simp only [iw,ll,unl,Bool.and_eq_true,decide_eq_true_eq,beq_iff_eq]
 rw [h,Bs,yn (by omega)]
 omega
theorem CV {l:List aG} (h:∀ i,i<l.length→ascP l i=true):∀ a b (ha:a<l.length) (hb:b<l.length),a<b→l[a].Line<l[b].Line:=by
 intro a b ha hb hab
 induction b with
 |zero=>omega
 |succ b ih=>
  have h1:=h (b+1) hb
  simp only [ascP,Bool.or_eq_true,decide_eq_true_eq,List.getD_eq_getElem?_getD] at h1
  have hb':b<l.length:=by omega
  rw [Nat.add_sub_cancel,List.getElem?_eq_getElem hb',List.getElem?_eq_getElem hb] at h1
  have h1:l[b].Line<l[b+1].Line:=h1.resolve_left (by omega)
  by_cases e:a=b
  ·subst e
   exact h1
  ·have:=ih hb' (by omega)
   omega
theorem wA {l L:Int} (h:gM l L=true):∃ k:Nat,l=(k:Int)∧96≤k∧(k:Int)<L:=by
 simp only [gM,decide_eq_true_eq] at h
 exact ⟨l.toNat,by omega,by omega,by omega⟩
theorem bY.of_valid {E:Env} {i:Nat} {j:CJob} (hv:j.valid=0) (hc:j.client=(i:Int)) (h6:i<6) (hw:j.v=tA E.n) (hL:j.lines=E.L) (hs:j.writes≠[]) (hh:∀ p ∈ j.writes,p.Head=E.base p.Line.toNat 0) (hr:∀ s ∈ j.reads,s.Head=E.base s.Line.toNat 0):bY E i j:=by
 have hv0:=hv
 have hlen:0<j.writes.length:=List.length_pos_iff.2 hs
 unfold CJob.valid at hv
 split at hv
 ·omega
 split at hv
 ·next h=>exact absurd hv h
 split at hv
 ·omega
 next hln=>
 split at hv
 ·next h=>exact absurd hv h.2
 next h1=>
 split at hv
 ·omega
 next h24=>
 split at hv
 ·omega
 next hrl=>
 split at hv
 ·omega
 next hrs=>
 have h1:ix j.seq j.writes j.lines=0:=Decidable.not_not.1 λe=>h1 ⟨hlen,e⟩
 unfold ix at h1
 split at h1
 ·omega
 split at h1
 ·omega
 next hsq=>
 split at h1
 ·omega
 next hwl=>
 split at h1
 ·omega
 next hws=>
 have hwl:∀ p ∈ j.writes,gM p.Line j.lines=true:=List.all_eq_true.1 (by simpa using hwl)
 have hrl:∀ p ∈ j.reads,gM p.Line j.lines=true:=List.all_eq_true.1 (by simpa using hrl)
 have hws:∀ i,i<j.writes.length→ascP j.writes i=true∧iw (j.writes.getD i noP)=true:=λi hi=>by
  have:=List.all_eq_true.1 (show (List.range j.writes.length).all (λi=>ascP j.writes i && iw (j.writes.getD i noP))=true by simpa using hws) i (List.mem_range.2 hi)
  rwa [Bool.and_eq_true] at this
 have hrs:∀ i,i<j.reads.length→nL j.reads j.writes i=true:=λi hi=>List.all_eq_true.1 (show (List.range j.reads.length).all (nL j.reads j.writes)=true by simpa using hrs) i (List.mem_range.2 hi)
 have hlt:=CV λi hi=>(hws i hi).1
 have hhd:∀ p ∈ j.writes,∃ a:Nat,p.Head=((256 * a:Nat):Int)∧1≤a∧a≤281474976710654:=λp hp=>by
  obtain ⟨k,hk,rfl⟩:=List.getElem_of_mem hp
  have:=(hws k hk).2
  rw [List.getD_eq_getElem?_getD,List.getElem?_eq_getElem hk] at this
  exact zl this
 refine ⟨hc,h6,hv0,hw,hs,by omega,by omega,λp hp=>?_,λp hp=>?_,λp hp q hq e=>?_,?_,hh,λp hp k hk=>?_,λp hp=>?_,hr,λs hsm p hp e=>?_⟩
 ·obtain ⟨k,e1,e2,e3⟩:=wA (hwl p hp)
  exact ⟨k,e1,e2,by omega⟩
 ·obtain ⟨k,e1,e2,e3⟩:=wA (hrl p hp)
  exact ⟨k,e1,e2,by omega⟩
 ·obtain ⟨a,ha,rfl⟩:=List.getElem_of_mem hp
  obtain ⟨b,hb,rfl⟩:=List.getElem_of_mem hq
  rcases Nat.lt_trichotomy a b with h | h | h
  ·have:=hlt a b ha hb h
   omega
  ·subst h
   rfl
  ·have:=hlt b a hb ha h
   omega
 ·rw [List.nodup_iff_pairwise_ne,List.pairwise_map,List.pairwise_iff_getElem]
  intro a b ha hb hab e
  have:=hlt a b ha hb hab
  omega
 ·obtain ⟨a,e,h1,h2⟩:=hhd p hp
  rw [e,wy (by omega) (by omega),wy (by omega) (by omega)]
  exact ⟨by omega,λe=>by omega⟩
 ·obtain ⟨a,e,h1,h2⟩:=hhd p hp
  rw [e,wz (by omega)]
  omega
 ·obtain ⟨k,hk,rfl⟩:=List.getElem_of_mem hsm
  have:=hrs k hk
  simp only [nL,Bool.and_eq_true,List.getD_eq_getElem?_getD,List.getElem?_eq_getElem hk,Bool.not_eq_true',has,List.any_eq_false,decide_eq_true_eq] at this
  exact this.2 p hp e.symm
theorem Bv {seq L:Int} {W:List aG} (hL:98≤L∧L≤256) (hs:1≤seq∧seq<1073741824) (h1:1≤W.length) (h12:W.length≤12) (hw:∀ p ∈ W,gM p.Line L=true) (ha:W.Pairwise λp q=>p.Line<q.Line) (hh:∀ p ∈ W,iw p=true):ix seq W L=0:=by
 unfold ix
 rw [if_neg (by omega),if_neg (by omega),if_neg,if_neg]
 ·rw [Bool.not_eq_false,List.all_eq_true]
  intro i hi
  have hi:=List.mem_range.1 hi
  rw [Bool.and_eq_true,List.getD_eq_getElem?_getD,List.getElem?_eq_getElem hi]
  refine ⟨?_,hh _ (List.getElem_mem hi)⟩
  unfold ascP
  rw [Bool.or_eq_true]
  cases i with
  |zero=>exact .inl rfl
  |succ i=>
   right
   rw [List.getD_eq_getElem?_getD,List.getD_eq_getElem?_getD,Nat.add_sub_cancel,List.getElem?_eq_getElem (by omega),List.getElem?_eq_getElem hi]
   exact decide_eq_true (List.pairwise_iff_getElem.1 ha i (i+1) (by omega) hi (by omega))
 ·rw [Bool.not_eq_false,List.all_eq_true]
  exact hw
theorem xu {n:Nat} (hn:1≤n∧n≤5):(tA n).valid 5=0:=by
 obtain rfl | rfl | rfl | rfl | rfl:n=1∨n=2∨n=3∨n=4∨n=5:=by omega
 all_goals rfl
theorem CW {i n:Nat} {seq L:Int} {W:List aG} (hi:i<6) (hn:1≤n∧n≤5) (hL:98≤L∧L≤256) (hs:1≤seq∧seq<1073741824) (h1:1≤W.length) (h12:W.length≤12) (hw:∀ p ∈ W,gM p.Line L=true) (ha:W.Pairwise λp q=>p.Line<q.Line) (hh:∀ p ∈ W,iw p=true):CJob.valid ⟨(i:Int),seq,L,tA n,[],W⟩=0:=by
 unfold CJob.valid
 simp only
 rw [if_neg (by omega),if_neg (by rw [xu hn];simp),if_neg (by omega),if_neg (λe=>e.2 (Bv hL hs h1 h12 hw ha hh)),if_neg (by simp),if_neg (by simp),if_neg (by simp)]
end Go.Proofs.YtegepanmkjemjaaGreat
namespace Go.Proofs.YtegepanmkjemjaaGreat
open Go.Eng C12
def pgOf (B:Nat→Nat→Int) (l:Nat):aG:=⟨l,B l 0,B l 1,B l 2,B l 3,B l 4,B l 5,B l 6,B l 7⟩
theorem rD.page {n L:Nat} {B:Nat→Nat→Int} {bc:Nat→Int} {F:Fab} (h:rD n L B bc F) {m:Nat} {x:aO} (hx:F.nodes[m]?=some x) {l:Nat} (h1:96≤l) (h2:l<L):x.page l=pgOf B l:=by
 have g:=h.heap l h1 h2 m x hx
 have g0:=g 0 (by omega)
 rw [Nat.add_zero] at g0
 unfold aO.page pgOf
 rw [g0,g 1 (by omega),g 2 (by omega),g 3 (by omega),g 4 (by omega),g 5 (by omega),g 6 (by omega),g 7 (by omega)]
structure Cnt (L:Nat) (B:Nat→Nat→Int) (c:Nat→Nat):Prop where
 head:∀ l:Nat,96≤l→l<L→B l 0=((256 * (1+c l):Nat):Int)
 data:∀ l:Nat,96≤l→l<L→B l 1=(c l:Int)
 few:∀ l:Nat,96≤l→l<L→c l≤1000000
theorem rD.eqX {n L:Nat} {B:Nat→Nat→Int} {bc:Nat→Int} {X:FabX} (h:rD n L B bc X.pure) (hL:98≤L∧L≤256) (hB:∀ l:Nat,96≤l→l<L→B l 0 % 256=0):EqX X n L:=by
 have get:∀ (i:Nat) (x:jR),X.nodes[i]?=some x→X.pure.nodes[i]?=some x.n:=λi x hx=>by
  simp [FabX.pure,hx]
 have hl:X.nodes.length=n:=by
  rw [←h.len]
  simp [FabX.pure]
 refine ⟨hl,λi x x0 hx h0=>⟨(h.fix i _ (get i x hx)).up,λl h1 h2=>⟨?_,?_⟩,λc hc=>⟨?_,?_⟩⟩,λi x hx=>?_,hL.2,hL.1⟩
 ·rw [h.page (get 0 x0 h0) h1 h2,h.page (get i x hx) h1 h2]
 ·have:=h.heap l h1 h2 0 _ (get 0 x0 h0) 0 (by omega)
  rw [Nat.add_zero] at this
  rw [this]
  exact hB l h1 h2
 ·rw [h.clock c hc 0 _ (get 0 x0 h0),h.clock c hc i _ (get i x hx)]
 ·rw [(h.fix 0 _ (get 0 x0 h0)).door c hc,(h.fix i _ (get i x hx)).door c hc]
 ·rw [(h.fix i _ (get i x hx)).len]
  omega
theorem t6 (y:Nat):(bU y).Pairwise (·<·):=by
 unfold bU gW
 rw [List.pairwise_map]
 refine (List.pairwise_lt_range.filter _).imp λh=>?_
 omega
theorem kN:∀ y,y<14→1≤(bU y).length∧(bU y).length≤3:=by decide
def cW (B:Nat→Nat→Int) (i y:Nat):List aG:=(bU y).map λl=>bump i (pgOf B l)
def cJob (n L:Nat) (B:Nat→Nat→Int) (i:Nat) (seq:Int) (y:Nat):CJob:=⟨(i:Int),seq,L,tA n,[],cW B i y⟩
def cEnv (n L:Nat) (B:Nat→Nat→Int) (bc:Nat→Int) (m:Nat) (sq:Nat→Int) (ys:Nat→Nat):Env:=⟨n,L,B,bc,List.range m,λi=>cJob n L B i (sq i) (ys i),false⟩
theorem yo {B:Nat→Nat→Int} {i y:Nat} {p:aG}:p ∈ cW B i y↔∃ l,l ∈ bU y∧p=bump i (pgOf B l):=by
 unfold cW
 rw [List.mem_map]
 exact ⟨λ⟨l,h1,h2⟩=>⟨l,h1,h2.symm⟩,λ⟨l,h1,h2⟩=>⟨l,h1,h2.symm⟩⟩
theorem wB {L:Nat} {B:Nat→Nat→Int} {c:Nat→Nat} (h:Cnt L B c) {i l:Nat} (h1:96≤l) (h2:l<L):(bump i (pgOf B l)).Head=((256 * (1+c l):Nat):Int):=by
 show uY .u64 (B l 0) 255=_
 have:=h.few l h1 h2
 rw [h.head l h1 h2]
 exact Br (by omega)
theorem EJ {n L:Nat} {B:Nat→Nat→Int} {bc:Nat→Int} {m:Nat} {sq:Nat→Int} {ys:Nat→Nat} {c:Nat→Nat} (hB:Cnt L B c) (hn:1≤n∧n≤5) (hL:100≤L∧L≤256) (hm:m≤6) (hs:∀ i,i<m→1≤sq i∧sq i<1073741824) (hy:∀ i,i<m→ys i<14):fB (cEnv n L B bc m sq ys):=by
 refine ⟨hn,⟨by show 98≤L;omega,hL.2⟩,List.nodup_range,λi hi=>?_⟩
 have hi:i<m:=List.mem_range.1 hi
 obtain ⟨hl1,hl3⟩:=kN (ys i) (hy i hi)
 have hlen:(cW B i (ys i)).length=(bU (ys i)).length:=by simp [cW]
 have hp:∀ p ∈ cW B i (ys i),∃ l:Nat,p.Line=(l:Int)∧96≤l∧l<100∧p.Head=((256 * (1+c l):Nat):Int):=λp hp=>by
  obtain ⟨l,hl,rfl⟩:=yo.1 hp
  obtain ⟨h1,h2⟩:=md hl
  exact ⟨l,rfl,h1,h2,wB hB h1 (by omega)⟩
 refine bY.of_valid (CW (i:=i) (n:=n) (seq:=sq i) (L:=L) (by omega) hn (by omega) (hs i hi) (by rw [hlen];omega) (by rw [hlen];omega) (λp h=>?_) ?_ λp h=>?_) rfl (by omega) rfl rfl (λe=>?_) (λp h=>?_) λs hs=>by cases hs
 ·obtain ⟨l,e,h1,h2,_⟩:=hp p h
  rw [e]
  exact decide_eq_true (by omega)
 ·unfold cW
  rw [List.pairwise_map]
  exact List.Pairwise.imp (R:=λa b:Nat=>a<b) (λ{a b} h=>show (a:Int)<(b:Int) by omega) (t6 (ys i))
 ·obtain ⟨l,e,h1,h2,h3⟩:=hp p h
  have:=hB.few l h1 (by omega)
  exact Bu h3 (by omega) (by omega)
 ·have e:cW B i (ys i)=[]:=e
  rw [e] at hlen
  simp at hlen <;> omega
 ·obtain ⟨l,e,h1,h2,h3⟩:=hp p h
  show p.Head=B p.Line.toNat 0
  rw [e,Int.toNat_natCast,h3,hB.head l h1 (by omega)]
def cntW (m:Nat) (dn:Nat→Bool) (ys:Nat→Nat) (l:Nat):Nat:=((List.range m).filter λi=>dn i && (bU (ys i)).contains l).length
theorem FM {l:List Nat} (hd:l.Nodup) {i:Nat} (hi:i ∈ l) (ha:∀ k ∈ l,k=i):l.length=1:=by
 cases l with
 |nil=>cases hi
 |cons a l=>
  cases l with
  |nil=>rfl
  |cons b l=>
   have h1:=ha a (by simp)
   have h2:=ha b (by simp)
   rw [List.nodup_cons] at hd
   exact absurd (by rw [h1,h2];simp) hd.1
theorem Bw {n L:Nat} {B:Nat→Nat→Int} {bc:Nat→Int} {m:Nat} {sq:Nat→Int} {ys:Nat→Nat} {c:Nat→Nat} (hB:Cnt L B c) (hL:100≤L∧L≤256) (hc:∀ l:Nat,96≤l→l<L→c l<1000000) {r:Fab×List (Tk conv)} {dn:Nat→Bool} (h:Round (cEnv n L B bc m sq ys) r dn) :
  Cnt L (pu (cEnv n L B bc m sq ys) dn) (λl=>c l+cntW m dn ys l)∧∀ l,cntW m dn ys l≤1:=by
 have key:∀ l,(wx (cEnv n L B bc m sq ys) dn l=none∧cntW m dn ys l=0)∨∃ i:Nat,wx (cEnv n L B bc m sq ys) dn l=some (bump i (pgOf B l))∧cntW m dn ys l=1:=λl=>by
  cases hw:wx (cEnv n L B bc m sq ys) dn l with
  |none=>
   refine .inl ⟨rfl,?_⟩
   unfold cntW
   rw [List.length_eq_zero_iff,List.filter_eq_nil_iff]
   intro i hi hh
   rw [Bool.and_eq_true] at hh
   have hl:l ∈ bU (ys i):=List.contains_iff_mem.1 hh.2
   exact t5 hw (i:=i) hi hh.1 (p:=bump i (pgOf B l)) (yo.2 ⟨l,hl,rfl⟩) (Int.toNat_natCast l)
  |some p=>
   obtain ⟨i,hi,hd,hp,hl⟩:=tZ hw
   obtain ⟨l',hl',rfl⟩:=yo.1 hp
   have e:l'=l:=by rw [←hl];exact (Int.toNat_natCast l').symm
   subst e
   refine .inr ⟨i,rfl,FM (List.nodup_range.filter _) (i:=i) (List.mem_filter.2 ⟨hi,by rw [Bool.and_eq_true];exact ⟨hd,List.contains_iff_mem.2 hl'⟩⟩) λk hk=>?_⟩
   obtain ⟨h1,h2⟩:=List.mem_filter.1 hk
   rw [Bool.and_eq_true] at h2
   by_cases e:k=i
   ·exact e
   ·exact absurd rfl (h.excl k i h1 hi e h2.1 hd (bump (k:Nat) (pgOf B l')) (yo.2 ⟨l',List.contains_iff_mem.1 h2.2,rfl⟩) (bump (i:Nat) (pgOf B l')) hp)
 refine ⟨⟨λl h1 h2=>?_,λl h1 h2=>?_,λl h1 h2=>?_⟩,λl=>?_⟩
 ·have h3:=hB.head l h1 h2
  have h4:=hc l h1 h2
  unfold pu
  rcases key l with ⟨e1,e2⟩ | ⟨i,e1,e2⟩
  ·rw [e1,e2]
   exact h3
  ·rw [e1,e2]
   show tu (bump i (pgOf B l)).Head=_
   rw [wB hB h1 h2,wz (by omega)]
   congr 1
 ·have h3:=hB.data l h1 h2
  have h4:=hc l h1 h2
  unfold pu
  rcases key l with ⟨e1,e2⟩ | ⟨i,e1,e2⟩
  ·rw [e1,e2]
   exact h3
  ·rw [e1,e2]
   show IntKind.u64.wrap (B l 1+1)=_
   rw [h3,m7 (by omega) (by omega)]
   omega
 ·have h4:=hc l h1 h2
  rcases key l with ⟨e1,e2⟩ | ⟨i,e1,e2⟩
  ·rw [e2];omega
  ·rw [e2];omega
 ·rcases key l with ⟨e1,e2⟩ | ⟨i,e1,e2⟩
  ·rw [e2];omega
  ·rw [e2];omega
def sX (l k:Nat):Int:=if k=0 then 256 else 0
def xv (n L:Nat):Bool:=
 let w:=fmt L n
 w.length == L * 8 && (w.getD 0 0 == 1 && (w.getD 1 0 == 1 && ((List.range 6).all (λc=>w.getD (24+c) 0 == 1 && w.getD (32+c) 0 == 0) && (List.range (L - 96)).all λq=>(List.range 8).all λk=>w.getD ((q+96) * 8+k) 0 == sX 0 k)))
theorem xx {n L:Nat} (hn:1≤n∧n≤5) (hL:98≤L∧L≤256) (h:xv n L=true):rD n L sX (λ_=>0) (Fab.fresh n 6 L):=by
 simp only [xv,Bool.and_eq_true,List.all_eq_true,List.mem_range,beq_iff_eq] at h
 obtain ⟨h1,h2,h3,h4,h5⟩:=h
 have hx:∀ (m:Nat) (x:aO),(Fab.fresh n 6 L).nodes[m]?=some x→x=⟨fmt L n,false⟩:=λm x e=>by
  have e:=List.mem_of_getElem? e
  exact (List.mem_replicate.1 e).2
 refine ⟨Fine.fresh hn (by omega) hL,rfl,by simp [Fab.fresh],λm x e=>?_,λl l1 l2 m x e k hk=>?_,λc hc m x e=>?_,λi C e=>?_,λk hk=>?_,rfl⟩
 ·rw [hx m x e]
  exact ⟨rfl,h1,h2,h3,λc hc=>(h4 c hc).1⟩
 ·rw [hx m x e]
  have:=h5 (l - 96) (by omega) k hk
  rw [show l - 96+96=l by omega] at this
  exact this
 ·rw [hx m x e]
  exact (h4 c hc).2
 ·have e:=List.mem_of_getElem? e
  obtain ⟨q,hq,rfl⟩:=List.mem_map.1 e
  have hln:∀ (k:Nat) (l:Lane),(mT n q).lanes[k]?=some l→l.pair.verbs=[]∧l.pair.words=[]:=λk l hl=>by
   have hl:=List.mem_of_getElem? hl
   unfold mT dV at hl
   simp only at hl
   obtain ⟨z,hz,rfl⟩:=List.mem_map.1 hl
   exact ⟨rfl,rfl⟩
  refine ⟨rfl,λk l hl=>(hln k l hl).1,rfl,rfl,by simp [mT,dV],λk l hl=>?_⟩
  intro v vs' e _
  rw [(hln k l hl).1] at e
  cases e
 ·exact ⟨mT n k,by simp [Fab.fresh,hk]⟩
theorem wC {L:Nat}:Cnt L sX λ_=>0:=⟨λ_ _ _=>rfl,λ_ _ _=>rfl,λ_ _ _=>by omega⟩
theorem xy {n:Nat} (hn:1≤n∧n≤5):xv n 100=true:=by
 obtain rfl | rfl | rfl | rfl | rfl:n=1∨n=2∨n=3∨n=4∨n=5:=by omega
 all_goals kernel_rfl
end Go.Proofs.YtegepanmkjemjaaGreat
namespace Go.Proofs.YtegepanmkjemjaaGreat
open Go.Proofs.Tryz
open Go.Eng C12
structure Law (w z:World) (n:Nat) (lines:Int) (fb p:Nat) (A:Nat→Prop) (χ:Nat→Tag) (X:FabX) (rv:aM):Prop where
 fab:aV A χ z fb X
 new:New w z
 own:∀ k,A k→w.heap.size≤k
 box:Blk z p (fofC fb lines rv) TFo
 out:¬ A p
 view:ViewAt A z rv (tA n)
theorem Law.noop {w z z':World} {n:Nat} {lines:Int} {fb p:Nat} {A:Nat→Prop} {χ:Nat→Tag} {X:FabX} {rv:aM} (h:Law w z n lines fb p A χ X rv) (hn:New z z'):Law w z' n lines fb p A χ X rv:=
 ⟨h.fab.new hn,h.new.new hn,h.own,New.blk hn h.box,h.out,h.view.new hn⟩
theorem Made.law {w u:World} {n lines:Nat} {fb p:Nat} {A:Nat→Prop} {χ:Nat→Tag} {X:FabX} {rv:aM} (h:Made w u n lines fb p A χ X rv):Law w u n lines fb p A χ X rv:=⟨h.fab,h.new,h.own,h.box,h.out,h.view⟩
theorem Law.other {w z z':World} {n:Nat} {lines:Int} {fb p b:Nat} {A:Nat→Prop} {χ:Nat→Tag} {X:FabX} {rv:aM} (h:Law w z n lines fb p A χ X rv) (hk:Keep (λk=>k=b) z z') (h1:¬ A b) (h2:b≠p) (h3:w.heap.size≤b) (hm:Rd z rv.Members (ik (stM n)).flatten→Rd z' rv.Members (ik (stM n)).flatten) (hf:aV A χ z' fb X):Law w z' n lines fb p A χ X rv:=by
 refine ⟨hf,h.new.trans hk λk hlt e=>by omega,h.own,hk.blk h.box λe=>h2 e.symm,h.out,?_⟩
 obtain ⟨a1,a2,a3,a4,a5,a6⟩:=h.view
 exact ⟨a1,a2,a3,hm a4,a5,a6⟩
theorem EK {u:World} {a:Option Addr} {n cap:Nat} {L:List (TR×Tk conv)} (ho:Owns u TTa 25 a n cap (jU L).flatten) {x:TR×Tk conv} (hb1:n≤1000000) {K:Nat→Option Addr→Nat→Nat→World→Prop}
  (hk:∀ b ap cap' w3,b=u.heap.size→Owns w3 TTa 25 ap (n+1) cap' (jU (L++[x])).flatten→Keep (isB a) u w3→(∀ k,isB ap k→isB a k∨u.heap.size≤k)→K b ap (n+1) cap' w3) :
  ∀ b1 w2,b1=u.heap.size→w2=u.alloc (.cells x.1.cells.toArray TTa)→∃ (ap:Option Addr) (ap_len ap_cap:Nat),∃ w3,(Builtin.append_ #[61,61] 61 #[(.slice a n cap),(.slice (some ⟨b1,0,none⟩) 1 1)]).run prog w2=.ok (.slice ap ap_len ap_cap) w3∧K b1 ap ap_len ap_cap w3:=by
 obtain ⟨inf,hi,hz,hsz,hby⟩:=jM (T:=TTa) (z:=.agg #[(.int .i64 0),(.int .i64 0),(.int .i64 0),(.int .i64 0),(.int .i64 0),(.int .i64 0),(.int .i64 0),(.int .u64 0),(.int .i64 0),(.int .i64 0),(.int .i64 0),(.int .i64 0),(.slice none 0 0),(.slice none 0 0),(.slice none 0 0),(.slice none 0 0),(.bool false),(.bool false),(.int .i64 0),(.int .i64 0),(.slice none 0 0),(.int .i64 0),(.slice none 0 0),(.int .u64 0),(.int .i64 0)]) (n:=25) (m:=288) (by kernel_rfl)
 rw [←hsz] at ho
 refine push_k Tryz.underlying61 hi hz (by rw [hsz];rfl) (by omega) ho (by rw [hsz];rfl) (aB.single x.1) (by omega) (by omega) ?_
 intro b ap cap' w3 h1 h2
 have e:(jU L).flatten++x.1.cells=(jU (L++[x])).flatten:=by simp [jU]
 rw [hsz,e] at h2
 exact hk b ap cap' w3 h1 h2
attribute [local irreducible] drive
theorem Law.drive_c {w z:World} {n:Nat} {lines:Int} {fb p:Nat} {A:Nat→Prop} {χ:Nat→Tag} {X:FabX} {rv:aM} (h:Law w z n lines fb p A χ X rv) (hf:Fine X.pure) {ts:List (TR×Tk conv)} {pa:Option Addr} {pl pc:Nat} (hpl:pl=ts.length) (hts:Rd z pa (jU ts).flatten) (htx:∀ x ∈ ts,eQ A z x.1 x.2∧sB x.2) (htl:ts.length≤1000)
  {sch:List Int} {sa:Option Addr} {sl sc:Nat} (hsl:sl=sch.length) (hsd:Rd w sa (is sch)) (hsi:∀ x ∈ sch,I64 x) {most:Nat} (hm:most≤1000000) {tl:List (Tk conv)} (htt:ts.map Prod.snd=tl) :
  Does 23 [ptr fb,.slice pa pl pc,.slice sa sl sc,.slice none 0 0,.int .i64 most] z λv u=>∃ la lc ts' A' χ' X',v=.slice la ts'.length lc∧Law w u n lines fb p A' χ' X' rv∧X'.pure=(drive X.pure tl sch [] most).1∧ts'.map Prod.snd=(drive X.pure tl sch [] most).2∧Rd u la (jU ts').flatten∧(∀ x ∈ ts',eQ A' u x.1 x.2)∧Keep A z u∧∀ k,k<z.heap.size→A' k→A k:=by
 subst hpl hsl htt
 have hdr:=A8 h.fab hf hts htx htl (pc:=pc) (EF hsd h.new h.own) hsi (sc:=sc) (es:=[]) (ea:=none) (ec:=0) ⟨.inl rfl,.inl rfl⟩ (λx hx=>by cases hx) (by simp) hm
 refine aF hdr ?_
 rintro v u ⟨A',χ',X',hN,hF,hX,la,lc,ts',rfl,hts',how,hnB,htx'⟩
 have hkA:Keep A z u:=hN.keep.mono λk _ hc=>h.fab.avoid k hc
 have hmono:∀ k,k<z.heap.size→A' k→A k:=λk hlt hk=>by
  rcases (hN.iff k).1 hk with h1 | ⟨_,h1,_⟩
  ·exact h.fab.avoid k (hN.grow k hlt h1)
  ·exact h1
 have hlen:ts'.length=(drive X.pure (ts.map Prod.snd) sch [] most).2.length:=by rw [←hts',List.length_map]
 refine ⟨_,rfl,la,lc,ts',A',χ',X',by rw [hlen],⟨hF,h.new.trans hkA λk hlt hk=>by have:=h.own k hk;omega,λk hk=>?_,hkA.blk h.box h.out,λhk=>h.out (hmono p h.box.lt hk),C12.ViewAt.keep h.view hkA hmono⟩,hX,hts',how.rd,htx',hkA,hmono⟩
 have:=h.new.size
 by_cases hlt:k<z.heap.size
 ·exact h.own k (hmono k hlt hk)
 ·omega
theorem EL {ts:List (TR×Tk conv)} {l:List (Tk conv)} (h:ts.map Prod.snd=l) {k:Nat} {t:Tk conv} (hk:l[k]?=some t):∃ r,ts[k]?=some (r,t):=by
 rw [←h,List.getElem?_map] at hk
 cases hx:ts[k]? with
 |none=>rw [hx] at hk;cases hk
 |some x=>
  rw [hx] at hk
  obtain ⟨r,t'⟩:=x
  cases hk
  exact ⟨r,rfl⟩
end Go.Proofs.YtegepanmkjemjaaGreat
namespace Go.Proofs.YtegepanmkjemjaaGreat
open Go.Eng C12
theorem wD (i:Nat) (dn:Nat→Bool) (ys:Nat→Nat) (l:Nat):cntW (i+1) dn ys l=cntW i dn ys l+if (dn i && (bU (ys i)).contains l)=true then 1 else 0:=by
 unfold cntW
 rw [List.range_succ,List.filter_append,List.length_append]
 congr 1
 rw [List.filter_cons]
 split<;>rfl
theorem EM (i:Nat) (dn:Nat→Bool) (ys:Nat→Nat) (l:Nat):cntW i dn ys l≤i:=by
 unfold cntW
 exact Nat.le_trans (List.length_filter_le _ _) (by simp)
def jV (f:Nat→Nat):List Value:=[.int .u64 (f 0),.int .u64 (f 1),.int .u64 (f 2),.int .u64 (f 3)]
theorem t7 {f:Nat→Nat} {q:Nat} (hq:q<4):(jV f)[q]?=some (.int .u64 (f q)):=by
 obtain rfl | rfl | rfl | rfl:q=0∨q=1∨q=2∨q=3:=by omega
 all_goals rfl
theorem zm {f g:Nat→Nat} {q:Nat} (hq:q<4) (h:∀ k,k<4→g k=f k+if k=q then 1 else 0):(jV f).set q (.int .u64 ((f q+1:Nat):Int))=jV g:=by
 unfold jV
 rw [h 0 (by omega),h 1 (by omega),h 2 (by omega),h 3 (by omega)]
 obtain rfl | rfl | rfl | rfl:q=0∨q=1∨q=2∨q=3:=by omega
 all_goals rfl
theorem t8 {f g:Nat→Nat} (h:∀ k,k<4→g k=f k):jV f=jV g:=by
 unfold jV
 rw [h 0 (by omega),h 1 (by omega),h 2 (by omega),h 3 (by omega)]
theorem wE (y:Nat):(bU y).Nodup:=List.Pairwise.imp (R:=λa b:Nat=>a<b) (λ{a b} h=>Nat.ne_of_lt h) (t6 y)
def amid (c:Nat→Nat) (y s q:Nat):Nat:=c q+((bU y).take s).count (96+q)
theorem wF (c:Nat→Nat) (y q:Nat):amid c y 0 q=c q:=by simp [amid]
theorem CX (c:Nat→Nat) (y q:Nat):amid c y (bU y).length q=c q+if (bU y).contains (96+q)=true then 1 else 0:=by
 unfold amid
 rw [List.take_length]
 congr 1
 by_cases h:96+q ∈ bU y
 ·rw [if_pos (List.contains_iff_mem.2 h)]
  exact (wE y).count.trans (if_pos h)
 ·rw [if_neg λe=>h (List.contains_iff_mem.1 e)]
  exact List.count_eq_zero_of_not_mem h
theorem Bx {c:Nat→Nat} {y s l:Nat} (h:(bU y)[s]?=some l) (q:Nat):amid c y (s+1) q=amid c y s q+if q=l - 96 then 1 else 0:=by
 have hl:=md (List.mem_of_getElem? h)
 unfold amid
 rw [List.take_add_one,h,List.count_append,Nat.add_assoc]
 congr 2
 show List.count (96+q) [l]=_
 rw [List.count_singleton]
 by_cases e:q=l - 96
 ·rw [if_pos e,if_pos (by simp;omega)]
 ·rw [if_neg e,if_neg (by simp;omega)]
theorem EN (c:Nat→Nat) (y s q:Nat) (hy:y<14):amid c y s q≤c q+3:=by
 unfold amid
 have h1:=List.count_le_length (a:=96+q) (l:=(bU y).take s)
 have h2:=(kN y hy).2
 rw [List.length_take] at h1
 omega
structure Ran (w u:World) (n fb p:Nat) (rv:aM) (E:Env) (dn:Nat→Bool) (la:Option Addr) (ts:List (TR×Tk conv)):Prop where
 law:∃ A χ X,Law w u n 100 fb p A χ X rv∧Round E (X.pure,ts.map Prod.snd) dn∧∀ x ∈ ts,eQ A u x.1 x.2
 rd:Rd u la (jU ts).flatten
theorem Ran.noop {w u u':World} {n fb p:Nat} {rv:aM} {E:Env} {dn:Nat→Bool} {la:Option Addr} {ts:List (TR×Tk conv)} (h:Ran w u n fb p rv E dn la ts) (hn:New u u'):Ran w u' n fb p rv E dn la ts:=by
 obtain ⟨⟨A,χ,X,h1,h2,h3⟩,h4⟩:=h
 exact ⟨⟨A,χ,X,h1.noop hn,h2,λx hx=>(h3 x hx).keep (Keep.of_new hn) λ_ _ h=>h⟩,h4.new hn⟩
structure FN (u:World) (r:TR) (d:Bool) (W:List aG):Prop where
 over:r.Over=true
 bad:r.Bad=false
 code:r.Code=if d=true then 0 else 7
 fate:r.Fate=if d=true then 3 else 1
 rd:Rd u r.Commit.Writes (lk W).flatten
 len:r.Commit.Writes_l=W.length
theorem Ran.row {w u:World} {n fb p:Nat} {rv:aM} {E:Env} {dn:Nat→Bool} {la:Option Addr} {ts:List (TR×Tk conv)} (h:Ran w u n fb p rv E dn la ts) {k i:Nat} (hk:E.ids[k]?=some i):∃ r t,ts[k]?=some (r,t)∧FN u r (dn i) (E.J i).writes:=by
 obtain ⟨⟨A,χ,X,h1,h2,h3⟩,h4⟩:=h
 obtain ⟨t,g1,g2⟩:=h2.left k i hk
 obtain ⟨r,g3⟩:=EL rfl g1
 have ht:=h3 _ (List.mem_of_getElem? g3)
 have hj:JAtC A u r.Commit t.job:=ht.job
 rw [g2.job] at hj
 have ho:r.Code=t.out.1∧r.Fate=t.out.2:=ht.out
 rw [g2.out] at ho
 refine ⟨r,t,g3,ht.over.trans g2.over,ht.bad.trans g2.bad,ho.1.trans ?_,ho.2.trans ?_,hj.at_.pg.rd,hj.at_.pg.len⟩
 ·split<;>rfl
 ·split<;>rfl
theorem Ran.len {w u:World} {n fb p:Nat} {rv:aM} {E:Env} {dn:Nat→Bool} {la:Option Addr} {ts:List (TR×Tk conv)} (h:Ran w u n fb p rv E dn la ts):ts.length=E.ids.length:=by
 obtain ⟨⟨A,χ,X,h1,h2,h3⟩,h4⟩:=h
 rw [←h2.len]
 exact (List.length_map _).symm
end Go.Proofs.YtegepanmkjemjaaGreat
