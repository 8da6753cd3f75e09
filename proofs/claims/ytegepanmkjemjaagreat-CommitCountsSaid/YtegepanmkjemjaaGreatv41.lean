import Derived.Test.YtegepanmkjemjaaGreatv40
import Derived.Test.YtegepanmkjemjaaGreatv38
import Derived.Test.YtegepanmkjemjaaGreatProg
import Derived.Test.YtegepanmkjemjaaGreatv03
set_option linter.unusedVariables false
namespace Go.Proofs.YtegepanmkjemjaaGreat
open Go.Eng C12
theorem yC {x:Nat} (hx:x<18446744073709551616):band .u64 (x:Int) 255=((x % 256:Nat):Int):=by
 have hb:band .u64 (x:Int) ((2 ^ 8 - 1:Nat):Int)=(x:Int) % (2 ^ 8:Nat):=vu (by omega) (by omega) 8 (by omega)
 have hb:band .u64 (x:Int) 255=(x:Int) % 256:=hb
 rw [hb]
 omega
theorem BK {a:Nat} (ha:256 * a<18446744073709551616):vn .u64 ((256 * a:Nat):Int) 255=((256 * a:Nat):Int):=by
 unfold vn
 show IntKind.u64.wrap ((BitVec.ofInt 64 ((256 * a:Nat):Int) &&& ~~~ BitVec.ofInt 64 ((255:Nat):Int)).toNat:Int)=_
 rw [BitVec.ofInt_natCast,BitVec.ofInt_natCast]
 have e:BitVec.ofNat 64 (256 * a) &&& ~~~ BitVec.ofNat 64 255=BitVec.ofNat 64 (256 * a):=by
  apply BitVec.eq_of_getLsbD_eq
  intro i hi
  rw [BitVec.getLsbD_and,BitVec.getLsbD_not,BitVec.getLsbD_ofNat,BitVec.getLsbD_ofNat]
  have h1:(256 * a).testBit i=(decide (i≥8) && a.testBit (i - 8)):=Nat.testBit_two_pow_mul (i:=8) (a:=a) (j:=i)
  have h2:(255:Nat).testBit i=decide (i<8):=Nat.testBit_two_pow_sub_one 8 i
  rw [h1,h2]
  by_cases h8:i<8
  ·have:¬ i≥8:=by omega
   simp [this]
  ·simp [h8]
   omega
 rw [e,BitVec.toNat_ofNat,Nat.mod_eq_of_lt (by omega)]
 exact pp (by omega) (by omega)
theorem wL {a k:Nat} (ha:256 * a<18446744073709551616) (hk:k<255):fC ((256 * a:Nat):Int) k=((256 * a+(k+1):Nat):Int):=by
 unfold fC
 have e:((k:Int)+1)=((k+1:Nat):Int):=by omega
 rw [e,xd _ _ ha (by omega)]
 congr 1
 exact (Nat.two_pow_add_eq_or_of_lt (i:=8) (by omega) a).symm
theorem BL {a:Nat}:bshr .u64 ((256 * a:Nat):Int) 8=(a:Int):=by
 show Int.fdiv ((256 * a:Nat):Int) 256=_
 rw [Int.fdiv_eq_ediv_of_nonneg _ (by decide)]
 omega
theorem wM {a:Nat} (ha:256 * (a+1)<18446744073709551616):tL ((256 * a:Nat):Int)=((256 * (a+1):Nat):Int):=by
 unfold tL
 rw [BL]
 show IntKind.u64.wrap (((a:Int)+1) * 256)=_
 rw [pp (by omega) (by omega)]
 omega
theorem zC {p:aG} (h:iC p=true):∃ a:Nat,p.Head=((256 * a:Nat):Int)∧1≤a∧a≤281474976710654:=by
 simp only [iC,lC,unl,Bool.and_eq_true,decide_eq_true_eq,beq_iff_eq] at h
 obtain ⟨⟨h1,h2⟩,h3⟩:=h
 have e:bshr .u64 p.Head 8=p.Head / 256:=by
  show Int.fdiv p.Head 256=_
  rw [Int.fdiv_eq_ediv_of_nonneg _ (by decide)]
 rw [e] at h1 h2
 obtain ⟨x,hx⟩:∃ x:Nat,p.Head=x:=⟨p.Head.toNat,by omega⟩
 rw [hx] at h1 h2 h3 ⊢
 rw [yC (by omega)] at h3
 exact ⟨x / 256,by omega,by omega,by omega⟩
theorem BM {p:aG} {a:Nat} (h:p.Head=((256 * a:Nat):Int)) (h1:1≤a) (h2:a≤281474976710654):iC p=true:=by
 simp only [iC,lC,unl,Bool.and_eq_true,decide_eq_true_eq,beq_iff_eq]
 rw [h,BL,yC (by omega)]
 omega
theorem Dh {l:List aG} (h:∀ i,i<l.length→ascP l i=true):∀ a b (ha:a<l.length) (hb:b<l.length),a<b→l[a].Line<l[b].Line:=by
 intro a b ha hb hab
 induction b with
 |zero=>omega
 |succ b ih=>
  have h1:=h (b+1) hb
  simp only [ascP,Bool.or_eq_true,decide_eq_true_eq,List.getD_eq_getElem?_getD] at h1
  have hb':b<l.length:=by omega
  rw [Nat.add_sub_cancel,List.getElem?_eq_getElem hb',List.getElem?_eq_getElem hb] at h1
  have h1:l[b].Line<l[b+1].Line:=h1.resolve_left (by omega)
  by_cases e:a=b
  ·subst e
   exact h1
  ·have:=ih hb' (by omega)
   omega
theorem wN {l L:Int} (h:gR l L=true):∃ k:Nat,l=(k:Int)∧96≤k∧(k:Int)<L:=by
 simp only [gR,decide_eq_true_eq] at h
 exact ⟨l.toNat,by omega,by omega,by omega⟩
theorem cA.of_valid {E:Env} {i:Nat} {j:CJob} (hv:j.valid=0) (hc:j.client=(i:Int)) (h6:i<6) (hw:j.v=sY E.n) (hL:j.lines=E.L) (hs:j.writes≠[]) (hh:∀ p ∈ j.writes,p.Head=E.base p.Line.toNat 0) (hr:∀ s ∈ j.reads,s.Head=E.base s.Line.toNat 0):cA E i j:=by
 have hv0:=hv
 have hlen:0<j.writes.length:=List.length_pos_iff.2 hs
 unfold CJob.valid at hv
 split at hv
 ·omega
 split at hv
 ·next h=>exact absurd hv h
 split at hv
 ·omega
 next hln=>
 split at hv
 ·next h=>exact absurd hv h.2
 next h1=>
 split at hv
 ·omega
 next h24=>
 split at hv
 ·omega
 next hrl=>
 split at hv
 ·omega
 next hrs=>
 have h1:iD j.seq j.writes j.lines=0:=Decidable.not_not.1 λe=>h1 ⟨hlen,e⟩
 unfold iD at h1
 split at h1
 ·omega
 split at h1
 ·omega
 next hsq=>
 split at h1
 ·omega
 next hwl=>
 split at h1
 ·omega
 next hws=>
 have hwl:∀ p ∈ j.writes,gR p.Line j.lines=true:=List.all_eq_true.1 (by simpa using hwl)
 have hrl:∀ p ∈ j.reads,gR p.Line j.lines=true:=List.all_eq_true.1 (by simpa using hrl)
 have hws:∀ i,i<j.writes.length→ascP j.writes i=true∧iC (j.writes.getD i noP)=true:=λi hi=>by
  have:=List.all_eq_true.1 (show (List.range j.writes.length).all (λi=>ascP j.writes i && iC (j.writes.getD i noP))=true by simpa using hws) i (List.mem_range.2 hi)
  rwa [Bool.and_eq_true] at this
 have hrs:∀ i,i<j.reads.length→n0 j.reads j.writes i=true:=λi hi=>List.all_eq_true.1 (show (List.range j.reads.length).all (n0 j.reads j.writes)=true by simpa using hrs) i (List.mem_range.2 hi)
 have hlt:=Dh λi hi=>(hws i hi).1
 have hhd:∀ p ∈ j.writes,∃ a:Nat,p.Head=((256 * a:Nat):Int)∧1≤a∧a≤281474976710654:=λp hp=>by
  obtain ⟨k,hk,rfl⟩:=List.getElem_of_mem hp
  have:=(hws k hk).2
  rw [List.getD_eq_getElem?_getD,List.getElem?_eq_getElem hk] at this
  exact zC this
 refine ⟨hc,h6,hv0,hw,hs,by omega,by omega,λp hp=>?_,λp hp=>?_,λp hp q hq e=>?_,?_,hh,λp hp k hk=>?_,λp hp=>?_,hr,λs hsm p hp e=>?_⟩
 ·obtain ⟨k,e1,e2,e3⟩:=wN (hwl p hp)
  exact ⟨k,e1,e2,by omega⟩
 ·obtain ⟨k,e1,e2,e3⟩:=wN (hrl p hp)
  exact ⟨k,e1,e2,by omega⟩
 ·obtain ⟨a,ha,rfl⟩:=List.getElem_of_mem hp
  obtain ⟨b,hb,rfl⟩:=List.getElem_of_mem hq
  rcases Nat.lt_trichotomy a b with h | h | h
  ·have:=hlt a b ha hb h
   omega
  ·subst h
   rfl
  ·have:=hlt b a hb ha h
   omega
 ·rw [List.nodup_iff_pairwise_ne,List.pairwise_map,List.pairwise_iff_getElem]
  intro a b ha hb hab e
  have:=hlt a b ha hb hab
  omega
 ·obtain ⟨a,e,h1,h2⟩:=hhd p hp
  rw [e,wL (by omega) (by omega),wL (by omega) (by omega)]
  exact ⟨by omega,λe=>by omega⟩
 ·obtain ⟨a,e,h1,h2⟩:=hhd p hp
  rw [e,wM (by omega)]
  omega
 ·obtain ⟨k,hk,rfl⟩:=List.getElem_of_mem hsm
  have:=hrs k hk
  simp only [n0,Bool.and_eq_true,List.getD_eq_getElem?_getD,List.getElem?_eq_getElem hk,Bool.not_eq_true',has,List.any_eq_false,decide_eq_true_eq] at this
  exact this.2 p hp e.symm
theorem BN {seq L:Int} {W:List aG} (hL:98≤L∧L≤256) (hs:1≤seq∧seq<1073741824) (h1:1≤W.length) (h12:W.length≤12) (hw:∀ p ∈ W,gR p.Line L=true) (ha:W.Pairwise λp q=>p.Line<q.Line) (hh:∀ p ∈ W,iC p=true):iD seq W L=0:=by
 unfold iD
 rw [if_neg (by omega),if_neg (by omega),if_neg,if_neg]
 ·rw [Bool.not_eq_false,List.all_eq_true]
  intro i hi
  have hi:=List.mem_range.1 hi
  rw [Bool.and_eq_true,List.getD_eq_getElem?_getD,List.getElem?_eq_getElem hi]
  refine ⟨?_,hh _ (List.getElem_mem hi)⟩
  unfold ascP
  rw [Bool.or_eq_true]
  cases i with
  |zero=>exact .inl rfl
  |succ i=>
   right
   rw [List.getD_eq_getElem?_getD,List.getD_eq_getElem?_getD,Nat.add_sub_cancel,List.getElem?_eq_getElem (by omega),List.getElem?_eq_getElem hi]
   exact decide_eq_true (List.pairwise_iff_getElem.1 ha i (i+1) (by omega) hi (by omega))
 ·rw [Bool.not_eq_false,List.all_eq_true]
  exact hw
theorem xK {n:Nat} (hn:1≤n∧n≤5):(sY n).valid 5=0:=by
 obtain rfl | rfl | rfl | rfl | rfl:n=1∨n=2∨n=3∨n=4∨n=5:=by omega
 all_goals rfl
theorem Di {i n:Nat} {seq L:Int} {W:List aG} (hi:i<6) (hn:1≤n∧n≤5) (hL:98≤L∧L≤256) (hs:1≤seq∧seq<1073741824) (h1:1≤W.length) (h12:W.length≤12) (hw:∀ p ∈ W,gR p.Line L=true) (ha:W.Pairwise λp q=>p.Line<q.Line) (hh:∀ p ∈ W,iC p=true):CJob.valid ⟨(i:Int),seq,L,sY n,[],W⟩=0:=by
 unfold CJob.valid
 simp only
 rw [if_neg (by omega),if_neg (by rw [xK hn];simp),if_neg (by omega),if_neg (λe=>e.2 (BN hL hs h1 h12 hw ha hh)),if_neg (by simp),if_neg (by simp),if_neg (by simp)]
end Go.Proofs.YtegepanmkjemjaaGreat
namespace Go.Proofs.YtegepanmkjemjaaGreat
open Go.Eng C12
def pgOf (B:Nat→Nat→Int) (l:Nat):aG:=⟨l,B l 0,B l 1,B l 2,B l 3,B l 4,B l 5,B l 6,B l 7⟩
theorem rm.page {n L:Nat} {B:Nat→Nat→Int} {bc:Nat→Int} {F:Fab} (h:rm n L B bc F) {m:Nat} {x:aO} (hx:F.nodes[m]?=some x) {l:Nat} (h1:96≤l) (h2:l<L):x.page l=pgOf B l:=by
 have g:=h.heap l h1 h2 m x hx
 have g0:=g 0 (by omega)
 rw [Nat.add_zero] at g0
 unfold aO.page pgOf
 rw [g0,g 1 (by omega),g 2 (by omega),g 3 (by omega),g 4 (by omega),g 5 (by omega),g 6 (by omega),g 7 (by omega)]
structure Cnt (L:Nat) (B:Nat→Nat→Int) (c:Nat→Nat):Prop where
 head:∀ l:Nat,96≤l→l<L→B l 0=((256 * (1+c l):Nat):Int)
 data:∀ l:Nat,96≤l→l<L→B l 1=(c l:Int)
 few:∀ l:Nat,96≤l→l<L→c l≤1000000
theorem rm.eqX {n L:Nat} {B:Nat→Nat→Int} {bc:Nat→Int} {X:FabX} (h:rm n L B bc X.pure) (hL:98≤L∧L≤256) (hB:∀ l:Nat,96≤l→l<L→B l 0 % 256=0):EqX X n L:=by
 have get:∀ (i:Nat) (x:jZ),X.nodes[i]?=some x→X.pure.nodes[i]?=some x.n:=λi x hx=>by
  simp [FabX.pure,hx]
 have hl:X.nodes.length=n:=by
  rw [←h.len]
  simp [FabX.pure]
 refine ⟨hl,λi x x0 hx h0=>⟨(h.fix i _ (get i x hx)).up,λl h1 h2=>⟨?_,?_⟩,λc hc=>⟨?_,?_⟩⟩,λi x hx=>?_,hL.2,hL.1⟩
 ·rw [h.page (get 0 x0 h0) h1 h2,h.page (get i x hx) h1 h2]
 ·have:=h.heap l h1 h2 0 _ (get 0 x0 h0) 0 (by omega)
  rw [Nat.add_zero] at this
  rw [this]
  exact hB l h1 h2
 ·rw [h.clock c hc 0 _ (get 0 x0 h0),h.clock c hc i _ (get i x hx)]
 ·rw [(h.fix 0 _ (get 0 x0 h0)).door c hc,(h.fix i _ (get i x hx)).door c hc]
 ·rw [(h.fix i _ (get i x hx)).len]
  omega
theorem ul (y:Nat):(bD y).Pairwise (·<·):=by
 unfold bD g9
 rw [List.pairwise_map]
 refine (List.pairwise_lt_range.filter _).imp λh=>?_
 omega
theorem kX:∀ y,y<14→1≤(bD y).length∧(bD y).length≤3:=by decide
def cW (B:Nat→Nat→Int) (i y:Nat):List aG:=(bD y).map λl=>bump i (pgOf B l)
def cJob (n L:Nat) (B:Nat→Nat→Int) (i:Nat) (seq:Int) (y:Nat):CJob:=⟨(i:Int),seq,L,sY n,[],cW B i y⟩
def cEnv (n L:Nat) (B:Nat→Nat→Int) (bc:Nat→Int) (m:Nat) (sq:Nat→Int) (ys:Nat→Nat):Env:=⟨n,L,B,bc,List.range m,λi=>cJob n L B i (sq i) (ys i),false⟩
theorem yD {B:Nat→Nat→Int} {i y:Nat} {p:aG}:p ∈ cW B i y↔∃ l,l ∈ bD y∧p=bump i (pgOf B l):=by
 unfold cW
 rw [List.mem_map]
 exact ⟨λ⟨l,h1,h2⟩=>⟨l,h1,h2.symm⟩,λ⟨l,h1,h2⟩=>⟨l,h1,h2.symm⟩⟩
theorem wP {L:Nat} {B:Nat→Nat→Int} {c:Nat→Nat} (h:Cnt L B c) {i l:Nat} (h1:96≤l) (h2:l<L):(bump i (pgOf B l)).Head=((256 * (1+c l):Nat):Int):=by
 show vn .u64 (B l 0) 255=_
 have:=h.few l h1 h2
 rw [h.head l h1 h2]
 exact BK (by omega)
theorem E1 {n L:Nat} {B:Nat→Nat→Int} {bc:Nat→Int} {m:Nat} {sq:Nat→Int} {ys:Nat→Nat} {c:Nat→Nat} (hB:Cnt L B c) (hn:1≤n∧n≤5) (hL:100≤L∧L≤256) (hm:m≤6) (hs:∀ i,i<m→1≤sq i∧sq i<1073741824) (hy:∀ i,i<m→ys i<14):fE (cEnv n L B bc m sq ys):=by
 refine ⟨hn,⟨by show 98≤L;omega,hL.2⟩,List.nodup_range,λi hi=>?_⟩
 have hi:i<m:=List.mem_range.1 hi
 obtain ⟨hl1,hl3⟩:=kX (ys i) (hy i hi)
 have hlen:(cW B i (ys i)).length=(bD (ys i)).length:=by simp [cW]
 have hp:∀ p ∈ cW B i (ys i),∃ l:Nat,p.Line=(l:Int)∧96≤l∧l<100∧p.Head=((256 * (1+c l):Nat):Int):=λp hp=>by
  obtain ⟨l,hl,rfl⟩:=yD.1 hp
  obtain ⟨h1,h2⟩:=mw hl
  exact ⟨l,rfl,h1,h2,wP hB h1 (by omega)⟩
 refine cA.of_valid (Di (i:=i) (n:=n) (seq:=sq i) (L:=L) (by omega) hn (by omega) (hs i hi) (by rw [hlen];omega) (by rw [hlen];omega) (λp h=>?_) ?_ λp h=>?_) rfl (by omega) rfl rfl (λe=>?_) (λp h=>?_) λs hs=>by cases hs
 ·obtain ⟨l,e,h1,h2,_⟩:=hp p h
  rw [e]
  exact decide_eq_true (by omega)
 ·unfold cW
  rw [List.pairwise_map]
  exact List.Pairwise.imp (R:=λa b:Nat=>a<b) (λ{a b} h=>show (a:Int)<(b:Int) by omega) (ul (ys i))
 ·obtain ⟨l,e,h1,h2,h3⟩:=hp p h
  have:=hB.few l h1 (by omega)
  exact BM h3 (by omega) (by omega)
 ·have e:cW B i (ys i)=[]:=e
  rw [e] at hlen
  simp at hlen <;> omega
 ·obtain ⟨l,e,h1,h2,h3⟩:=hp p h
  show p.Head=B p.Line.toNat 0
  rw [e,Int.toNat_natCast,h3,hB.head l h1 (by omega)]
def cntW (m:Nat) (dn:Nat→Bool) (ys:Nat→Nat) (l:Nat):Nat:=((List.range m).filter λi=>dn i && (bD (ys i)).contains l).length
theorem F9 {l:List Nat} (hd:l.Nodup) {i:Nat} (hi:i ∈ l) (ha:∀ k ∈ l,k=i):l.length=1:=by
 cases l with
 |nil=>cases hi
 |cons a l=>
  cases l with
  |nil=>rfl
  |cons b l=>
   have h1:=ha a (by simp)
   have h2:=ha b (by simp)
   rw [List.nodup_cons] at hd
   exact absurd (by rw [h1,h2];simp) hd.1
theorem BO {n L:Nat} {B:Nat→Nat→Int} {bc:Nat→Int} {m:Nat} {sq:Nat→Int} {ys:Nat→Nat} {c:Nat→Nat} (hB:Cnt L B c) (hL:100≤L∧L≤256) (hc:∀ l:Nat,96≤l→l<L→c l<1000000) {r:Fab×List (Tk conv)} {dn:Nat→Bool} (h:Round (cEnv n L B bc m sq ys) r dn) :
  Cnt L (tq (cEnv n L B bc m sq ys) dn) (λl=>c l+cntW m dn ys l)∧∀ l,cntW m dn ys l≤1:=by
 have key:∀ l,(wK (cEnv n L B bc m sq ys) dn l=none∧cntW m dn ys l=0)∨∃ i:Nat,wK (cEnv n L B bc m sq ys) dn l=some (bump i (pgOf B l))∧cntW m dn ys l=1:=λl=>by
  cases hw:wK (cEnv n L B bc m sq ys) dn l with
  |none=>
   refine .inl ⟨rfl,?_⟩
   unfold cntW
   rw [List.length_eq_zero_iff,List.filter_eq_nil_iff]
   intro i hi hh
   rw [Bool.and_eq_true] at hh
   have hl:l ∈ bD (ys i):=List.contains_iff_mem.1 hh.2
   exact uk hw (i:=i) hi hh.1 (p:=bump i (pgOf B l)) (yD.2 ⟨l,hl,rfl⟩) (Int.toNat_natCast l)
  |some p=>
   obtain ⟨i,hi,hd,hp,hl⟩:=uj hw
   obtain ⟨l',hl',rfl⟩:=yD.1 hp
   have e:l'=l:=by rw [←hl];exact (Int.toNat_natCast l').symm
   subst e
   refine .inr ⟨i,rfl,F9 (List.nodup_range.filter _) (i:=i) (List.mem_filter.2 ⟨hi,by rw [Bool.and_eq_true];exact ⟨hd,List.contains_iff_mem.2 hl'⟩⟩) λk hk=>?_⟩
   obtain ⟨h1,h2⟩:=List.mem_filter.1 hk
   rw [Bool.and_eq_true] at h2
   by_cases e:k=i
   ·exact e
   ·exact absurd rfl (h.excl k i h1 hi e h2.1 hd (bump (k:Nat) (pgOf B l')) (yD.2 ⟨l',List.contains_iff_mem.1 h2.2,rfl⟩) (bump (i:Nat) (pgOf B l')) hp)
 refine ⟨⟨λl h1 h2=>?_,λl h1 h2=>?_,λl h1 h2=>?_⟩,λl=>?_⟩
 ·have h3:=hB.head l h1 h2
  have h4:=hc l h1 h2
  unfold tq
  rcases key l with ⟨e1,e2⟩ | ⟨i,e1,e2⟩
  ·rw [e1,e2]
   exact h3
  ·rw [e1,e2]
   show tL (bump i (pgOf B l)).Head=_
   rw [wP hB h1 h2,wM (by omega)]
   congr 1
 ·have h3:=hB.data l h1 h2
  have h4:=hc l h1 h2
  unfold tq
  rcases key l with ⟨e1,e2⟩ | ⟨i,e1,e2⟩
  ·rw [e1,e2]
   exact h3
  ·rw [e1,e2]
   show IntKind.u64.wrap (B l 1+1)=_
   rw [h3,pp (by omega) (by omega)]
   omega
 ·have h4:=hc l h1 h2
  rcases key l with ⟨e1,e2⟩ | ⟨i,e1,e2⟩
  ·rw [e2];omega
  ·rw [e2];omega
 ·rcases key l with ⟨e1,e2⟩ | ⟨i,e1,e2⟩
  ·rw [e2];omega
  ·rw [e2];omega
def Dj (l k:Nat):Int:=if k=0 then 256 else 0
def xL (n L:Nat):Bool:=
 let w:=fmt L n
 w.length == L * 8 && (w.getD 0 0 == 1 && (w.getD 1 0 == 1 && ((List.range 6).all (λc=>w.getD (24+c) 0 == 1 && w.getD (32+c) 0 == 0) && (List.range (L - 96)).all λq=>(List.range 8).all λk=>w.getD ((q+96) * 8+k) 0 == Dj 0 k)))
theorem xM {n L:Nat} (hn:1≤n∧n≤5) (hL:98≤L∧L≤256) (h:xL n L=true):rm n L Dj (λ_=>0) (Fab.fresh n 6 L):=by
 simp only [xL,Bool.and_eq_true,List.all_eq_true,List.mem_range,beq_iff_eq] at h
 obtain ⟨h1,h2,h3,h4,h5⟩:=h
 have hx:∀ (m:Nat) (x:aO),(Fab.fresh n 6 L).nodes[m]?=some x→x=⟨fmt L n,false⟩:=λm x e=>by
  have e:=List.mem_of_getElem? e
  exact (List.mem_replicate.1 e).2
 refine ⟨Fine.fresh hn (by omega) hL,rfl,by simp [Fab.fresh],λm x e=>?_,λl l1 l2 m x e k hk=>?_,λc hc m x e=>?_,λi C e=>?_,λk hk=>?_,rfl⟩
 ·rw [hx m x e]
  exact ⟨rfl,h1,h2,h3,λc hc=>(h4 c hc).1⟩
 ·rw [hx m x e]
  have:=h5 (l - 96) (by omega) k hk
  rw [show l - 96+96=l by omega] at this
  exact this
 ·rw [hx m x e]
  exact (h4 c hc).2
 ·have e:=List.mem_of_getElem? e
  obtain ⟨q,hq,rfl⟩:=List.mem_map.1 e
  have hln:∀ (k:Nat) (l:Lane),(ng n q).lanes[k]?=some l→l.pair.verbs=[]∧l.pair.words=[]:=λk l hl=>by
   have hl:=List.mem_of_getElem? hl
   unfold ng ee at hl
   simp only at hl
   obtain ⟨z,hz,rfl⟩:=List.mem_map.1 hl
   exact ⟨rfl,rfl⟩
  refine ⟨rfl,λk l hl=>(hln k l hl).1,rfl,rfl,by simp [ng,ee],λk l hl=>?_⟩
  intro v vs' e _
  rw [(hln k l hl).1] at e
  cases e
 ·exact ⟨ng n k,by simp [Fab.fresh,hk]⟩
theorem BP {L:Nat}:Cnt L Dj λ_=>0:=⟨λ_ _ _=>rfl,λ_ _ _=>rfl,λ_ _ _=>by omega⟩
theorem xO {n:Nat} (hn:1≤n∧n≤5):xL n 100=true:=by
 obtain rfl | rfl | rfl | rfl | rfl:n=1∨n=2∨n=3∨n=4∨n=5:=by omega
 all_goals kernel_rfl
end Go.Proofs.YtegepanmkjemjaaGreat
namespace Go.Proofs.YtegepanmkjemjaaGreat
open Go.Proofs.Tryz
open Go.Eng C12
structure Law (w z:World) (n:Nat) (lines:Int) (fb p:Nat) (A:Nat→Prop) (χ:Nat→Tag) (X:FabX) (rv:aM):Prop where
 fab:aW A χ z fb X
 new:New w z
 own:∀ k,A k→w.heap.size≤k
 box:Blk z p (fofC fb lines rv) TFo
 out:¬ A p
 view:ViewAt A z rv (sY n)
theorem Law.noop {w z z':World} {n:Nat} {lines:Int} {fb p:Nat} {A:Nat→Prop} {χ:Nat→Tag} {X:FabX} {rv:aM} (h:Law w z n lines fb p A χ X rv) (hn:New z z'):Law w z' n lines fb p A χ X rv:=
 ⟨h.fab.new hn,h.new.new hn,h.own,New.blk hn h.box,h.out,h.view.new hn⟩
theorem Made.law {w u:World} {n lines:Nat} {fb p:Nat} {A:Nat→Prop} {χ:Nat→Tag} {X:FabX} {rv:aM} (h:Made w u n lines fb p A χ X rv):Law w u n lines fb p A χ X rv:=⟨h.fab,h.new,h.own,h.box,h.out,h.view⟩
theorem Law.other {w z z':World} {n:Nat} {lines:Int} {fb p b:Nat} {A:Nat→Prop} {χ:Nat→Tag} {X:FabX} {rv:aM} (h:Law w z n lines fb p A χ X rv) (hk:Keep (λk=>k=b) z z') (h1:¬ A b) (h2:b≠p) (h3:w.heap.size≤b) (hm:Rd z rv.Members (ir (stM n)).flatten→Rd z' rv.Members (ir (stM n)).flatten) (hf:aW A χ z' fb X):Law w z' n lines fb p A χ X rv:=by
 refine ⟨hf,h.new.trans hk λk hlt e=>by omega,h.own,hk.blk h.box λe=>h2 e.symm,h.out,?_⟩
 obtain ⟨a1,a2,a3,a4,a5,a6⟩:=h.view
 exact ⟨a1,a2,a3,hm a4,a5,a6⟩
theorem E2 {u:World} {a:Option Addr} {n cap:Nat} {L:List (TR×Tk conv)} (ho:Owns u TTa 25 a n cap (gX L).flatten) {x:TR×Tk conv} (hb1:n≤1000000) {K:Nat→Option Addr→Nat→Nat→World→Prop}
  (hk:∀ b ap cap' w3,b=u.heap.size→Owns w3 TTa 25 ap (n+1) cap' (gX (L++[x])).flatten→Keep (isB a) u w3→(∀ k,isB ap k→isB a k∨u.heap.size≤k)→K b ap (n+1) cap' w3) :
  ∀ b1 w2,b1=u.heap.size→w2=u.alloc (.cells x.1.cells.toArray TTa)→∃ (ap:Option Addr) (ap_len ap_cap:Nat),∃ w3,(Builtin.append_ #[61,61] 61 #[(.slice a n cap),(.slice (some ⟨b1,0,none⟩) 1 1)]).run prog w2=.ok (.slice ap ap_len ap_cap) w3∧K b1 ap ap_len ap_cap w3:=by
 obtain ⟨inf,hi,hz,hsz,hby⟩:=jD (T:=TTa) (z:=.agg #[(.int .i64 0),(.int .i64 0),(.int .i64 0),(.int .i64 0),(.int .i64 0),(.int .i64 0),(.int .i64 0),(.int .u64 0),(.int .i64 0),(.int .i64 0),(.int .i64 0),(.int .i64 0),(.slice none 0 0),(.slice none 0 0),(.slice none 0 0),(.slice none 0 0),(.bool false),(.bool false),(.int .i64 0),(.int .i64 0),(.slice none 0 0),(.int .i64 0),(.slice none 0 0),(.int .u64 0),(.int .i64 0)]) (n:=25) (m:=288) (by kernel_rfl)
 rw [←hsz] at ho
 refine push_k Tryz.underlying61 hi hz (by rw [hsz];rfl) (by omega) ho (by rw [hsz];rfl) (aB.single x.1) (by omega) (by omega) ?_
 intro b ap cap' w3 h1 h2
 have e:(gX L).flatten++x.1.cells=(gX (L++[x])).flatten:=by simp [gX]
 rw [hsz,e] at h2
 exact hk b ap cap' w3 h1 h2
attribute [local irreducible] drive
theorem Law.drive_c {w z:World} {n:Nat} {lines:Int} {fb p:Nat} {A:Nat→Prop} {χ:Nat→Tag} {X:FabX} {rv:aM} (h:Law w z n lines fb p A χ X rv) (hf:Fine X.pure) {ts:List (TR×Tk conv)} {pa:Option Addr} {pl pc:Nat} (hpl:pl=ts.length) (hts:Rd z pa (gX ts).flatten) (htx:∀ x ∈ ts,eB A z x.1 x.2∧rO x.2) (htl:ts.length≤1000)
  {sch:List Int} {sa:Option Addr} {sl sc:Nat} (hsl:sl=sch.length) (hsd:Rd w sa (is sch)) (hsi:∀ x ∈ sch,I64 x) {most:Nat} (hm:most≤1000000) {tl:List (Tk conv)} (htt:ts.map Prod.snd=tl) :
  Does 23 [ptr fb,.slice pa pl pc,.slice sa sl sc,.slice none 0 0,.int .i64 most] z λv u=>∃ la lc ts' A' χ' X',v=.slice la ts'.length lc∧Law w u n lines fb p A' χ' X' rv∧X'.pure=(drive X.pure tl sch [] most).1∧ts'.map Prod.snd=(drive X.pure tl sch [] most).2∧Rd u la (gX ts').flatten∧(∀ x ∈ ts',eB A' u x.1 x.2)∧Keep A z u∧∀ k,k<z.heap.size→A' k→A k:=by
 subst hpl hsl htt
 have hdr:=xF h.fab hf hts htx htl (pc:=pc) (Bu hsd h.new h.own) hsi (sc:=sc) (es:=[]) (ea:=none) (ec:=0) ⟨.inl rfl,.inl rfl⟩ (λx hx=>by cases hx) (by simp) hm
 refine aF hdr ?_
 rintro v u ⟨A',χ',X',hN,hF,hX,la,lc,ts',rfl,hts',how,hnB,htx'⟩
 have hkA:Keep A z u:=hN.keep.mono λk _ hc=>h.fab.avoid k hc
 have hmono:∀ k,k<z.heap.size→A' k→A k:=λk hlt hk=>by
  rcases (hN.iff k).1 hk with h1 | ⟨_,h1,_⟩
  ·exact h.fab.avoid k (hN.grow k hlt h1)
  ·exact h1
 have hlen:ts'.length=(drive X.pure (ts.map Prod.snd) sch [] most).2.length:=by rw [←hts',List.length_map]
 refine ⟨_,rfl,la,lc,ts',A',χ',X',by rw [hlen],⟨hF,h.new.trans hkA λk hlt hk=>by have:=h.own k hk;omega,λk hk=>?_,hkA.blk h.box h.out,λhk=>h.out (hmono p h.box.lt hk),C12.ViewAt.keep h.view hkA hmono⟩,hX,hts',how.rd,htx',hkA,hmono⟩
 have:=h.new.size
 by_cases hlt:k<z.heap.size
 ·exact h.own k (hmono k hlt hk)
 ·omega
theorem E3 {ts:List (TR×Tk conv)} {l:List (Tk conv)} (h:ts.map Prod.snd=l) {k:Nat} {t:Tk conv} (hk:l[k]?=some t):∃ r,ts[k]?=some (r,t):=by
 rw [←h,List.getElem?_map] at hk
 cases hx:ts[k]? with
 |none=>rw [hx] at hk;cases hk
 |some x=>
  rw [hx] at hk
  obtain ⟨r,t'⟩:=x
  cases hk
  exact ⟨r,rfl⟩
end Go.Proofs.YtegepanmkjemjaaGreat
namespace Go.Proofs.YtegepanmkjemjaaGreat
open Go.Eng C12
theorem wQ (i:Nat) (dn:Nat→Bool) (ys:Nat→Nat) (l:Nat):cntW (i+1) dn ys l=cntW i dn ys l+if (dn i && (bD (ys i)).contains l)=true then 1 else 0:=by
 unfold cntW
 rw [List.range_succ,List.filter_append,List.length_append]
 congr 1
 rw [List.filter_cons]
 split<;>rfl
theorem E4 (i:Nat) (dn:Nat→Bool) (ys:Nat→Nat) (l:Nat):cntW i dn ys l≤i:=by
 unfold cntW
 exact Nat.le_trans (List.length_filter_le _ _) (by simp)
def kY (f:Nat→Nat):List Value:=[.int .u64 (f 0),.int .u64 (f 1),.int .u64 (f 2),.int .u64 (f 3)]
theorem um {f:Nat→Nat} {q:Nat} (hq:q<4):(kY f)[q]?=some (.int .u64 (f q)):=by
 obtain rfl | rfl | rfl | rfl:q=0∨q=1∨q=2∨q=3:=by omega
 all_goals rfl
theorem zD {f g:Nat→Nat} {q:Nat} (hq:q<4) (h:∀ k,k<4→g k=f k+if k=q then 1 else 0):(kY f).set q (.int .u64 ((f q+1:Nat):Int))=kY g:=by
 unfold kY
 rw [h 0 (by omega),h 1 (by omega),h 2 (by omega),h 3 (by omega)]
 obtain rfl | rfl | rfl | rfl:q=0∨q=1∨q=2∨q=3:=by omega
 all_goals rfl
theorem ox {f g:Nat→Nat} (h:∀ k,k<4→g k=f k):kY f=kY g:=by
 unfold kY
 rw [h 0 (by omega),h 1 (by omega),h 2 (by omega),h 3 (by omega)]
theorem wR (y:Nat):(bD y).Nodup:=List.Pairwise.imp (R:=λa b:Nat=>a<b) (λ{a b} h=>Nat.ne_of_lt h) (ul y)
def amid (c:Nat→Nat) (y s q:Nat):Nat:=c q+((bD y).take s).count (96+q)
theorem BQ (c:Nat→Nat) (y q:Nat):amid c y 0 q=c q:=by simp [amid]
theorem Dk (c:Nat→Nat) (y q:Nat):amid c y (bD y).length q=c q+if (bD y).contains (96+q)=true then 1 else 0:=by
 unfold amid
 rw [List.take_length]
 congr 1
 by_cases h:96+q ∈ bD y
 ·rw [if_pos (List.contains_iff_mem.2 h)]
  exact (wR y).count.trans (if_pos h)
 ·rw [if_neg λe=>h (List.contains_iff_mem.1 e)]
  exact List.count_eq_zero_of_not_mem h
theorem BR {c:Nat→Nat} {y s l:Nat} (h:(bD y)[s]?=some l) (q:Nat):amid c y (s+1) q=amid c y s q+if q=l - 96 then 1 else 0:=by
 have hl:=mw (List.mem_of_getElem? h)
 unfold amid
 rw [List.take_add_one,h,List.count_append,Nat.add_assoc]
 congr 2
 show List.count (96+q) [l]=_
 rw [List.count_singleton]
 by_cases e:q=l - 96
 ·rw [if_pos e,if_pos (by simp;omega)]
 ·rw [if_neg e,if_neg (by simp;omega)]
theorem E5 (c:Nat→Nat) (y s q:Nat) (hy:y<14):amid c y s q≤c q+3:=by
 unfold amid
 have h1:=List.count_le_length (a:=96+q) (l:=(bD y).take s)
 have h2:=(kX y hy).2
 rw [List.length_take] at h1
 omega
structure Ga (u:World) (r:TR) (d:Bool) (W:List aG):Prop where
 over:r.Over=true
 bad:r.Bad=false
 code:r.Code=if d=true then 0 else 7
 fate:r.Fate=if d=true then 3 else 1
 rd:Rd u r.Commit.Writes (kP W).flatten
 len:r.Commit.Writes_l=W.length
end Go.Proofs.YtegepanmkjemjaaGreat
namespace Go.Proofs.YtegepanmkjemjaaGreat
open Go.Eng IntKind
end Go.Proofs.YtegepanmkjemjaaGreat
namespace Go.Proofs.YtegepanmkjemjaaGreat
open Go.Eng C12
attribute [local irreducible] drive
def RP (w:World) (v:Value) (u:World):Prop:=v=.bool true∧New w u
abbrev T4u:TypeId:=66
end Go.Proofs.YtegepanmkjemjaaGreat
namespace Go.Proofs.YtegepanmkjemjaaGreat
open Go.Proofs.Tryz
open Go.Eng C12
attribute [local irreducible] drive
structure kZ (w3 z:World) (n:Nat) (A:Nat→Prop) (B:Nat→Nat→Int) (sq:Nat→Int) (ys:Nat→Nat) (i:Nat) (ap:Option Addr) (cap:Nat) (ts:List (TR×Tk conv)):Prop where
 new:Keep A w3 z
 own:Owns z TTa 25 ap i cap (gX ts).flatten
 fr:∀ k,isB ap k→w3.heap.size≤k
 len:ts.length=i
 tx:∀ x ∈ ts,eB (λk=>A k∨isB ap k) z x.1 x.2∧rO x.2
 it:∀ (k:Nat) (x:TR×Tk conv),ts[k]?=some x→x.2=vl k (sq k) 100 n [] (cW B k (ys k))
theorem kZ.nil {w3:World} {n:Nat} {A:Nat→Prop} {B:Nat→Nat→Int} {sq:Nat→Int} {ys:Nat→Nat}:kZ w3 w3 n A B sq ys 0 none 0 []:=
 ⟨Keep.refl _ _,Owns.nil _ _ _,λk hk=>(lB hk).elim,rfl,(λx hx=>by cases hx),λk x h=>by cases h⟩
theorem kZ.noop {w3 z z':World} {n:Nat} {A:Nat→Prop} {B:Nat→Nat→Int} {sq:Nat→Int} {ys:Nat→Nat} {i:Nat} {ap:Option Addr} {cap:Nat} {ts:List (TR×Tk conv)} (h:kZ w3 z n A B sq ys i ap cap ts) (hn:New z z'):kZ w3 z' n A B sq ys i ap cap ts:=
 ⟨h.new.new hn,h.own.new hn,h.fr,h.len,λx hx=>⟨(h.tx x hx).1.keep (Keep.of_new hn) λ_ _ h=>h,(h.tx x hx).2⟩,h.it⟩
theorem kZ.write {w3 z z':World} {n:Nat} {A:Nat→Prop} {B:Nat→Nat→Int} {sq:Nat→Int} {ys:Nat→Nat} {i:Nat} {ap:Option Addr} {cap:Nat} {ts:List (TR×Tk conv)} {M:Nat→Prop} (h:kZ w3 z n A B sq ys i ap cap ts) (hk:Keep M z z') (hM:∀ k,M k→A k) (hp:∀ k,isB ap k→¬ M k):kZ w3 z' n A B sq ys i ap cap ts:=
 ⟨h.new.trans hk λk _ hk=>hM k hk,h.own.keep hk hp,h.fr,h.len,λx hx=>⟨(h.tx x hx).1.keep (hk.mono λk _ hk=>.inl (hM k hk)) λ_ _ h=>h,(h.tx x hx).2⟩,h.it⟩
theorem kZ.talks {w3 z:World} {n:Nat} {A:Nat→Prop} {B:Nat→Nat→Int} {sq:Nat→Int} {ys:Nat→Nat} {i:Nat} {ap:Option Addr} {cap:Nat} {ts:List (TR×Tk conv)} (h:kZ w3 z n A B sq ys i ap cap ts):∀ x ∈ ts,eB A z x.1 x.2∧rO x.2:=λx hx=>⟨(h.tx x hx).1.keep (Keep.refl _ _) λ_ _ h=>.inl h,(h.tx x hx).2⟩
theorem kZ.push {w3 z:World} {n:Nat} {A:Nat→Prop} {rv:aM} {B:Nat→Nat→Int} {sq:Nat→Int} {ys:Nat→Nat} {i:Nat} {ap:Option Addr} {cap:Nat} {ts:List (TR×Tk conv)} (hv:ViewAt A w3 rv (sY n)) (hlow:∀ k,A k→k<w3.heap.size) (h:kZ w3 z n A B sq ys i ap cap ts)
  {wa:Option Addr} {wl wc:Nat} (how:Owns z TPg 9 wa wl wc (kP (cW B i (ys i))).flatten) (hwl:wl=(cW B i (ys i)).length) (hw:∀ k,isB wa k→w3.heap.size≤k∧¬ isB ap k) (hu:∀ q ∈ cW B i (ys i),PgU q) (hy:ys i<14) (hi:i≤1000)
  {K:Nat→Option Addr→Nat→Nat→World→Prop} (hk:∀ b ap' cap' z' ts',kZ w3 z' n A B sq ys (i+1) ap' cap' ts'→Keep (isB ap) z z'→K b ap' (i+1) cap' z') :
  ∀ b1 w2,b1=z.heap.size→w2=z.alloc (.cells (ko i (sq i) 100 rv wa wl wc).cells.toArray TTa)→∃ (ap':Option Addr) (ap_len ap_cap:Nat),∃ w3,(Builtin.append_ #[61,61] 61 #[(.slice ap i cap),(.slice (some ⟨b1,0,none⟩) 1 1)]).run prog w2=.ok (.slice ap' ap_len ap_cap) w3∧K b1 ap' ap_len ap_cap w3:=by
 subst hwl
 have hsz:=h.new.size
 have hl3:=(kX (ys i) hy).2
 have hWl:(cW B i (ys i)).length=(bD (ys i)).length:=by simp [cW]
 have ht:eB (λk=>A k∨isB ap k) z (ko i (sq i) 100 rv wa (cW B i (ys i)).length wc) (vl i (sq i) 100 n [] (cW B i (ys i))):=by
  refine wH (C12.ViewAt.keep hv h.new λk hk hA=>?_) (.inl rfl) rfl (by simp) (.inl rfl) how.rd rfl (by omega) (mV how.rd λj hj hA=>?_) hu
  ·rcases hA with hA | hA
   ·exact hA
   ·have:=h.fr k hA;omega
  ·obtain ⟨h1,h2⟩:=hw j hj
   rcases hA with hA | hA
   ·have:=hlow j hA;omega
   ·exact h2 hA
 refine E2 h.own (x:=(ko i (sq i) 100 rv wa (cW B i (ys i)).length wc,vl i (sq i) 100 n [] (cW B i (ys i)))) (by omega) ?_
 intro b ap' cap' z' hb ho hk' hap
 have hfr':∀ k,isB ap' k→w3.heap.size≤k:=λk hk=>by
  rcases hap k hk with h1 | h1
  ·exact h.fr k h1
  ·omega
 have hkA:Keep (λk=>A k∨isB ap k) z z':=hk'.mono λ_ _ hk=>.inr hk
 have hmono:∀ k,k<z.heap.size→A k∨isB ap' k→A k∨isB ap k:=λk hlt hk=>hk.imp id λhk=>(hap k hk).resolve_right (by omega)
 refine hk b ap' cap' z' _ ⟨h.new.trans hk' λk hlt hk=>by have:=h.fr k hk;omega,ho,hfr',by rw [List.length_append,h.len];rfl,λx hx=>?_,λk x hx=>?_⟩ hk'
 ·rcases List.mem_append.1 hx with hx | hx
  ·exact ⟨(h.tx x hx).1.keep hkA hmono,(h.tx x hx).2⟩
  ·rw [List.mem_singleton.1 hx]
   exact ⟨ht.keep hkA hmono,tj _ _ _ _ _ _⟩
 ·by_cases hlt:k<ts.length
  ·rw [List.getElem?_append_left hlt] at hx
   exact h.it k x hx
  ·rw [List.getElem?_append_right (by omega)] at hx
   have hk0:k - ts.length=0:=by
    cases hq:k - ts.length with
    |zero=>rfl
    |succ q=>rw [hq] at hx;cases hx
   rw [hk0] at hx
   have hki:k=i:=by have:=h.len;omega
   subst hki
   cases hx
   rfl
end Go.Proofs.YtegepanmkjemjaaGreat
namespace Go.Proofs.YtegepanmkjemjaaGreat
open Go.Eng C12
attribute [local irreducible] drive
structure LawT (w w3 z:World) (n fb p b1 b2:Nat) (A:Nat→Prop) (χ:Nat→Tag) (rv:aM) (B:Nat→Prop) (ξ:Nat→Tag) (X:FabX):Prop where
 base:∃ X0,Law w w3 n 100 fb p A χ X0 rv
 tw:TW A χ w3 fb (λk=>k=b1∨k=b2) z B ξ X
section
variable {w w3 z z':World} {n fb p b1 b2:Nat} {A:Nat→Prop} {χ:Nat→Tag} {rv:aM} {B:Nat→Prop} {ξ:Nat→Tag} {X:FabX}
theorem LawT.keepA (h:LawT w w3 z n fb p b1 b2 A χ rv B ξ X):Keep A w3 z:=by
 obtain ⟨⟨X0,h0⟩,h1⟩:=h
 exact h1.next.keep.mono λk _ hc=>h0.fab.avoid k hc
theorem LawT.new (h:LawT w w3 z n fb p b1 b2 A χ rv B ξ X):New w z:=by
 obtain ⟨⟨X0,h0⟩,h1⟩:=h
 exact h1.mine h0.fab h0.new h0.own
theorem LawT.box (h:LawT w w3 z n fb p b1 b2 A χ rv B ξ X):Blk z p (fofC fb 100 rv) TFo:=by
 have hk:=h.keepA
 obtain ⟨⟨X0,h0⟩,h1⟩:=h
 exact hk.blk h0.box h0.out
theorem LawT.old (h:LawT w w3 z n fb p b1 b2 A χ rv B ξ X):∀ k,k<w3.heap.size→(B k∨(k=b1∨k=b2))→A k:=by
 obtain ⟨⟨X0,h0⟩,h1⟩:=h
 intro k hlt hk
 rcases hk with hk | hk
 ·rcases (h1.next.iff k).1 hk with g | g
  ·exact h0.fab.avoid k (h1.next.grow k hlt g)
  ·exact g.2.1
 ·have:=(h1.loc k hk).1
  omega
theorem LawT.own (h:LawT w w3 z n fb p b1 b2 A χ rv B ξ X):∀ k,(B k∨(k=b1∨k=b2))→w.heap.size≤k:=by
 have ho:=h.old
 obtain ⟨⟨X0,h0⟩,h1⟩:=h
 intro k hk
 by_cases hlt:k<w3.heap.size
 ·exact h0.own k (ho k hlt hk)
 ·have:=h0.new.size
  omega
theorem LawT.view (h:LawT w w3 z n fb p b1 b2 A χ rv B ξ X):ViewAt (λk=>B k∨(k=b1∨k=b2)) z rv (sY n):=by
 have hk:=h.keepA
 have ho:=h.old
 obtain ⟨⟨X0,h0⟩,h1⟩:=h
 exact C12.ViewAt.keep h0.view hk ho
theorem LawT.loc (h:LawT w w3 z n fb p b1 b2 A χ rv B ξ X) {k:Nat} (hk:k=b1∨k=b2):w3.heap.size≤k∧k<z.heap.size:=⟨(h.tw.loc k hk).1,(h.tw.loc k hk).2.1⟩
theorem LawT.low (h:LawT w w3 z n fb p b1 b2 A χ rv B ξ X) {k:Nat} (hk:B k∨(k=b1∨k=b2)):k<z.heap.size:=h.tw.fab.low k hk
theorem LawT.local (h:LawT w w3 z n fb p b1 b2 A χ rv B ξ X) (hk:Keep (λk=>k=b1∨k=b2) z z'):LawT w w3 z' n fb p b1 b2 A χ rv B ξ X:=⟨h.base,h.tw.local hk λ_ h=>h⟩
theorem LawT.noop (h:LawT w w3 z n fb p b1 b2 A χ rv B ξ X) (hn:New z z'):LawT w w3 z' n fb p b1 b2 A χ rv B ξ X:=⟨h.base,h.tw.new hn⟩
theorem LawT.drive_c (h:LawT w w3 z n fb p b1 b2 A χ rv B ξ X) (hf:Fine X.pure) {ts:List (TR×Tk conv)} {pa:Option Addr} {pl pc:Nat} (hpl:pl=ts.length) (hts:Rd z pa (gX ts).flatten) (htx:∀ x ∈ ts,eB (λk=>B k∨(k=b1∨k=b2)) z x.1 x.2∧rO x.2) (htl:ts.length≤1000)
  {sch:List Int} {sa:Option Addr} {sl sc:Nat} (hsl:sl=sch.length) (hsd:Rd w sa (is sch)) (hsi:∀ x ∈ sch,I64 x) {most:Nat} (hm:most≤1000000) {tl:List (Tk conv)} (htt:ts.map Prod.snd=tl) :
  Does 23 [ptr fb,.slice pa pl pc,.slice sa sl sc,.slice none 0 0,.int .i64 most] z λv u=>∃ la lc ts' B' ξ' X',v=.slice la ts'.length lc∧LawT w w3 u n fb p b1 b2 A χ rv B' ξ' X'∧X'.pure=(drive X.pure tl sch [] most).1∧ts'.map Prod.snd=(drive X.pure tl sch [] most).2∧Rd u la (gX ts').flatten∧(∀ x ∈ ts',eB (λk=>B' k∨(k=b1∨k=b2)) u x.1 x.2)∧Keep (λk=>B k∨(k=b1∨k=b2)) z u∧(∀ k,k<z.heap.size→B' k∨(k=b1∨k=b2)→B k∨(k=b1∨k=b2))∧(∀ k,(k=b1∨k=b2)→u.heap[k]?=z.heap[k]?)∧∀ k,isB la k→¬ (B' k∨(k=b1∨k=b2)):=by
 subst hpl hsl htt
 have hdr:=xF h.tw.fab hf hts htx htl (pc:=pc) (Bu hsd h.new h.own) hsi (sc:=sc) (es:=[]) (ea:=none) (ec:=0) ⟨.inl rfl,.inl rfl⟩ (λx hx=>by cases hx) (by simp) hm
 refine aF hdr ?_
 rintro v u hp
 obtain ⟨B',ξ',X',h3,hX,hK,hk3,hM3,hL3⟩:=h.tw.op hp
 obtain ⟨la,lc,ts',rfl,hts',how,hnB,htx'⟩:=hK
 have hlen:ts'.length=(drive X.pure (ts.map Prod.snd) sch [] most).2.length:=by rw [←hts',List.length_map]
 exact ⟨_,rfl,la,lc,ts',B',ξ',X',by rw [hlen],⟨h.base,h3⟩,hX,hts',how.rd,htx',hk3,hM3,hL3,hnB⟩
end
theorem Law.arrays {w w3 z:World} {n fb p b1 b2:Nat} {A:Nat→Prop} {χ:Nat→Tag} {rv:aM} {X:FabX} (h:Law w w3 n 100 fb p A χ X rv) (hn:New w3 z) (h1:w3.heap.size≤b1∧b1<z.heap.size) (h2:w3.heap.size≤b2∧b2<z.heap.size):LawT w w3 z n fb p b1 b2 A χ rv A χ X:=
 ⟨⟨X,h⟩,TW.start h.fab hn λk hk=>by rcases hk with rfl | rfl<;>assumption⟩
def mY (f:Nat→Int):List Value:=[.int .i64 (f 0),.int .i64 (f 1),.int .i64 (f 2),.int .i64 (f 3)]
theorem uo {f:Nat→Int} {q:Nat} (hq:q<4):(mY f)[q]?=some (.int .i64 (f q)):=by
 obtain rfl | rfl | rfl | rfl:q=0∨q=1∨q=2∨q=3:=by omega
 all_goals rfl
theorem zE {f g:Nat→Int} {q:Nat} {v:Int} (hq:q<4) (h:∀ k,k<4→g k=if k=q then v else f k):(mY f).set q (.int .i64 v)=mY g:=by
 unfold mY
 rw [h 0 (by omega),h 1 (by omega),h 2 (by omega),h 3 (by omega)]
 obtain rfl | rfl | rfl | rfl:q=0∨q=1∨q=2∨q=3:=by omega
 all_goals rfl
end Go.Proofs.YtegepanmkjemjaaGreat
