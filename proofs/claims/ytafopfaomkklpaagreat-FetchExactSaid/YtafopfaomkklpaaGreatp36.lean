/- A part of the proof. -/
import Derived.Test.YtafopfaomkklpaaGreatp35
set_option linter.unusedVariables false
namespace Go.Mx
open Go.Eng
theorem xj (m i:Nat):has m i=m.testBit i:=by
 rw [Nat.testBit_eq_decide_div_mod_eq]
 unfold has
 have h1:Nat.land (Nat.shiftRight m i) 1=m / 2 ^ i % 2:=by
  show (m >>> i) &&& 1=_
  rw [Nat.and_one_is_mod,Nat.shiftRight_eq_div_pow]
 rw [h1]
 by_cases h:m / 2 ^ i % 2=1
 ·rw [h];rfl
 ·rw [decide_eq_false h]
  cases hb:Nat.beq (m / 2 ^ i % 2) 1 with
  |true=>exact absurd (Nat.eq_of_beq_eq_true hb) h
  |false=>rfl
theorem Bu (i j:Nat):has (Nat.shiftLeft 1 i) j=decide (j=i):=by
 rw [xj]
 show (1 <<< i).testBit j=_
 rw [Nat.testBit_shiftLeft]
 by_cases h:j=i
 ·subst h;simp
 ·rw [decide_eq_false h]
  by_cases hle:i≤j
  ·have:j - i≠0:=by omega
   have h2:Nat.testBit 1 (j - i)=false:=by
    rw [Nat.testBit_eq_decide_div_mod_eq]
    have:1 / 2 ^ (j - i)=0:=Nat.div_eq_of_lt (Nat.one_lt_two_pow this)
    simp [this]
   simp [h2]
  ·simp [hle]
theorem Bv (a b j:Nat):has (Nat.lor a b) j=(has a j || has b j):=by
 rw [xj,xj,xj]
 exact Nat.testBit_or a b j
theorem v5 (j:Nat):has 0 j=false:=by rw [xj];exact Nat.zero_testBit j
theorem Bw (m i j:Nat):has (add m i) j=(has m j || decide (j=i)):=by unfold add;rw [Bv,Bu]
theorem v6:∀ (l:List Nat) (i:Nat),inL l i=true↔i ∈ l
 | [],i=>by simp [inL]
 |x::l,i=>by
  simp only [inL,Bool.or_eq_true,List.mem_cons,v6 l i]
  refine or_congr ⟨λh=>(Nat.eq_of_beq_eq_true h).symm,λh=>?_⟩ Iff.rfl
  subst h
  exact Nat.beq_refl _
inductive Anc (all:List Oper):Nat→Nat→Prop
 |base {i j:Nat}:j ∈ jG all i→Anc all i j
 |step {i k j:Nat}:k ∈ jG all i→Anc all k j→Anc all i j
theorem Anc.closed {all:List Oper} {R:Nat→Prop} (h:∀ i,R i→∀ j ∈ jG all i,R j) {i j:Nat} (ha:Anc all i j):R i→R j:=by
 induction ha with
 |base hj=>exact λhi=>h _ hi _ hj
 |step hk _ ih=>exact λhi=>ih (h _ hi _ hk)
theorem Anc.ready {all:List Oper} {R:Nat→Prop} (h:∀ i,R i→∀ j ∈ jG all i,R j) {i j:Nat} (hi:∀ k ∈ jG all i,R k) (ha:Anc all i j):R j:=by
 cases ha with
 |base hj=>exact hi _ hj
 |step hk h2=>exact h2.closed h (hi _ hk)
def AncT (all:List Oper) (A:List (Nat×Nat)):Prop:=∀ i j,has (qq A i) j=true→Anc all i j
theorem xm {A:List (Nat×Nat)}:∀ {l:List Nat} {j:Nat},has (wQ A l) j=true→∃ k ∈ l,j=k∨has (qq A k) j=true
 | [],j,h=>by rw [show wQ A []=0 from rfl,v5] at h;cases h
 |k::l,j,h=>by
  rw [show wQ A (k::l)=Nat.lor (Nat.lor (Nat.shiftLeft 1 k) (qq A k)) (wQ A l) from rfl,Bv,Bv,Bu] at h
  simp only [Bool.or_eq_true,decide_eq_true_eq] at h
  rcases h with (h | h) | h
  ·exact ⟨k,by simp,.inl h⟩
  ·exact ⟨k,by simp,.inr h⟩
  ·obtain ⟨k',hk,h'⟩:=xm h
   exact ⟨k',by simp [hk],h'⟩
theorem By {all:List Oper}:∀ (l:List Nat) (A:List (Nat×Nat)),AncT all A→AncT all (ancs all l A)
 | [],A,h=>h
 |i::l,A,h=>by
  unfold ancs
  rw [Ba]
  refine By l _ λk j hk=>?_
  rw [show qq ((i,wQ A (jG all i))::A) k=@Bool.rec (λ_=>Nat) (qq A k) (wQ A (jG all i)) (Nat.beq i k) from rfl] at hk
  cases hb:Nat.beq i k with
  |true=>
   have hb:=Nat.eq_of_beq_eq_true hb
   subst hb
   rw [Nat.beq_refl] at hk
   obtain ⟨k',hk',h'⟩:=xm hk
   rcases h' with rfl | h'
   ·exact .base hk'
   ·exact .step hk' (h _ _ h')
  |false=>
   rw [hb] at hk
   exact h _ _ hk
theorem CO {all:List Oper} (l:List Nat):AncT all (ancs all l []):=By l [] λi j h=>by
 rw [show qq [] i=0 from rfl,v5] at h
 cases h
noncomputable def cur (all:List Oper) (val:Nat→V) (base:Nat→V) (R:Nat→Bool):List Nat→Nat→V
 | [],t=>base t
 |i::L,t=>if R i=true∧dstOf all i=some t then val i else cur all val base R L t
noncomputable abbrev curA (all:List Oper) (val:Nat→V) (base:Nat→V):List Nat→Nat→V:=cur all val base λ_=>true
section
variable {all:List Oper} {val:Nat→V} {base:Nat→V} {R:Nat→Bool}
theorem nh {t:Nat}:∀ {L1 L2:List Nat},(∀ j ∈ L1,R j=true→dstOf all j≠some t)→cur all val base R (L1++L2) t=cur all val base R L2 t
 | [],L2,_=>rfl
 |i::L1,L2,h=>by
  rw [List.cons_append]
  conv=>lhs;unfold cur
  rw [if_neg λhh=>h i (by simp) hh.1 hh.2]
  exact nh (L1:=L1) λj hj=>h j (List.mem_cons_of_mem _ hj)
theorem zf {t:Nat} {L:List Nat} (h:∀ j ∈ L,R j=true→dstOf all j≠some t):cur all val base R L t=base t:=by
 have:=nh (val:=val) (base:=base) (L1:=L) (L2:=[]) h
 rw [List.append_nil] at this
 exact this
theorem rI {t i:Nat} {L2:List Nat} (hi:R i=true) (ht:dstOf all i=some t):cur all val base R (i::L2) t=val i:=by
 unfold cur
 rw [if_pos ⟨hi,ht⟩]
theorem lI {t i:Nat} {L2:List Nat} (h:R i=true→dstOf all i≠some t):cur all val base R (i::L2) t=cur all val base R L2 t:=by
 conv=>lhs;unfold cur
 rw [if_neg λhh=>h hh.1 hh.2]
theorem qz {val':Nat→V} {R':Nat→Bool} {t:Nat}:∀ {L:List Nat},(∀ j ∈ L,R j=R' j)→(∀ j ∈ L,val j=val' j)→cur all val base R L t=cur all val' base R' L t
 | [],_,_=>rfl
 |i::L,h,h'=>by
  unfold cur
  rw [h i (by simp),h' i (by simp),qz (λj hj=>h j (by simp [hj])) λj hj=>h' j (by simp [hj])]
theorem Bz (all:List Oper) (R:Nat→Bool) (t:Nat):∀ (L:List Nat),(∀ j ∈ L,R j=true→dstOf all j≠some t)∨∃ L1 i L2,L=L1++i::L2∧R i=true∧dstOf all i=some t∧∀ j ∈ L1,R j=true→dstOf all j≠some t
 | []=>.inl λj hj=>by cases hj
 |i::L=>by
  by_cases h:R i=true∧dstOf all i=some t
  ·exact .inr ⟨[],i,L,rfl,h.1,h.2,λj hj=>by cases hj⟩
  ·rcases Bz all R t L with h1 | ⟨L1,k,L2,rfl,h2,h3,h4⟩
   ·refine .inl λj hj hR hd=>?_
    rcases List.mem_cons.1 hj with rfl | hj
    ·exact h ⟨hR,hd⟩
    ·exact h1 j hj hR hd
   ·refine .inr ⟨i::L1,k,L2,rfl,h2,h3,λj hj hR hd=>?_⟩
    rcases List.mem_cons.1 hj with rfl | hj
    ·exact h ⟨hR,hd⟩
    ·exact h4 j hj hR hd
def LOk (all:List Oper) (L:List Nat):Prop:=∀ L1 i L2,L=L1++i::L2→i ∉ L2∧∀ j ∈ jG all i,j ∈ L2
theorem LOk.tail {i:Nat} {L:List Nat} (h:LOk all (i::L)):LOk all L:=λL1 k L2 e=>h (i::L1) k L2 (by rw [e];rfl)
theorem LOk.suffix {L1 L2:List Nat} (h:LOk all (L1++L2)):LOk all L2:=λM1 k M2 e=>h (L1++M1) k M2 (by rw [e,List.append_assoc])
theorem LOk.cons {i:Nat} {L:List Nat} (h:LOk all L) (hi:i ∉ L) (hd:∀ j ∈ jG all i,j ∈ L):LOk all (i::L):=by
 intro L1 k L2 e
 cases L1 with
 |nil=>
  simp only [List.nil_append,List.cons.injEq] at e
  obtain ⟨rfl,rfl⟩:=e
  exact ⟨hi,hd⟩
 |cons x L1=>
  simp only [List.cons_append,List.cons.injEq] at e
  exact h L1 k L2 e.2
theorem LOk.closed {L:List Nat} (h:LOk all L):∀ i,i ∈ L→∀ j ∈ jG all i,j ∈ L:=by
 intro i hi j hj
 obtain ⟨L1,L2,rfl⟩:=List.append_of_mem hi
 have:=(h L1 i L2 rfl).2 j hj
 simp [this]
theorem LOk.anc {L1 L2:List Nat} {i j:Nat} (h:LOk all (L1++i::L2)) (ha:Anc all i j):j ∈ L2:=by
 have h2:LOk all L2:=(h.suffix (L1:=L1)).tail
 exact ha.ready (R:=λk=>k ∈ L2) h2.closed (h L1 i L2 rfl).2
theorem LOk.self {L1 L2:List Nat} {i:Nat} (h:LOk all (L1++i::L2)):i ∉ L2∧i ∉ L1:=by
 refine ⟨(h L1 i L2 rfl).1,λhi=>?_⟩
 obtain ⟨M1,M2,rfl⟩:=List.append_of_mem hi
 have:=(h M1 i (M2++i::L2) (by simp)).1
 simp at this
def xn (all:List Oper):Prop:=∀ j t i,j<all.length→dstOf all j=some t→i<all.length→i≠j→t ∈ qr all i∨dstOf all i=some t→Anc all i j∨Anc all j i
theorem yz {A:List (Nat×Nat)} (hA:AncT all A) (h:D8 all A=true):xn all:=by
 intro j t i hj hd hi hne hr
 unfold D8 at h
 rw [List.all_eq_true] at h
 have h1:=h j (List.mem_range.2 hj)
 rw [hd] at h1
 simp only [List.all_eq_true] at h1
 have h2:=h1 i (List.mem_range.2 hi)
 simp only [Bool.or_eq_true,Bool.not_eq_true'] at h2
 rcases h2 with ((h2 | h2) | h2) | h2
 ·exact absurd (Nat.eq_of_beq_eq_true h2) hne
 ·exfalso
  simp only [Bool.or_eq_false_iff] at h2
  rcases hr with hr | hr
  ·rw [(v6 _ _).2 hr] at h2;cases h2.1
  ·rw [hr] at h2
   simp at h2
 ·exact .inl (hA _ _ h2)
 ·exact .inr (hA _ _ h2)
theorem zg {L1 L2:List Nat} {i t:Nat} (hT:xn all) (hL:LOk all (L1++i::L2)) (hlt:∀ j ∈ L1++i::L2,j<all.length) (hR:∀ k,R k=true→∀ j ∈ jG all k,R j=true) (hi:R i=false) (hrd:∀ k ∈ jG all i,R k=true)
  (ht:t ∈ qr all i):cur all val base R (L1++i::L2) t=curA all val base L2 t:=by
 have hself:=hL.self
 have h1:∀ j ∈ L1,R j=true→dstOf all j≠some t:=by
  intro j hj hRj hd
  rcases hT j t i (hlt j (by simp [hj])) hd (hlt i (by simp)) (λe=>hself.2 (e▸hj)) (.inl ht) with ha | ha
  ·have:=hL.anc ha
   obtain ⟨M1,M2,rfl⟩:=List.append_of_mem hj
   have h3:LOk all (M1++j::(M2++i::L2)):=by simpa using hL
   exact h3.self.1 (by simp [this])
  ·have:=ha.closed (R:=λk=>R k=true) hR hRj
   rw [hi] at this;cases this
 rw [nh h1,lI λh=>by rw [hi] at h;cases h]
 rcases Bz all (λ_=>true) t L2 with h2 | ⟨M1,k,M2,rfl,_,hd,h3⟩
 ·rw [zf λj hj _=>h2 j hj rfl,curA,zf h2]
 ·have hk:R k=true:=by
   rcases hT k t i (hlt k (by simp)) hd (hlt i (by simp)) (λe=>hself.1 (by simp [e])) (.inl ht) with ha | ha
   ·exact ha.ready (R:=λk=>R k=true) hR hrd
   ·have h4:LOk all ((L1++i::M1)++k::M2):=by simpa using hL
    have:=h4.anc ha
    exact absurd (show i ∈ M1++k::M2 by simp [this]) hself.1
  rw [curA,nh λj hj _=>h3 j hj rfl,nh h3,rI hk hd,rI rfl hd]
theorem El {L1 L2:List Nat} {i t:Nat} (hT:xn all) (hL:LOk all (L1++i::L2)) (hlt:∀ j ∈ L1++i::L2,j<all.length) (hR:∀ k,R k=true→∀ j ∈ jG all k,R j=true) (hi:R i=false) :
  cur all val base (λk=>R k || k == i) (L1++i::L2) t=if dstOf all i=some t then val i else cur all val base R (L1++i::L2) t:=by
 have hself:=hL.self
 have e1:∀ j ∈ L1,(R j || j == i)=R j:=λj hj=>by
  have:j≠i:=λe=>hself.2 (e▸hj)
  simp [this]
 have e2:∀ j ∈ L2,(R j || j == i)=R j:=λj hj=>by
  have:j≠i:=λe=>hself.1 (e▸hj)
  simp [this]
 by_cases hd:dstOf all i=some t
 ·rw [if_pos hd]
  have h1:∀ j ∈ L1,(R j || j == i)=true→dstOf all j≠some t:=by
   intro j hj hRj hd'
   rw [e1 j hj] at hRj
   rcases hT i t j (hlt i (by simp)) hd (hlt j (by simp [hj])) (λe=>hself.2 (e▸hj)) (.inr hd') with ha | ha
   ·have:=ha.closed (R:=λk=>R k=true) hR hRj
    rw [hi] at this;cases this
   ·have:=hL.anc ha
    obtain ⟨M1,M2,rfl⟩:=List.append_of_mem hj
    have h3:LOk all (M1++j::(M2++i::L2)):=by simpa using hL
    exact h3.self.1 (by simp [this])
  rw [nh (R:=λk=>R k || k == i) h1,rI (R:=λk=>R k || k == i) (by simp) hd]
 ·rw [if_neg hd]
  have key:∀ M:List Nat,(∀ j ∈ M,(R j || j == i)=R j)→∀ N:List Nat,cur all val base (λk=>R k || k == i) N t=cur all val base R N t→cur all val base (λk=>R k || k == i) (M++N) t=cur all val base R (M++N) t:=by
   intro M hM N hN
   induction M with
   |nil=>exact hN
   |cons x M ih=>
    rw [List.cons_append]
    unfold cur
    rw [hM x (by simp),ih λj hj=>hM j (by simp [hj])]
  refine key L1 e1 _ ?_
  rw [lI λ_=>hd,lI λ_=>hd]
  exact qz e2 λ_ _=>rfl
end
end Go.Mx
namespace Go.Mx
open Go.Eng
theorem xo {x y:C} {K:Prop} (h:zM x y K):x=y∧stC x=true∧K:=by
 unfold zM at h
 split at h
 ·rename_i a b
  cases a<;>cases b<;>first | exact ⟨rfl,rfl,h⟩ | exact h.elim
 ·obtain ⟨h1,h2⟩:=cL h
  obtain ⟨h3,h4⟩:=cL h2
  rw [uN,beq_iff_eq] at h3
  rw [Nat.eq_of_beq_eq_true h1,h3]
  exact ⟨rfl,rfl,h4⟩
 ·exact ⟨rfl,rfl,h⟩
 ·obtain ⟨h1,h2⟩:=cL h
  obtain ⟨h3,h4⟩:=cL h2
  rw [Nat.eq_of_beq_eq_true h1,Nat.eq_of_beq_eq_true h3]
  exact ⟨rfl,rfl,h4⟩
 ·exact ⟨rfl,rfl,h⟩
 ·obtain ⟨h1,h2⟩:=cL h
  obtain ⟨h3,h4⟩:=cL h2
  obtain ⟨h5,h6⟩:=cL h4
  obtain ⟨h7,h8⟩:=cL h6
  rw [Nat.eq_of_beq_eq_true h1,Nat.eq_of_beq_eq_true h3,Nat.eq_of_beq_eq_true h5,Nat.eq_of_beq_eq_true h7]
  exact ⟨rfl,rfl,h8⟩
 ·obtain ⟨h1,h2⟩:=cL h
  obtain ⟨h3,h4⟩:=cL h2
  obtain ⟨h5,h6⟩:=cL h4
  obtain ⟨h7,h8⟩:=cL h6
  obtain ⟨h9,h10⟩:=cL h8
  rw [Nat.eq_of_beq_eq_true h1,Nat.eq_of_beq_eq_true h3,Nat.eq_of_beq_eq_true h5,Nat.eq_of_beq_eq_true h7,Nat.eq_of_beq_eq_true h9]
  exact ⟨rfl,rfl,h10⟩
 ·exact h.elim
theorem xp:∀ {l l':List C} {K:Prop},A0 l l' K→l=l'∧K
 | [],[],K,h=>⟨rfl,h⟩
 |x::xs,y::ys,K,h=>by
  obtain ⟨h1,_,h2⟩:=xo (show zM x y (A0 xs ys K) from h)
  obtain ⟨h3,h4⟩:=xp h2
  rw [h1,h3]
  exact ⟨rfl,h4⟩
 | [],_::_,_,h=>h.elim
 | _::_,[],_,h=>h.elim
theorem yA {x y:V} {K:Prop} (h:zN x y K):K∧∀ m rv,VR m y rv→VR m x rv:=by
 cases x with
 |c c=>
  obtain ⟨c',rfl,h1⟩:=qv (show onC y λc'=>zM c c' K from h)
  obtain ⟨rfl,_,h2⟩:=xo h1
  exact ⟨h2,λm rv hv=>hv⟩
 |a dp d o n=>
  obtain ⟨dp',d',o',n',rfl,h1⟩:=rF (show onA y λdp' d' o' n'=>iff (Nat.beq n n') (iff (Nat.ble (Nat.add o n) (Nat.pow 4 dp)) (qm dp d n o λl=>qm dp' d' n' o' λl'=>A0 l l' K) False) False from h)
  obtain ⟨hn,h2⟩:=cL h1
  obtain ⟨hle,h3⟩:=cL h2
  have hn:=beq_eq hn
  have hle:o+n≤4 ^ dp:=cB hle
  subst hn
  rw [iQ,iQ] at h3
  obtain ⟨hl,h4⟩:=xp h3
  refine ⟨h4,λm rv hv=>?_⟩
  obtain ⟨cs,e1,e2,e3⟩:=hv
  refine ⟨cs,e1,e2,by omega,λi u hi=>?_⟩
  have hil:i<cs.length:=by
   rcases Nat.lt_or_ge i cs.length with h | h
   ·exact h
   ·rw [List.getElem?_eq_none h] at hi;cases hi
  have q1:=lJ dp d n o i (by omega)
  have q2:=lJ dp' d' n o' i (by omega)
  rw [hl,q2] at q1
  simp only [Option.some.injEq] at q1
  rw [←q1]
  exact e3.2 i u hi
 |t l=>exact h.elim
section
variable {P:Program} {e:Nat} {env:Env e} {o:Oper} {w0:Bs} {m:Mp} {w w':World} {H:Hp} {renv:List Value}
def uT (all:List Oper) (e:Nat) (env:Env e) (o:Oper):Prop:=∃ j want d,o.guard=some (j,want)∧dstOf all j=some d∧d<e∧(lget (dpN e) env d=.c .un∨∃ b,lget (dpN e) env d=.c (.b b)∧b≠want)
def BA (all:List Oper) (e:Nat) (env:Env e) (o:Oper):Prop:=o.guard=none∨∃ j want d,o.guard=some (j,want)∧dstOf all j=some d∧d<e∧lget (dpN e) env d=.c (.b want)
def o9 (P:Program) (e:Nat) (env:Env e) (o:Oper) (H:Hp) (v:V):Prop:=
 ∃ ob wr n dp d,lget 7 H.t ob=.ob wr n dp d∧∀ H2 m B w renv,lget 7 H2.t ob=.ob wr n dp d→HR m B w H2→OpsR m e env renv o.op.operands.toList→∃ rv,(∀ w2,w2=w→(execOp (ev renv) o).run P w2=.ok (.value rv) w2)∧VR m v rv
theorem o9.of {t:TypeId} {x:Operand} {K:V→Prop} (ho:o.op=.load t x) (h:(ss P e t x).go env H K):∃ v,K v∧o9 P e env o H v:=by
 obtain ⟨v,ob,wr,n,dp,d,hg,hk,hl⟩:=xd h
 refine ⟨v,hk,ob,wr,n,dp,d,hg,λH2 m B w renv hg2 hH hr=>?_⟩
 obtain ⟨rv,hrun,hv⟩:=hl H2 m B w renv hg2 hH (by rintro y rfl;exact hr (.tmp y) (by rw [ho];simp [Op.operands]) y rfl)
 have he:execOp (ev renv) o=(do pure (.value (← Instr.loadAt t (ev renv x)))):=by unfold execOp;rw [ho]
 refine ⟨rv,?_,hv⟩
 rintro _ rfl
 rw [he,Sem.run_bind,hrun]
 rfl
theorem o9.same {x y:V} (h:o9 P e env o H y) (hs:∀ m rv,VR m y rv→VR m x rv):o9 P e env o H x:=by
 obtain ⟨ob,wr,n,dp,d,hg,hl⟩:=h
 refine ⟨ob,wr,n,dp,d,hg,λH2 m B w renv hg2 hH hr=>?_⟩
 obtain ⟨rv,hrun,hv⟩:=hl H2 m B w renv hg2 hH hr
 exact ⟨rv,hrun,hs _ _ hv⟩
theorem zh {β:Type}:∀ (n:Nat) (t:Lv β n) (k:Nat),lget n t k=lget n t (k % 4 ^ n)
 | 0,_,_=>rfl
 |n+1,t,k=>by
  show lget n (sel t (k % 4)) (k / 4)=lget n (sel t (k % 4 ^ (n+1) % 4)) (k % 4 ^ (n+1) / 4)
  have h1:4 ^ (n+1)=4 * 4 ^ n:=by rw [Nat.pow_succ,Nat.mul_comm]
  rw [h1,Nat.mod_mul_right_div_self,Nat.mod_mul_right_mod,zh n _ (k / 4)]
theorem o9.add {v:V} {b:Ob} {B:Bs} (h:o9 P e env o H v) (hH:HR m B w H) (hn:H.next≤16383):o9 P e env o ⟨H.next+1,lset 7 H.t H.next b⟩ v:=by
 obtain ⟨ob,wr,n,dp,d,hg,hl⟩:=h
 refine ⟨ob,wr,n,dp,d,?_,hl⟩
 show lget 7 (lset 7 H.t H.next b) ob=_
 rw [zh,←hlim] at hg ⊢
 have hlt:=Nat.mod_lt ob (show 16384>0 by omega)
 rw [dZ 7 _ _ _ _ (by rw [←hlim];omega) (by rw [←hlim];exact hlt)]
 split
 ·rename_i he
  rw [he,hH.dead H.next (Nat.le_refl _) (by omega)] at hg
  cases hg
 ·exact hg
def CP (P:Program) (e:Nat) (all:List Oper) (env:Env e) (H:Hp) (i:Nat):Prop:=
 ∃ o,all[i]?=some o∧((∃ d,o.dst=some d∧d<e∧o9 P e env o H (lget (dpN e) env d))∨uT all e env o)
theorem ta {all:List Oper}:∀ {l:List Nat} {X:Prop},(chkC P e all l).go env H X→X∧∀ i ∈ l,CP P e all env H i
 | [],X,h=>⟨h,λi hi=>by cases hi⟩
 |i::l,X,h=>by
  have h0:(match all[i]? with
   |some o=>(match o.op,o.dst with
    | .load t x,some d=>(match o.guard with
     |none=>(ss P e t x).bind λg=>(getE e d).bind λh=>(chkC P e all l).bind λnx=>⟨λenv H K=>g env H λv=>h env λu=>zN u v (nx env H K)⟩
     |some (j,want)=>(match Eng.dstOf all j with
      |some gd=>(getE e gd).bind λgg=>(ss P e t x).bind λg=>(getE e d).bind λh=>(chkC P e all l).bind λnx=>⟨λenv H K=>gg env λb=>gdK want b (g env H λv=>h env λu=>zN u v (nx env H K)) (nx env H K)⟩
      |none=>⟨λ_ _ _=>False⟩))
    | _,_=>⟨λ_ _ _=>False⟩)
   |none=>⟨λ_ _ _=>False⟩:Bx (Env e→Hp→Prop→Prop)).go env H X:=h
  split at h0
  ·rename_i o hi
   split at h0
   ·rename_i t x d hop hdst
    have main:(ss P e t x).go env H (λv=>(getE e d).go env λu=>zN u v ((chkC P e all l).go env H X))→X∧∀ k ∈ i::l,CP P e all env H k:=by
     intro h0
     obtain ⟨v,h1,hL⟩:=o9.of hop h0
     obtain ⟨hd,h2⟩:=sD h1
     obtain ⟨h3,hs⟩:=yA h2
     obtain ⟨h4,h5⟩:=ta h3
     refine ⟨h4,λk hk=>?_⟩
     rcases List.mem_cons.1 hk with rfl | hk
     ·exact ⟨o,hi,.inl ⟨d,hdst,hd,hL.same hs⟩⟩
     ·exact h5 k hk
    split at h0
    ·rw [aP,aP,aP,cU] at h0
     exact main h0
    ·rename_i j want hg
     split at h0
     ·rename_i gd hgd
      rw [aP,aP,aP,aP,cU] at h0
      obtain ⟨hde,h1⟩:=sD h0
      have skip:uT all e env o→(chkC P e all l).go env H X→X∧∀ k ∈ i::l,CP P e all env H k:=by
       intro hs h3
       obtain ⟨h4,h5⟩:=ta h3
       refine ⟨h4,λk hk=>?_⟩
       rcases List.mem_cons.1 hk with rfl | hk
       ·exact ⟨o,hi,.inr hs⟩
       ·exact h5 k hk
      rcases yw h1 with ⟨hx,h2⟩ | ⟨b,hx,⟨hb,h2⟩ | ⟨hb,h2⟩⟩
      ·exact skip ⟨j,want,gd,hg,hgd,hde,.inl hx⟩ h2
      ·exact main h2
      ·exact skip ⟨j,want,gd,hg,hgd,hde,.inr ⟨b,hx,hb⟩⟩ h2
     ·exact h0.elim
   ·exact h0.elim
  ·exact h0.elim
theorem HR.bind {B:Bs} {g b N n dp:Nat} {wr:Bool} {d:Lv C dp} {cs:List Value} {T:TypeId} (h:HR m B w H) (hl:g<H.next) (hg:lget 7 H.t g=.ob wr n dp d) (hm:m g=none) (hk:Keep (λk=>k=b) w w') (hB:B.w.heap.size≤b∨B.M b) (hblk:Blk w' b cs T) (hcell:b<w.heap.size→∃ cs T,Blk w b cs T) (hcl:cs.length=N) (hnN:n≤N) (hdp:n≤4 ^ dp)
  (htr:TR m dp d 0 (cs.take n)) (hfree:∀ o wr n dp d N,lget 7 H.t o=.ob wr n dp d→m o≠some (b,N)):HR (mset m g (b,N)) B w' H:=by
 have old:∀ {o p},mset m g (b,N) o=some p→o≠g→m o=some p:=by
  intro o p ho hne
  unfold mset at ho
  rw [if_neg hne] at ho
  exact ho
 have new:∀ {p},mset m g (b,N) g=some p→p=(b,N):=by
  intro p hp
  unfold mset at hp
  rw [if_pos rfl] at hp
  simpa using hp.symm
 refine ⟨Nat.le_trans h.size hk.size,h.lim,?_,h.dead,?_,?_,?_⟩
 ·intro o ho
  unfold mset
  rw [if_neg (by omega)]
  exact h.unm o ho
 ·intro o b' N' ho
  by_cases hne:o=g
  ·subst hne
   have:=new ho
   simp only [Prod.mk.injEq] at this
   obtain ⟨rfl,rfl⟩:=this
   exact ⟨hB,.inr (.inr ⟨λe=>(by rw [hg] at e;cases e),λq e=>(by rw [hg] at e;cases e),_,_,hblk⟩)⟩
  ·obtain ⟨h1,h2⟩:=h.blk o b' N' (old ho hne)
   exact ⟨h1,h2.keep hk (λk hk0 e=>e▸hcell (e▸hk0)) (λk e=>⟨_,_,e▸hblk⟩) (iq hm) rfl⟩
 ·intro o wr n' dp' d' b' N' hg' ho
  by_cases hne:o=g
  ·subst hne
   rw [hg] at hg'
   have:=new ho
   simp only [Prod.mk.injEq] at this
   obtain ⟨rfl,rfl⟩:=this
   cases hg'
   exact ⟨cs,T,hblk,hcl,hnN,hdp,htr.mono (iq hm)⟩
  ·obtain ⟨cs',T',h1,h2,h3,h4,h5⟩:=h.ob o wr n' dp' d' b' N' hg' (old ho hne)
   have hbb:b'≠b:=by
    rintro rfl
    exact hfree o _ _ _ _ N' hg' (old ho hne)
   exact ⟨cs',T',hk.blk h1 hbb,h2,h3,h4,h5.mono (iq hm)⟩
 ·intro o o' wr n' dp' d' wr' n'' dp'' d'' b' N' N'' hg1 hg2 ho ho'
  by_cases hne:o=g
  ·by_cases hne':o'=g
   ·rw [hne,hne']
   ·exfalso
    subst hne
    have:=new ho
    simp only [Prod.mk.injEq] at this
    obtain ⟨rfl,rfl⟩:=this
    exact hfree o' _ _ _ _ _ hg2 (old ho' hne')
  ·by_cases hne':o'=g
   ·exfalso
    subst hne'
    have:=new ho'
    simp only [Prod.mk.injEq] at this
    obtain ⟨rfl,rfl⟩:=this
    exact hfree o _ _ _ _ _ hg1 (old ho hne)
   ·exact h.inj o o' _ _ _ _ _ _ _ _ _ _ _ hg1 hg2 (old ho hne) (old ho' hne')
end
end Go.Mx
namespace Go.Mx
open Go.Eng
section
variable {P:Program} {e:Nat} {all:List Oper} {w0:Bs} {m0:Mp} {H0:Hp} {base:Nat→V}
def Ct (P:Program) (e:Nat) (all:List Oper) (H0:Hp) (env:Env e) (H:Hp) (m:Mp) (g:Nat) (o:Oper) (v:V):Prop:=
 (uT all e env o∧v=.c .un)∨(BA all e env o∧(j0 P e env o v∨o9 P e env o H v∧qp o.op=1∨qp o.op=2∧H0.next≤g∧g<H.next∧m g=none∧∃ b f,yp P e env o b f∧v=f g∧lget 7 H.t g=b))
structure Inv (P:Program) (e:Nat) (all:List Oper) (w0:Bs) (m0:Mp) (H0:Hp) (base:Nat→V) (L:List Nat) (val:Nat→V) (gh:Nat→Nat) (R:Nat→Bool) (env:Env e) (H:Hp) (m:Mp) (w:World) (renv:List Value):Prop where
 st:St w0 m w H
 le0:Le m0 m
 gh0:Gh m0 m H0 H
 envM:∀ t,t<e→lget (dpN e) env t=curA all val base L t
 len:renv.length=e
 slot:∀ t,t<e→VR m (cur all val base R L t) (renv.getD t undef)
 lok:LOk all L
 lt:∀ j ∈ L,j<all.length
 rl:∀ i,R i=true→i ∈ L
 closR:∀ k,R k=true→∀ j ∈ jG all k,R j=true
 cert:∀ L1 i L2,L=L1++i::L2→R i=false→∃ (o:Oper) (env_i:Env e),all[i]?=some o∧(∀ t,t<e→lget (dpN e) env_i t=curA all val base L2 t)∧Ct P e all H0 env_i H m (gh i) o (val i)
 ghd:∀ i j,i ∈ L→j ∈ L→R i=false→R j=false→rE all i=2→rE all j=2→gh i=gh j→i=j
 ghs:∀ i,i ∈ L→R i=false→rE all i=2→gh i<H.next∨gh i=20000+i
variable {L:List Nat} {val:Nat→V} {gh:Nat→Nat} {R:Nat→Bool} {env:Env e} {H:Hp} {m:Mp} {w:World} {renv:List Value}
theorem ka {i:Nat} {o:Oper} (h:all[i]?=some o):dstOf all i=o.dst:=by unfold dstOf;rw [h]
theorem ni {i:Nat} {o:Oper} (h:all[i]?=some o):rE all i=qp o.op:=by unfold rE;rw [h]
theorem Inv.done (hT:xn all) (I:Inv P e all w0 m0 H0 base L val gh R env H m w renv) {L1 L2:List Nat} {i:Nat} (hL:L=L1++i::L2) (hn:R i=false) (hr:∀ k ∈ jG all i,R k=true) {o:Oper} (ho:all[i]?=some o) {m':Mp} {w':World} {rv:Value}
  (hle:Le m m') (hv:VR m' (val i) rv) (hS:St w0 m' w' H) (hG:Gh m0 m' H0 H) (hgh:∀ k ∈ L,R k=false→k≠i→rE all k=2→m (gh k)=none→m' (gh k)=none) :
  Inv P e all w0 m0 H0 base L val gh (λk=>R k || k == i) env H m' w' (put renv o.dst rv):=by
 have hR':∀ k,(R k || k == i)=true→R k=true∨k=i:=λk hk=>by simpa using hk
 have hRf:∀ k,(R k || k == i)=false→R k=false∧k≠i:=λk hk=>by simpa using hk
 refine ⟨hS,I.le0.trans hle,hG,I.envM,?_,?_,I.lok,I.lt,?_,?_,?_,?_,λk hk hRk=>I.ghs k hk (hRf k hRk).1⟩
 ·cases hd:o.dst with
  |none=>exact I.len
  |some d=>show (renv.set d rv).length=e;rw [List.length_set];exact I.len
 ·intro t ht
  have hc:=El (val:=val) (base:=base) (t:=t) hT (hL▸I.lok) (hL▸I.lt) I.closR hn
  rw [←hL] at hc
  rw [hc,ka ho]
  by_cases hd:o.dst=some t
  ·rw [if_pos hd,hd]
   show VR m' (val i) ((renv.set t rv).getD t undef)
   rw [List.getD_eq_getElem?_getD,List.getElem?_set,if_pos rfl,if_pos (by rw [I.len];exact ht)]
   exact hv
  ·rw [if_neg hd]
   have h1:=(I.slot t ht).mono hle
   cases hd2:o.dst with
   |none=>exact h1
   |some d=>
    show VR m' _ ((renv.set d rv).getD t undef)
    rw [List.getD_eq_getElem?_getD,List.getElem?_set,if_neg (λe=>hd (by rw [hd2,e])),←List.getD_eq_getElem?_getD]
    exact h1
 ·intro k hk
  rcases hR' k hk with h | rfl
  ·exact I.rl k h
  ·rw [hL];simp
 ·intro k hk j hj
  rcases hR' k hk with h | rfl
  ·simp [I.closR k h j hj]
  ·simp [hr j hj]
 ·intro M1 k M2 e1 hk
  obtain ⟨h1,h2⟩:=hRf k hk
  obtain ⟨ok,env_k,hok,henv,hct⟩:=I.cert M1 k M2 e1 h1
  refine ⟨ok,env_k,hok,henv,?_⟩
  rcases hct with hct | ⟨hg,hct | hct | ⟨hk2,a1,a2,a3,a4⟩⟩
  ·exact .inl hct
  ·exact .inr ⟨hg,.inl hct⟩
  ·exact .inr ⟨hg,.inr (.inl hct)⟩
  ·exact .inr ⟨hg,.inr (.inr ⟨hk2,a1,a2,hgh k (by rw [e1];simp) h1 h2 (by rw [ni hok];exact hk2) a3,a4⟩)⟩
 ·intro k j hk hj hRk hRj
  exact I.ghd k j hk hj (hRf k hRk).1 (hRf j hRj).1
theorem Inv.reads (hT:xn all) (I:Inv P e all w0 m0 H0 base L val gh R env H m w renv) {L1 L2:List Nat} {i:Nat} (hL:L=L1++i::L2) (hn:R i=false) (hr:∀ k ∈ jG all i,R k=true) {env_i:Env e} (henv:∀ t,t<e→lget (dpN e) env_i t=curA all val base L2 t) :
  ∀ t ∈ qr all i,SlR m e env_i renv t:=by
 intro t ht hte
 rw [henv t hte,←zg (val:=val) (base:=base) hT (hL▸I.lok) (hL▸I.lt) I.closR hn hr ht,←hL]
 exact I.slot t hte
theorem xq {i:Nat} {o:Oper} (ho:all[i]?=some o) {env_i:Env e} (h:∀ t ∈ qr all i,SlR m e env_i renv t):OpsR m e env_i renv o.op.operands.toList:=by
 rintro x hx t rfl
 refine h t ?_
 unfold qr
 rw [ho]
 unfold AZ
 refine List.mem_append_left _ (List.mem_flatMap.2 ⟨_,hx,?_⟩)
 simp [tmpO]
theorem zi {i j d:Nat} {want:Bool} {o:Oper} (ho:all[i]?=some o) (hg:o.guard=some (j,want)) (hd:dstOf all j=some d):d ∈ qr all i:=by
 unfold qr
 rw [ho]
 unfold AZ
 simp [hg,hd]
theorem zj {d:Nat} (hl:renv.length=e) (hd:d<e):renv[d]?=some (renv.getD d undef):=by
 rw [List.getD_eq_getElem?_getD,List.getElem?_eq_getElem (by rw [hl];exact hd)]
 rfl
theorem uj {i:Nat} {o:Oper} {env_i:Env e} (ho:all[i]?=some o) (hl:renv.length=e) (h:∀ t ∈ qr all i,SlR m e env_i renv t) (hg:uT all e env_i o):Region.wanted o (yielded all.toArray (act renv).tmps)=false:=by
 obtain ⟨j,want,d,h1,h2,hd,h3⟩:=hg
 have hs:=h d (zi ho h1 h2) hd
 have hy:=lL (env:=renv) h2
 have hget:=zj hl hd
 rcases h3 with h3 | ⟨b,h3,hb⟩
 ·rw [h3] at hs
  have hs:renv.getD d undef=undef:=hs
  rw [hs] at hget
  simp [Region.wanted,h1,hy,hget,undef]
 ·rw [h3] at hs
  have hs:renv.getD d undef=.bool b:=hs
  rw [hs] at hget
  simp [Region.wanted,h1,hy,hget,hb]
theorem uU {i:Nat} {o:Oper} {env_i:Env e} (ho:all[i]?=some o) (hl:renv.length=e) (h:∀ t ∈ qr all i,SlR m e env_i renv t) (hg:BA all e env_i o):Region.wanted o (yielded all.toArray (act renv).tmps)=true:=by
 rcases hg with hg | ⟨j,want,d,h1,h2,hd,h3⟩
 ·exact oE hg
 ·have hs:=h d (zi ho h1 h2) hd
  have hy:=lL (env:=renv) h2
  have hget:=zj hl hd
  rw [h3] at hs
  have hs:renv.getD d undef=.bool want:=hs
  rw [hs] at hget
  simp [Region.wanted,h1,hy,hget]
theorem Inv.replay {Q:Exit→Act→World→Prop} {K:Act→World→Prop} (hT:xn all) (I:Inv P e all w0 m0 H0 base L val gh R env H m w renv) {i:Nat} (hi:i ∈ L) (hn:R i=false) (hr:∀ k ∈ jG all i,R k=true)
  (hK:∀ m' w' renv',Inv P e all w0 m0 H0 base L val gh (λk=>R k || k == i) env H m' w' renv'→K (act renv') w'):wpOp P all.toArray Q i K (act renv) w:=by
 obtain ⟨L1,L2,hL⟩:=List.append_of_mem hi
 obtain ⟨o,env_i,ho,henv,hct⟩:=I.cert L1 i L2 hL hn
 have hrd:=I.reads hT hL hn hr henv
 have hops:=xq ho hrd
 have keep:∀ k ∈ L,R k=false→k≠i→rE all k=2→m (gh k)=none→m (gh k)=none:=λ_ _ _ _ _ h=>h
 unfold wpOp
 rw [List.getElem?_toArray,ho]
 simp only
 rcases hct with ⟨hg,hv⟩ | ⟨hg,hct⟩
 ·rw [if_neg (by rw [uj ho I.len hrd hg];simp),gT]
  exact hK _ _ _ (I.done hT hL hn hr ho (Le.refl m) (by rw [hv];exact rfl) I.st I.gh0 keep)
 ·rw [if_pos (uU ho I.len hrd hg)]
  refine .inl (xE (K:=λrv w'=>∃ m',Inv P e all w0 m0 H0 base L val gh (λk=>R k || k == i) env H m' w' (put renv o.dst rv)) ?_ λrv w' ⟨m',hI⟩=>hK _ _ _ hI)
  rcases hct with hP | ⟨hl,_⟩ | ⟨hk2,a1,a2,a3,b,f,hF,hv,hb⟩
  ·obtain ⟨rv,hrun,hv⟩:=hP m renv hops
   exact .inl ⟨_,_,hrun w,m,I.done hT hL hn hr ho (Le.refl m) hv I.st I.gh0 keep⟩
  ·obtain ⟨ob,wr,n,dp,d,hg2,hl⟩:=hl
   obtain ⟨rv,hrun,hv⟩:=hl H m _ w renv hg2 I.st.hr hops
   exact .inl ⟨_,_,hrun w rfl,m,I.done hT hL hn hr ho (Le.refl m) hv I.st I.gh0 keep⟩
  ·obtain ⟨arr,T,rv,hrun,⟨n,dp,d,hbb,hn2,hdp,htr⟩,hrel⟩:=hF m renv hops
   have hw:Keep (λk=>k=w.heap.size) w (w.alloc (.cells arr.toArray T)):=Keep.of_new (ke w _)
   have hbind:=I.st.hr.bind a2 (hb.trans hbb) a3 hw (.inl I.st.hr.size) (nS w arr T) (λh=>absurd h (Nat.lt_irrefl _)) rfl (by omega) hdp (by rw [hn2,List.take_length];exact htr) (λo wr n dp d N hg hm=>by have:=I.st.hr.bl hm;omega)
   have hm':mset m (gh i) (w.heap.size,arr.length) (gh i)=some (w.heap.size,arr.length):=by unfold mset;rw [if_pos rfl]
   have hle:Le m (mset m (gh i) (w.heap.size,arr.length)):=iq a3
   refine .inl ⟨_,_,hrun w,_,I.done hT hL hn hr ho hle (by rw [hv];exact hrel _ _ _ hle hm') ⟨hbind,I.st.new.trans hw λk hk e=>by have:=I.st.new.size;omega⟩ ⟨I.gh0.1,λo ho hno=>⟨?_,(I.gh0.2 o ho hno).2⟩⟩ λk hk hRk hki hk2' hno=>?_⟩
   ·unfold mset;rw [if_neg (by omega)];exact (I.gh0.2 o ho hno).1
   ·unfold mset
    rw [if_neg λe=>hki (I.ghd k i hk hi hRk hn hk2' (by rw [ni ho];exact hk2) e)]
    exact hno
end
end Go.Mx
namespace Go.Mx
open Go.Eng
def updN {α:Type} (f:Nat→α) (i:Nat) (v:α):Nat→α:=λk=>if k=i then v else f k
theorem kE {α:Type} (f:Nat→α) (i:Nat) (v:α):updN f i v i=v:=by unfold updN;rw [if_pos rfl]
theorem pe {α:Type} (f:Nat→α) {i k:Nat} (v:α) (h:k≠i):updN f i v k=f k:=by unfold updN;rw [if_neg h]
section
variable {P:Program} {e:Nat} {all:List Oper} {w0:Bs} {m0:Mp} {H0:Hp} {base:Nat→V}
variable {L:List Nat} {val:Nat→V} {gh:Nat→Nat} {R:Nat→Bool} {env:Env e} {H:Hp} {m:Mp} {w:World} {renv:List Value}
theorem HR.ghost {B:Bs} {b:Ob} (h:HR m B w H) (hn:H.next≤16383):HR m B w ⟨H.next+1,lset 7 H.t H.next b⟩:=by
 have get:∀ o,o<16384→lget 7 (lset 7 H.t H.next b) o=if o=H.next then b else lget 7 H.t o:=λo ho=>dZ 7 _ _ _ _ (by rw [←hlim];omega) (by rw [←hlim];exact ho)
 have key:∀ {o wr n' dp' d' p},lget 7 (lset 7 H.t H.next b) o=.ob wr n' dp' d'→m o=some p→lget 7 H.t o=.ob wr n' dp' d':=by
  intro o wr n' dp' d' p hg' ho
  have hlt:=h.lt ho
  rw [get o (by omega),if_neg (by omega)] at hg'
  exact hg'
 refine ⟨h.size,by show H.next+1≤16384;omega,λo ho=>h.unm o (Nat.le_trans (Nat.le_succ _) ho),?_,?_,?_,?_⟩
 ·intro o ho hlt
  have ho:H.next+1≤o:=ho
  show lget 7 (lset 7 H.t H.next b) o=.dead
  rw [get o hlt,if_neg (by omega)]
  exact h.dead o (by omega) hlt
 ·intro o b' N' ho
  have hlo:=h.lt ho
  have e1:lget 7 (lset 7 H.t H.next b) o=lget 7 H.t o:=by rw [get o (by omega),if_neg (by omega)]
  exact ⟨(h.blk o b' N' ho).1,(h.blk o b' N' ho).2.keep (Keep.refl (λ_=>False) w) (λ_ _ h=>h.elim) (λ_ h=>h.elim) (Le.refl m) e1⟩
 ·intro o wr n' dp' d' b' N' hg' ho
  exact h.ob o wr n' dp' d' b' N' (key hg' ho) ho
 ·intro o o' wr1 n1 dp1 d1 wr2 n2 dp2 d2 b' N1 N2 hg1 hg2 ho ho'
  exact h.inj o o' _ _ _ _ _ _ _ _ _ _ _ (key hg1 ho) (key hg2 ho') ho ho'
theorem CQ {b:Ob} (h:H.next≤16383):Gh m m H ⟨H.next+1,lset 7 H.t H.next b⟩:=by
 refine ⟨Nat.le_succ _,λo ho hn=>⟨hn,?_⟩⟩
 show lget 7 (lset 7 H.t H.next b) o=_
 rw [dZ 7 _ _ _ _ (by rw [←hlim];omega) (by rw [←hlim];omega),if_neg (by omega)]
theorem pf {i:Nat} {v:V} {M:List Nat} (h:i ∉ M) (R:Nat→Bool) (t:Nat):cur all (updN val i v) base R M t=cur all val base R M t:=
 qz (λ_ _=>rfl) λj hj=>pe _ _ λe=>h (e▸hj)
theorem Inv.ahead (I:Inv P e all w0 m0 H0 base L val gh R env H m w renv) {i:Nat} {o:Oper} {v:V} {g:Nat} {env':Env e} {H':Hp} (hi:i ∉ L) (hlt:i<all.length) (hd:∀ j ∈ jG all i,j ∈ L) (ho:all[i]?=some o)
  (henv:∀ t,t<e→lget (dpN e) env' t=if o.dst=some t then v else lget (dpN e) env t) (hH:H'=H∨(H.next≤16383∧∃ b,H'=⟨H.next+1,lset 7 H.t H.next b⟩))
  (hg2:qp o.op=2→(g=H.next∧H.next<H'.next)∨g=20000+i) (hct:Ct P e all H0 env H' m g o v):Inv P e all w0 m0 H0 base (i::L) (updN val i v) (updN gh i g) R env' H' m w renv:=by
 have hRi:R i=false:=by
  cases h:R i with
  |true=>exact absurd (I.rl i h) hi
  |false=>rfl
 have hne:∀ k ∈ L,k≠i:=λk hk e=>hi (e▸hk)
 have hGh:Gh m m H H':=by
  rcases hH with rfl | ⟨hn,b,rfl⟩
  ·exact Gh.refl m _
  ·exact CQ hn
 have hlim':=I.st.hr.lim
 refine ⟨?_,I.le0,I.gh0.trans hGh,?_,I.len,?_,I.lok.cons hi hd,?_,λk hk=>List.mem_cons_of_mem _ (I.rl k hk),I.closR,?_,?_,?_⟩
 ·rcases hH with rfl | ⟨hn,b,rfl⟩
  ·exact I.st
  ·exact ⟨I.st.hr.ghost hn,I.st.new⟩
 ·intro t ht
  rw [henv t ht]
  by_cases hdt:o.dst=some t
  ·rw [if_pos hdt,curA,rI rfl (by rw [ka ho];exact hdt),kE]
  ·rw [if_neg hdt,curA,lI (λ_=>by rw [ka ho];exact hdt),pf hi,I.envM t ht]
 ·intro t ht
  rw [lI (λh=>by rw [hRi] at h;cases h),pf hi]
  exact I.slot t ht
 ·intro j hj
  rcases List.mem_cons.1 hj with rfl | hj
  ·exact hlt
  ·exact I.lt j hj
 ·intro M1 k M2 e1 hk
  cases M1 with
  |nil=>
   simp only [List.nil_append,List.cons.injEq] at e1
   obtain ⟨rfl,rfl⟩:=e1
   refine ⟨o,env,ho,λt ht=>?_,?_⟩
   ·rw [curA,pf hi];exact I.envM t ht
   ·rw [kE,kE];exact hct
  |cons x M1=>
   simp only [List.cons_append,List.cons.injEq] at e1
   obtain ⟨rfl,e1⟩:=e1
   have hkL:k ∈ L:=by rw [e1];simp
   obtain ⟨ok,env_k,hok,henvk,hct'⟩:=I.cert M1 k M2 e1 hk
   refine ⟨ok,env_k,hok,λt ht=>?_,?_⟩
   ·rw [curA,pf (M:=M2) (λh=>hi (by rw [e1];simp [h]))]
    exact henvk t ht
   ·rw [pe _ _ (hne k hkL),pe _ _ (hne k hkL)]
    rcases hct' with hct' | ⟨hg,hct' | ⟨hct',hk1⟩ | ⟨hk2,a1,a2,a3,b,f,a4,a5,a6⟩⟩
    ·exact .inl hct'
    ·exact .inr ⟨hg,.inl hct'⟩
    ·refine .inr ⟨hg,.inr (.inl ⟨?_,hk1⟩)⟩
     rcases hH with rfl | ⟨hn,b,rfl⟩
     ·exact hct'
     ·exact hct'.add I.st.hr hn
    ·exact .inr ⟨hg,.inr (.inr ⟨hk2,a1,Nat.lt_of_lt_of_le a2 hGh.1,a3,b,f,a4,a5,by rw [(hGh.2 _ a2 a3).2];exact a6⟩)⟩
 ·intro k j hk hj hRk hRj hk2 hj2 heq
  rcases List.mem_cons.1 hk with hki | hkL
  ·rcases List.mem_cons.1 hj with hji | hjL
   ·rw [hki,hji]
   ·exfalso
    subst hki
    rw [kE,pe _ _ (hne j hjL)] at heq
    rcases hg2 (by rw [←ni ho];exact hk2) with ⟨e1,_⟩ | e1<;>rcases I.ghs j hjL hRj hj2 with e2 | e2
    ·omega
    ·omega
    ·omega
    ·exact hne j hjL (by omega)
  ·rcases List.mem_cons.1 hj with hji | hjL
   ·exfalso
    subst hji
    rw [kE,pe _ _ (hne k hkL)] at heq
    rcases hg2 (by rw [←ni ho];exact hj2) with ⟨e1,_⟩ | e1<;>rcases I.ghs k hkL hRk hk2 with e2 | e2
    ·omega
    ·omega
    ·omega
    ·exact hne k hkL (by omega)
   ·rw [pe _ _ (hne k hkL),pe _ _ (hne j hjL)] at heq
    exact I.ghd k j hkL hjL hRk hRj hk2 hj2 heq
 ·intro k hk hRk hk2
  rcases List.mem_cons.1 hk with hki | hkL
  ·subst hki
   rw [kE]
   rcases hg2 (by rw [←ni ho];exact hk2) with ⟨e1,e2⟩ | e1
   ·exact .inl (by omega)
   ·exact .inr e1
  ·rw [pe _ _ (hne k hkL)]
   rcases I.ghs k hkL hRk hk2 with e2 | e2
   ·exact .inl (Nat.lt_of_lt_of_le e2 hGh.1)
   ·exact .inr e2
theorem Inv.both (I:Inv P e all w0 m0 H0 base L val gh R env H m w renv) {i:Nat} {o:Oper} {v:V} {rv:Value} {env':Env e} {H':Hp} {m':Mp} {w':World} (hi:i ∉ L) (hlt:i<all.length) (hr:∀ j ∈ jG all i,R j=true) (ho:all[i]?=some o)
  (henv:∀ t,t<e→lget (dpN e) env' t=if o.dst=some t then v else lget (dpN e) env t) (hle:Le m m') (hv:VR m' v rv) (hS:St w0 m' w' H') (hGh:Gh m m' H H')
  (hld:∀ L1 k L2 ok env_k,L=L1++k::L2→all[k]?=some ok→R k=false→qp ok.op=1→(∀ t,t<e→lget (dpN e) env_k t=curA all val base L2 t)→BA all e env_k ok→o9 P e env_k ok H (val k)→o9 P e env_k ok H' (val k)) :
  Inv P e all w0 m0 H0 base (i::L) (updN val i v) gh (λk=>R k || k == i) env' H' m' w' (put renv o.dst rv):=by
 have hne:∀ k ∈ L,k≠i:=λk hk e=>hi (e▸hk)
 have hRf:∀ k,(R k || k == i)=false→R k=false∧k≠i:=λk hk=>by simpa using hk
 have hRL:∀ j ∈ L,(R j || j == i)=R j:=λj hj=>by simp [hne j hj]
 have inL:∀ k,k ∈ i::L→k≠i→k ∈ L:=λk hk hki=>by
  rcases List.mem_cons.1 hk with h | h
  ·exact absurd h hki
  ·exact h
 refine ⟨hS,I.le0.trans hle,I.gh0.trans hGh,?_,?_,?_,I.lok.cons hi λj hj=>I.rl j (hr j hj),?_,?_,?_,?_,?_,?_⟩
 ·intro t ht
  rw [henv t ht]
  by_cases hdt:o.dst=some t
  ·rw [if_pos hdt,curA,rI rfl (by rw [ka ho];exact hdt),kE]
  ·rw [if_neg hdt,curA,lI (λ_=>by rw [ka ho];exact hdt),pf hi,I.envM t ht]
 ·cases hd:o.dst with
  |none=>exact I.len
  |some d=>show (renv.set d rv).length=e;rw [List.length_set];exact I.len
 ·intro t ht
  by_cases hd:o.dst=some t
  ·rw [rI (R:=λk=>R k || k == i) (by simp) (by rw [ka ho];exact hd),kE,hd]
   show VR m' v ((renv.set t rv).getD t undef)
   rw [List.getD_eq_getElem?_getD,List.getElem?_set,if_pos rfl,if_pos (by rw [I.len];exact ht)]
   exact hv
  ·rw [lI (R:=λk=>R k || k == i) (λ_=>by rw [ka ho];exact hd),pf hi,qz (R':=R) hRL λ_ _=>rfl]
   have h1:=(I.slot t ht).mono hle
   cases hd2:o.dst with
   |none=>exact h1
   |some d=>
    show VR m' _ ((renv.set d rv).getD t undef)
    rw [List.getD_eq_getElem?_getD,List.getElem?_set,if_neg (λe=>hd (by rw [hd2,e])),←List.getD_eq_getElem?_getD]
    exact h1
 ·intro j hj
  rcases List.mem_cons.1 hj with rfl | hj
  ·exact hlt
  ·exact I.lt j hj
 ·intro k hk
  simp only [Bool.or_eq_true,beq_iff_eq] at hk
  rcases hk with h | rfl
  ·exact List.mem_cons_of_mem _ (I.rl k h)
  ·simp
 ·intro k hk j hj
  simp only [Bool.or_eq_true,beq_iff_eq] at hk
  rcases hk with h | rfl
  ·simp [I.closR k h j hj]
  ·simp [hr j hj]
 ·intro M1 k M2 e1 hk
  obtain ⟨h1,h2⟩:=hRf k hk
  cases M1 with
  |nil=>
   simp only [List.nil_append,List.cons.injEq] at e1
   exact absurd e1.1.symm h2
  |cons x M1=>
   simp only [List.cons_append,List.cons.injEq] at e1
   obtain ⟨rfl,e1⟩:=e1
   obtain ⟨ok,env_k,hok,henvk,hct'⟩:=I.cert M1 k M2 e1 h1
   refine ⟨ok,env_k,hok,λt ht=>?_,?_⟩
   ·rw [curA,pf (M:=M2) (λh=>hi (by rw [e1];simp [h]))]
    exact henvk t ht
   ·rw [pe _ _ h2]
    rcases hct' with hct' | ⟨hg,hct' | ⟨hct',hk1⟩ | ⟨hk2,a1,a2,a3,b,f,a4,a5,a6⟩⟩
    ·exact .inl hct'
    ·exact .inr ⟨hg,.inl hct'⟩
    ·exact .inr ⟨hg,.inr (.inl ⟨hld M1 k M2 ok env_k e1 hok h1 hk1 henvk hg hct',hk1⟩)⟩
    ·exact .inr ⟨hg,.inr (.inr ⟨hk2,a1,Nat.lt_of_lt_of_le a2 hGh.1,(hGh.2 _ a2 a3).1,b,f,a4,a5,by rw [(hGh.2 _ a2 a3).2];exact a6⟩)⟩
 ·intro k j hk hj hRk hRj
  obtain ⟨h1,h2⟩:=hRf k hRk
  obtain ⟨h3,h4⟩:=hRf j hRj
  exact I.ghd k j (inL k hk h2) (inL j hj h4) h1 h3
 ·intro k hk hRk hk2
  obtain ⟨h1,h2⟩:=hRf k hRk
  rcases I.ghs k (inL k hk h2) h1 hk2 with e2 | e2
  ·exact .inl (Nat.lt_of_lt_of_le e2 hGh.1)
  ·exact .inr e2
theorem oB {l:List Nat} {nx:CdR e} {call:Cal} {K:Env e→Hp→Prop} (h:(chkN P e all l nx).go call env H K):nx call env H K∧∀ i ∈ l,CP P e all env H i:=by
 unfold chkN at h
 split at h
 ·exact ⟨h,λi hi=>by cases hi⟩
 ·rw [aP,cU] at h
  exact ta h
theorem uV {o:Oper} {r:OpR e} {nx:CdR e} {call:Cal} {K:Env e→Hp→Prop} (h:(wP P e all o r nx).go call env H K) :
  (BA all e env o∧r call env H λv H=>(putC e o.dst).go env v λenv=>nx call env H K)∨(uT all e env o∧(putC e o.dst).go env (.c .un) λenv=>nx call env H K):=by
 unfold wP at h
 split at h
 ·rename_i hg
  rw [aP,cU] at h
  exact .inl ⟨.inl hg,h⟩
 ·rename_i j want hg
  split at h
  ·rename_i d hd
   rw [aP,aP,cU] at h
   obtain ⟨hde,h1⟩:=sD h
   rcases yw h1 with ⟨hx,h2⟩ | ⟨b,hx,⟨hb,h2⟩ | ⟨hb,h2⟩⟩
   ·exact .inr ⟨⟨j,want,d,hg,hd,hde,.inl hx⟩,h2⟩
   ·exact .inl ⟨.inr ⟨j,want,d,hg,hd,hde,by rw [hx,hb]⟩,h2⟩
   ·exact .inr ⟨⟨j,want,d,hg,hd,hde,.inr ⟨b,hx,hb⟩⟩,h2⟩
  ·exact h.elim
theorem sE (he:e≤16384) {d:Option Tmp} {v:V} {K:Env e→Prop} (h:(putC e d).go env v K):∃ env',K env'∧∀ t,t<e→lget (dpN e) env' t=if d=some t then v else lget (dpN e) env t:=by
 cases d with
 |none=>exact ⟨env,h,λt _=>by simp⟩
 |some d=>
  obtain ⟨ht,hk⟩:=vZ (show (setE e d).go env v K from h)
  refine ⟨_,hk,λt hte=>?_⟩
  have hdp:=lj he
  rw [dZ _ _ _ _ _ (by omega) (by omega)]
  by_cases hd:t=d
  ·subst hd;rw [if_pos rfl,if_pos rfl]
  ·rw [if_neg hd,if_neg λe=>hd (by simpa using e.symm)]
theorem uk {s:Step} {l:List Step} {call:Cal} {K:Env e→Hp→Prop} (h:(nf P e all (s::l)).go call env H K):(wP P e all s.o (opD P e s.o.op).go (chkN P e all s.chk (nf P e all l).go).go).go call env H K:=by
 have h0:((opD P e s.o.op).bind λr=>(nf P e all l).bind λnx=>(chkN P e all s.chk nx).bind λnx=>wP P e all s.o r nx).go call env H K:=h
 rw [aP,aP,aP] at h0
 exact h0
theorem Aa (he:e≤16384) {s:Step} {l:List Step} {call:Cal} {K:Env e→Hp→Prop} {B:Bs} (hHR:HR m B w H) (hG:Gh m0 m H0 H) (hk:qp s.o.op≠3) (h:(nf P e all (s::l)).go call env H K) :
  ∃ v g env' H',(nf P e all l).go call env' H' K∧(∀ t,t<e→lget (dpN e) env' t=if s.o.dst=some t then v else lget (dpN e) env t)∧(H'=H∨(H.next≤16383∧∃ b,H'=⟨H.next+1,lset 7 H.t H.next b⟩))∧
   (qp s.o.op=2→(g=H.next∧H.next<H'.next)∨g=20000+s.i)∧Ct P e all H0 env H' m g s.o v:=by
 rcases uV (uk h) with ⟨hg,h1⟩ | ⟨hg,h1⟩
 ·unfold opD at h1
  split at h1
  ·rename_i hk0
   rw [aP,cU] at h1
   obtain ⟨v,h2,hP⟩:=ud h1
   obtain ⟨env',h3,h4⟩:=sE he h2
   exact ⟨v,0,env',H,(oB h3).1,h4,.inl rfl,λhh=>(by rw [hk0] at hh;cases hh),.inr ⟨hg,.inl hP⟩⟩
  ·rename_i hk1
   split at h1
   ·rename_i t x ho
    rw [aP,cU] at h1
    obtain ⟨v,h2,hL⟩:=o9.of ho h1
    obtain ⟨env',h3,h4⟩:=sE he h2
    exact ⟨v,0,env',H,(oB h3).1,h4,.inl rfl,λhh=>(by rw [hk1] at hh;cases hh),.inr ⟨hg,.inr (.inl ⟨hL,hk1⟩)⟩⟩
   ·exact h1.elim
  ·rename_i hk2
   rw [aP,cU] at h1
   obtain ⟨b,f,h2,hF⟩:=tk h1
   obtain ⟨hn,h3⟩:=o7 h2
   obtain ⟨env',h4,h5⟩:=sE he h3
   refine ⟨f H.next,H.next,env',_,(oB h4).1,h5,.inr ⟨hn,b,rfl⟩,λ_=>.inl ⟨rfl,Nat.lt_succ_self _⟩,.inr ⟨hg,.inr (.inr ⟨hk2,hG.1,Nat.lt_succ_self _,hHR.unm _ (Nat.le_refl _),b,f,hF,rfl,?_⟩)⟩⟩
   show lget 7 (lset 7 H.t H.next b) H.next=b
   rw [dZ 7 _ _ _ _ (by rw [←hlim];omega) (by rw [←hlim];omega),if_pos rfl]
  ·exfalso
   rename_i h0' h1' h2'
   have:qp s.o.op=0∨qp s.o.op=1∨qp s.o.op=2∨qp s.o.op=3:=by
    unfold qp
    split<;>simp
   rcases this with h | h | h | h
   ·exact h0' h
   ·exact h1' h
   ·exact h2' h
   ·exact hk h
 ·obtain ⟨env',h3,h4⟩:=sE he h1
  exact ⟨.c .un,20000+s.i,env',H,(oB h3).1,h4,.inl rfl,λ_=>.inr rfl,.inl ⟨hg,rfl⟩⟩
end
end Go.Mx
namespace Go.Mx
open Go.Eng
section
variable {P:Program} {e:Nat} {all:List Oper} {w0:Bs} {m0:Mp} {H0:Hp} {base:Nat→V}
variable {L:List Nat} {val:Nat→V} {gh:Nat→Nat} {R:Nat→Bool} {env:Env e} {H:Hp} {m:Mp} {w:World} {renv:List Value} {call:Cal} {A:List (Nat×Nat)}
theorem BB {op:Op} (h:qp op=3):opD P e op=wO P e op:=by
 unfold opD
 split<;>first | (rename_i h2;rw [h] at h2;cases h2) | rfl
theorem o9.upd {env':Env e} {o:Oper} {v:V} (h:o9 P e env' o H v) (he:∀ x ∈ o.op.operands.toList,∀ t,x=.tmp t→t<e→lget (dpN e) env' t=lget (dpN e) env t):o9 P e env o H v:=by
 obtain ⟨ob,wr,n,dp,d,hg,hl⟩:=h
 refine ⟨ob,wr,n,dp,d,hg,λH2 m B w renv hg2 hH hr=>hl H2 m B w renv hg2 hH λx hx t ht hte=>?_⟩
 rw [he x hx t ht hte]
 exact hr x hx t ht hte
theorem uW (hA:AncT all A) {l:Nat} (h:okLd all A l=true):∃ o t a d,all[l]?=some o∧o.op=.load t (.tmp a)∧o.dst=some d∧a≠d∧(∀ j t',j<all.length→dstOf all j=some t'→(t'=a→Anc all l j)∧(t'=d→j=l))∧
  ∀ j want,o.guard=some (j,want)→∃ g,dstOf all j=some g∧∀ i,i<all.length→dstOf all i=some g→Anc all l i:=by
 unfold okLd at h
 split at h
 ·rename_i o ho
  rw [Bool.and_eq_true] at h
  obtain ⟨hG,h⟩:=h
  split at h
  ·rename_i t a d hop hdst
   simp only [Bool.and_eq_true,Bool.not_eq_true',List.all_eq_true] at h
   refine ⟨o,t,a,d,ho,hop,hdst,λe=>(by rw [e,Nat.beq_refl] at h;cases h.1),λj t' hj hd=>?_,λj want hgd=>?_⟩
   ·have h2:=h.2 j (List.mem_range.2 hj)
    rw [hd] at h2
    simp only [Bool.and_eq_true,Bool.or_eq_true,Bool.not_eq_true'] at h2
    refine ⟨λe=>?_,λe=>?_⟩
    ·subst e
     rcases h2.1 with h3 | h3
     ·rw [Nat.beq_refl] at h3;cases h3
     ·exact hA _ _ h3
    ·subst e
     rcases h2.2 with h3 | h3
     ·rw [Nat.beq_refl] at h3;cases h3
     ·exact Nat.eq_of_beq_eq_true h3
   ·unfold E2 at hG
    rw [hgd] at hG
    simp only at hG
    split at hG
    ·rename_i g hg
     refine ⟨g,hg,λi hi hdi=>?_⟩
     have h2:=List.all_eq_true.1 hG i (List.mem_range.2 hi)
     rw [hdi] at h2
     simp only [Bool.or_eq_true,Bool.not_eq_true'] at h2
     rcases h2 with h3 | h3
     ·rw [Nat.beq_refl] at h3;cases h3
     ·exact hA _ _ h3
    ·cases hG
  ·cases h
 ·cases h
theorem uX (I:Inv P e all w0 m0 H0 base L val gh R env H m w renv) {i:Nat} {o:Oper} {v:V} {env':Env e} (hi:i ∉ L) (hlt:i<all.length) (ho:all[i]?=some o)
  (henv:∀ t,t<e→lget (dpN e) env' t=if o.dst=some t then v else lget (dpN e) env t) {L1 L2:List Nat} {k:Nat} {env_k:Env e} (hL:L=L1++k::L2)
  (henvk:∀ t,t<e→lget (dpN e) env_k t=curA all val base L2 t) {a:Nat} (hte:a<e) (hw:∀ j,j<all.length→dstOf all j=some a→Anc all k j):lget (dpN e) env' a=lget (dpN e) env_k a:=by
 have hlok:=hL▸I.lok
 have hself:=hlok.self
 have hkL:k ∈ L:=by rw [hL];simp
 have hno:∀ j,j<all.length→dstOf all j=some a→j ∈ L2:=λj hj hd=>hlok.anc (hw j hj hd)
 rw [henv a hte,if_neg λhh=>hi (by rw [hL];have:=hno i hlt (by rw [ka ho];exact hh);simp [this]),I.envM a hte,henvk a hte,hL,curA]
 rw [nh λj hj _ hh=>?_,lI λ_ hh=>?_]
 ·have:=hno k (I.lt k hkL) hh
  exact hself.1 this
 ·have h1:=hno j (I.lt j (by rw [hL];simp [hj])) hh
  obtain ⟨M1,M2,rfl⟩:=List.append_of_mem hj
  have h3:LOk all (M1++j::(M2++k::L2)):=by simpa using hlok
  exact h3.self.1 (by simp [h1])
theorem CS (I:Inv P e all w0 m0 H0 base L val gh R env H m w renv) (hA:AncT all A) {i:Nat} {o:Oper} {v:V} {env':Env e} {H':Hp} (hi:i ∉ L) (hlt:i<all.length) (ho:all[i]?=some o)
  (henv:∀ t,t<e→lget (dpN e) env' t=if o.dst=some t then v else lget (dpN e) env t) {L1 L2:List Nat} {k:Nat} {ok:Oper} {env_k:Env e} (hL:L=L1++k::L2) (hok:all[k]?=some ok)
  (henvk:∀ t,t<e→lget (dpN e) env_k t=curA all val base L2 t) (hld:okLd all A k=true) {o':Oper} {d':Nat} (ho':all[k]?=some o') (hd':o'.dst=some d') (hde:d'<e) (h:o9 P e env' o' H' (lget (dpN e) env' d')):o9 P e env_k ok H' (val k):=by
 obtain ⟨oo,t,a,d,hoo,hop,hdst,had,hw,_⟩:=uW hA hld
 have e1:ok=oo:=Option.some.inj (hok.symm.trans hoo)
 subst e1
 have e2:ok=o':=Option.some.inj (hok.symm.trans ho')
 subst e2
 have e3:d=d':=Option.some.inj (hdst.symm.trans hd')
 subst e3
 have hlok:=hL▸I.lok
 have hself:=hlok.self
 have hkL:k ∈ L:=by rw [hL];simp
 have hik:i≠k:=λe=>hi (e▸hkL)
 have hv:lget (dpN e) env' d=val k:=by
  rw [henv d hde,if_neg λhh=>hik ((hw i d hlt (by rw [ka ho];exact hh)).2 rfl),I.envM d hde,hL,curA]
  rw [nh λj hj _ hh=>hself.2 (by
   have:=(hw j d (I.lt j (by rw [hL];simp [hj])) hh).2 rfl
   exact this▸hj),rI rfl (by rw [ka hok];exact hdst)]
 rw [hv] at h
 refine h.upd λx hx t' ht' hte=>?_
 have hxa:x=.tmp a:=by rw [hop] at hx;simpa [Op.operands] using hx
 rw [hxa] at ht'
 cases ht'
 exact uX I hi hlt ho henv hL henvk hte λj hj hd=>(hw j a hj hd).1 rfl
theorem CT (I:Inv P e all w0 m0 H0 base L val gh R env H m w renv) (hA:AncT all A) {i:Nat} {o:Oper} {v:V} {env':Env e} (hi:i ∉ L) (hlt:i<all.length) (ho:all[i]?=some o)
  (henv:∀ t,t<e→lget (dpN e) env' t=if o.dst=some t then v else lget (dpN e) env t) {L1 L2:List Nat} {k:Nat} {ok:Oper} {env_k:Env e} (hL:L=L1++k::L2) (hok:all[k]?=some ok)
  (henvk:∀ t,t<e→lget (dpN e) env_k t=curA all val base L2 t) (hld:okLd all A k=true) (hr:BA all e env_k ok) (hs:uT all e env' ok):False:=by
 obtain ⟨oo,t,a,d,hoo,hop,hdst,had,hw,hgd⟩:=uW hA hld
 have e1:ok=oo:=Option.some.inj (hok.symm.trans hoo)
 subst e1
 obtain ⟨j,want,g,h1,h2,h3,h4⟩:=hs
 obtain ⟨g',h5,h6⟩:=hgd j want h1
 have e2:g=g':=Option.some.inj (h2.symm.trans h5)
 subst e2
 have h7:=uX I hi hlt ho henv hL henvk h3 h6
 rcases hr with hr | ⟨j',want',g',r1,r2,r3,r4⟩
 ·rw [hr] at h1;cases h1
 ·rw [h1] at r1
  cases r1
  have e3:g=g':=Option.some.inj (h2.symm.trans r2)
  subst e3
  rw [h7,r4] at h4
  rcases h4 with h4 | ⟨b,h4,h8⟩
  ·cases h4
  ·cases h4
   exact h8 rfl
theorem Em {Q:Exit→Act→World→Prop} {Kc:Act→World→Prop} {K:Env e→Hp→Prop} (he:e≤16384) (hT:xn all) (hA:AncT all A) (hC:qy P w0 call) (I:Inv P e all w0 m0 H0 base L val gh R env H m w renv) {i:Nat} {o:Oper} {ch:List Nat} {l:List Step}
  (hi:i ∉ L) (hn:R i=false) (hlt:i<all.length) (hr:∀ j ∈ jG all i,R j=true) (ho:all[i]?=some o) (hk:qp o.op=3) (h:(nf P e all (⟨i,o,ch⟩::l)).go call env H K)
  (hch:∀ k ∈ L,R k=false→rE all k=1→k ∈ ch) (hld:∀ k ∈ ch,okLd all A k=true)
  (hK:∀ v env' H' m' w' renv',Inv P e all w0 m0 H0 base (i::L) (updN val i v) gh (λk=>R k || k == i) env' H' m' w' renv'→(nf P e all l).go call env' H' K→Kc (act renv') w'):wpOp P all.toArray Q i Kc (act renv) w:=by
 have hrd:∀ t ∈ qr all i,SlR m e env renv t:=by
  intro t ht hte
  have hlok:=I.lok.cons hi λj hj=>I.rl j (hr j hj)
  have h1:=zg (val:=val) (base:=base) (L1:=[]) (L2:=L) hT hlok (λj hj=>by
   rcases List.mem_cons.1 hj with rfl | hj
   ·exact hlt
   ·exact I.lt j hj) I.closR hn hr ht
  rw [I.envM t hte,←h1]
  show VR m (cur all val base R (i::L) t) _
  rw [lI λh=>by rw [hn] at h;cases h]
  exact I.slot t hte
 have hops:=xq ho hrd
 have fin:∀ {v:V} {rv:Value} {m':Mp} {H':Hp} {w':World},Le m m'→VR m' v rv→St w0 m' w' H'→Gh m m' H H'→(putC e o.dst).go env v (λenv=>(chkN P e all ch (nf P e all l).go).go call env H' K)→Kc (act (put renv o.dst rv)) w':=by
  intro v rv m' H' w' hle hv hS hG hp
  obtain ⟨env',h1,henv⟩:=sE he hp
  obtain ⟨h2,h3⟩:=oB h1
  refine hK v env' H' m' w' _ (I.both hi hlt hr ho henv hle hv hS hG λL1 k L2 ok env_k hL hok hRk hk1 henvk hgr _=>?_) h2
  have hkch:=hch k (by rw [hL];simp) hRk (by rw [ni hok];exact hk1)
  obtain ⟨o',ho',⟨d',hd',hde,hl⟩ | hs⟩:=h3 k hkch
  ·exact CS I hA hi hlt ho henv hL hok henvk (hld k hkch) ho' hd' hde hl
  ·have e2:ok=o':=Option.some.inj (hok.symm.trans ho')
   subst e2
   exact (CT I hA hi hlt ho henv hL hok henvk (hld k hkch) hgr hs).elim
 unfold wpOp
 rw [List.getElem?_toArray,ho]
 simp only
 rcases uV (uk h) with ⟨hg,h1⟩ | ⟨hg,h1⟩
 ·rw [if_pos (uU ho I.len hrd hg)]
  rw [BB hk] at h1
  refine .inl (xE (tl hC h1 I.st hops) λrv w' hAf=>?_)
  obtain ⟨m',v,H',hle,hv,hS,hG,hp⟩:=hAf
  exact fin hle hv hS hG hp
 ·rw [if_neg (by rw [uj ho I.len hrd hg];simp),gT]
  exact fin (Le.refl m) (show VR m (.c .un) undef from rfl) I.st (Gh.refl m H) h1
theorem E5 {a b:Nat} (h:Nat.blt a b=true):a<b:=Nat.le_of_ble_eq_true h
theorem sG {i:Nat} {ch:List Nat} {p:Plan} {E:Nat} (h:okGo all A ((i,ch)::p) E=true):has E i=false∧(∀ j ∈ jG all i,has E j=true)∧i<all.length∧
  (rE all i=3→∀ j,j<all.length→(has E j=true∧(rE all j=1→has (qq A i) j=true∨j ∈ ch))∨j=i∨has (qq A j) i=true)∧okGo all A p (add E i)=true:=by
 unfold okGo at h
 rw [Ba] at h
 simp only [Bool.and_eq_true,rdyI,Bool.not_eq_true',List.all_eq_true] at h
 obtain ⟨⟨h1,h2⟩,h3,h4,h5⟩:=h
 refine ⟨h1,h2,E5 h3,λhk j hj=>?_,h5⟩
 rw [hk] at h4
 simp only [Nat.beq_refl,Bool.not_true,Bool.false_or,List.all_eq_true] at h4
 have h6:=h4 j (List.mem_range.2 hj)
 simp only [Bool.or_eq_true,Bool.and_eq_true,Bool.not_eq_true'] at h6
 rcases h6 with (⟨h7,h8⟩ | h7) | h7
 ·refine .inl ⟨h7,λhk1=>?_⟩
  rcases h8 with (h8 | h8) | h8
  ·rw [hk1] at h8;cases h8
  ·exact .inl h8
  ·exact .inr ((v6 _ _).1 h8)
 ·exact .inr (.inl (Nat.eq_of_beq_eq_true h7))
 ·exact .inr (.inr h7)
theorem tm {i:Nat} {ch:List Nat} {p:Plan} {o:Oper} (ho:all[i]?=some o):oW all ((i,ch)::p)=⟨i,o,ch⟩::oW all p:=by
 unfold oW
 rw [List.filterMap_cons]
 simp [ho]
theorem BC {i:Nat} (h:i<all.length):∃ o,all[i]?=some o:=⟨_,List.getElem?_eq_getElem h⟩
theorem BD (he:e≤16384) (hA:AncT all A) {K:Env e→Hp→Prop} {i:Nat} (hlt:i<all.length):∀ (rem:Plan) {E:Nat} {L:List Nat} {val:Nat→V} {gh:Nat→Nat} {env:Env e} {H:Hp},
  Inv P e all w0 m0 H0 base L val gh R env H m w renv→(∀ j,has E j=true↔j ∈ L)→okGo all A rem E=true→(∀ x ∈ rem,∀ l ∈ x.2,okLd all A l=true)→(nf P e all (oW all rem)).go call env H K→i ∉ L→(∀ j ∈ jG all i,R j=true)→
  ∃ (rem':Plan) (E':Nat) (L':List Nat) (val':Nat→V) (gh':Nat→Nat) (env':Env e) (H':Hp),Inv P e all w0 m0 H0 base L' val' gh' R env' H' m w renv∧(∀ j,has E' j=true↔j ∈ L')∧okGo all A rem' E'=true∧(∀ x ∈ rem',∀ l ∈ x.2,okLd all A l=true)∧(nf P e all (oW all rem')).go call env' H' K∧
   (i ∈ L'∨(i ∉ L'∧rE all i=3∧∃ ch p,rem'=(i,ch)::p))
 | [],E,L,val,gh,env,H,I,hE,hok,hld,h,hi,hr=>by
  unfold okGo at hok
  rw [List.all_eq_true] at hok
  exact absurd ((hE i).1 (hok i (List.mem_range.2 hlt))) hi
 | (k,ch)::p,E,L,val,gh,env,H,I,hE,hok,hld,h,hi,hr=>by
  obtain ⟨h1,h2,h3,h4,h5⟩:=sG hok
  obtain ⟨o,ho⟩:=BC h3
  by_cases hk3:rE all k=3
  ·by_cases hki:k=i
   ·subst hki
    exact ⟨_,E,L,val,gh,env,H,I,hE,hok,hld,h,.inr ⟨hi,hk3,ch,p,rfl⟩⟩
   ·exfalso
    rcases h4 hk3 i hlt with ⟨h6,_⟩ | h6 | h6
    ·exact hi ((hE i).1 h6)
    ·exact hki h6.symm
    ·have hRk:=(hA _ _ h6).ready (R:=λk=>R k=true) I.closR hr
     have:=(hE k).2 (I.rl k hRk)
     rw [h1] at this;cases this
  ·rw [tm ho] at h
   have hkL:k ∉ L:=λhh=>by have:=(hE k).2 hh;rw [h1] at this;cases this
   obtain ⟨v,g,env',H',h6,h7,h8,h9,h10⟩:=Aa he I.st.hr I.gh0 (s:=⟨k,o,ch⟩) (by rw [←ni ho];exact hk3) h
   have I':=I.ahead hkL h3 (λj hj=>(hE j).1 (h2 j hj)) ho h7 h8 h9 h10
   have hE':∀ j,has (add E k) j=true↔j ∈ k::L:=λj=>by
    rw [Bw,Bool.or_eq_true,decide_eq_true_eq,List.mem_cons,hE j]
    exact or_comm
   by_cases hki:k=i
   ·subst hki
    exact ⟨p,_,_,_,_,_,_,I',hE',h5,λx hx=>hld x (List.mem_cons_of_mem _ hx),h6,.inl (by simp)⟩
   ·exact BD he hA hlt p I' hE' h5 (λx hx=>hld x (List.mem_cons_of_mem _ hx)) h6 (λhh=>by
     rcases List.mem_cons.1 hh with h | h
     ·exact hki h.symm
     ·exact hi h) hr
end
end Go.Mx
namespace Go.Mx
open Go.Eng
section
variable {P:Program} {e:Nat} {all:List Oper} {w0:Bs} {m0:Mp} {H0:Hp} {base:Nat→V}
variable {L:List Nat} {val:Nat→V} {gh:Nat→Nat} {R:Nat→Bool} {env:Env e} {H:Hp} {m:Mp} {w:World} {renv:List Value} {call:Cal} {A:List (Nat×Nat)}
theorem uY:∀ {L:List Nat},(∃ k ∈ L,R k=false)→∃ L1 i L2,L=L1++i::L2∧R i=false∧∀ j ∈ L2,R j=true
 | [],⟨k,hk,_⟩=>by cases hk
 |x::L,⟨k,hk,hR⟩=>by
  by_cases h:∃ k ∈ L,R k=false
  ·obtain ⟨L1,i,L2,h1,h2,h3⟩:=uY h
   exact ⟨x::L1,i,L2,by rw [h1];rfl,h2,h3⟩
  ·have hx:R x=false:=by
    rcases List.mem_cons.1 hk with e | hk
    ·rw [←e];exact hR
    ·exact absurd ⟨k,hk,hR⟩ h
   refine ⟨[],x,L,rfl,hx,λj hj=>?_⟩
   cases hj2:R j with
   |true=>rfl
   |false=>exact absurd ⟨j,hj,hj2⟩ h
theorem Ab {rem:Plan} {E:Nat} (I:Inv P e all w0 m0 H0 base L val gh R env H m w renv) (hE:∀ j,has E j=true↔j ∈ L) (hok:okGo all A rem E=true) (h:∃ k,k<all.length∧R k=false):∃ i,i<all.length∧R i=false∧∀ j ∈ jG all i,R j=true:=by
 by_cases hl:∃ k ∈ L,R k=false
 ·obtain ⟨L1,i,L2,h1,h2,h3⟩:=uY hl
  exact ⟨i,I.lt i (by rw [h1];simp),h2,λj hj=>h3 j ((I.lok L1 i L2 h1).2 j hj)⟩
 ·have hall:∀ k ∈ L,R k=true:=λk hk=>by
   cases hj:R k with
   |true=>rfl
   |false=>exact absurd ⟨k,hk,hj⟩ hl
  obtain ⟨k,hk,hRk⟩:=h
  have hkL:k ∉ L:=λhh=>by rw [hall k hh] at hRk;cases hRk
  cases rem with
  |nil=>
   unfold okGo at hok
   rw [List.all_eq_true] at hok
   exact absurd ((hE k).1 (hok k (List.mem_range.2 hk))) hkL
  |cons x p=>
   obtain ⟨i,ch⟩:=x
   obtain ⟨h1,h2,h3,_,_⟩:=sG hok
   refine ⟨i,h3,?_,λj hj=>hall j ((hE j).1 (h2 j hj))⟩
   cases hj:R i with
   |false=>rfl
   |true=>
    have:=(hE i).2 (I.rl i hj)
    rw [h1] at this;cases this
theorem zk {rem:Plan} {E:Nat} {K:Env e→Hp→Prop} (I:Inv P e all w0 m0 H0 base L val gh R env H m w renv) (hE:∀ j,has E j=true↔j ∈ L) (hok:okGo all A rem E=true) (h:(nf P e all (oW all rem)).go call env H K) (hR:∀ k,k<all.length→R k=true):Bh w0 m0 H0 K renv w:=by
 cases rem with
 |nil=>
  refine ⟨m,env,H,I.le0,I.st,⟨I.len,λt ht=>?_⟩,I.gh0,h⟩
  have:=I.slot t ht
  rw [I.envM t ht,curA,←qz (R:=R) (λj hj=>hR j (I.lt j hj)) λ_ _=>rfl]
  exact this
 |cons x p=>
  obtain ⟨i,ch⟩:=x
  obtain ⟨h1,h2,h3,_,_⟩:=sG hok
  have:=(hE i).2 (I.rl i (hR i h3))
  rw [h1] at this;cases this
theorem uZ {listed:Array Bool} (hs:listed.size=all.length) {k:Nat} (hk:k<all.length):listed.getD k true=listed.getD k false:=by
 simp [Array.getD_eq_getD_getElem?,Array.getElem?_eq_getElem (show k<listed.size by omega)]
theorem zl {i j:Nat} {o:Oper} (ho:all[i]?=some o):j ∈ jG all i↔∃ x ∈ o.after,Region.binds .any x=true∧x.on=j:=by
 unfold jG E1
 rw [ho]
 simp only [List.mem_map,List.mem_filter,Array.mem_toList_iff]
 constructor
 ·rintro ⟨x,⟨h1,h2⟩,h3⟩;exact ⟨x,h1,h2,h3⟩
 ·rintro ⟨x,h1,h2,h3⟩;exact ⟨x,⟨h1,h2⟩,h3⟩
theorem ul {listed:Array Bool} (hs:listed.size=all.length) {i:Nat}:i ∈ Region.ready .any all.toArray listed↔i<all.length∧listed.getD i false=false∧∀ j ∈ jG all i,listed.getD j false=true:=by
 rw [mem_ready]
 constructor
 ·rintro ⟨h1,o,h2,h3⟩
  have h2:all[i]?=some o:=by simpa using h2
  have hi:i<all.length:=by
   rcases Nat.lt_or_ge i all.length with h | h
   ·exact h
   ·rw [List.getElem?_eq_none h] at h2;cases h2
  refine ⟨hi,by rw [←uZ hs hi];exact h1,λj hj=>?_⟩
  obtain ⟨x,hx,hb,rfl⟩:=(zl h2).1 hj
  exact h3 x hx hb
 ·rintro ⟨h1,h2,h3⟩
  obtain ⟨o,ho⟩:=BC h1
  exact ⟨by rw [uZ hs h1];exact h2,o,by simpa using ho,λx hx hb=>h3 _ ((zl ho).2 ⟨x,hx,hb,rfl⟩)⟩
theorem En {listed:Array Bool} (hs:listed.size=all.length) {i:Nat} (hi:i<all.length):(λk=>(listed.setIfInBounds i true).getD k false)=λk=>listed.getD k false || k == i:=by
 funext k
 by_cases hk:k=i
 ·subst hk
  simp [Array.getD_eq_getD_getElem?,show k<listed.size by omega]
 ·have:i≠k:=λe=>hk e.symm
  simp [Array.getD_eq_getD_getElem?,this,hk]
theorem count_set {listed:Array Bool} {i:Nat} {n:Nat} (hi:i<listed.size) (hf:listed.getD i false=false) (hc:listed.toList.count false=n+1):(listed.setIfInBounds i true).toList.count false=n:=by
 have h1:listed.toList[i]'(by simpa using hi)=false:=by
  simpa [Array.getD_eq_getD_getElem?,Array.getElem?_eq_getElem hi] using hf
 rw [Array.toList_setIfInBounds,List.count_set (by simpa using hi),hc,h1]
 simp
theorem xr {listed:Array Bool} (hs:listed.size=all.length) (hc:listed.toList.count false=0):∀ k,k<all.length→listed.getD k false=true:=by
 intro k hk
 have h1:k<listed.size:=by omega
 rw [Array.getD_eq_getD_getElem?,Array.getElem?_eq_getElem h1,Option.getD_some]
 cases h2:listed[k] with
 |true=>rfl
 |false=>
  exfalso
  rw [List.count_eq_zero] at hc
  exact hc (by rw [←h2];simp)
theorem um {Q:Exit→Act→World→Prop} {K:Env e→Hp→Prop} (he:e≤16384) (hT:xn all) (hA:AncT all A) (hC:qy P w0 call) (hQ:∀ renv' w',Bh w0 m0 H0 K renv' w'→Q .normal (act renv') w') :
  ∀ (fuel:Nat) (listed:Array Bool) (rem:Plan) (E:Nat) (L:List Nat) (val:Nat→V) (gh:Nat→Nat) (env:Env e) (H:Hp) (m:Mp) (w:World) (renv:List Value),
  Inv P e all w0 m0 H0 base L val gh (λk=>listed.getD k false) env H m w renv→(∀ j,has E j=true↔j ∈ L)→okGo all A rem E=true→(∀ x ∈ rem,∀ l ∈ x.2,okLd all A l=true)→(nf P e all (oW all rem)).go call env H K→
  listed.size=all.length→listed.toList.count false=fuel→wpAny P .any all.toArray Q fuel listed (act renv) w
 | 0,listed,rem,E,L,val,gh,env,H,m,w,renv,I,hE,hok,hld,h,hs,hc=>by
  have hall:=xr hs hc
  refine ⟨?_,hQ _ _ (zk I hE hok h hall)⟩
  cases hr:Region.ready .any all.toArray listed with
  |nil=>rfl
  |cons i l=>
   obtain ⟨h1,h2,_⟩:=(ul hs).1 (show i ∈ Region.ready .any all.toArray listed by rw [hr];simp)
   rw [hall i h1] at h2;cases h2
 |fuel+1,listed,rem,E,L,val,gh,env,H,m,w,renv,I,hE,hok,hld,h,hs,hc=>by
  refine ⟨λhr=>?_,λi hi=>?_⟩
  ·refine hQ _ _ (zk I hE hok h λk hk=>?_)
   cases hR:listed.getD k false with
   |true=>rfl
   |false=>
    exfalso
    obtain ⟨i,h1,h2,h3⟩:=Ab I hE hok ⟨k,hk,hR⟩
    have:=(ul hs).2 ⟨h1,h2,h3⟩
    rw [hr] at this;cases this
  ·obtain ⟨h1,h2,h3⟩:=(ul hs).1 hi
   have hset:=En (listed:=listed) hs h1
   have hsz:(listed.setIfInBounds i true).size=all.length:=by simpa using hs
   have hcnt:=count_set (by omega) h2 hc
   obtain ⟨rem',E',L',val',gh',env',H',I',hE',hok',hld',h',hcase⟩:∃ (rem':Plan) (E':Nat) (L':List Nat) (val':Nat→V) (gh':Nat→Nat) (env':Env e) (H':Hp),Inv P e all w0 m0 H0 base L' val' gh' (λk=>listed.getD k false) env' H' m w renv∧(∀ j,has E' j=true↔j ∈ L')∧okGo all A rem' E'=true∧(∀ x ∈ rem',∀ l ∈ x.2,okLd all A l=true)∧(nf P e all (oW all rem')).go call env' H' K∧
     (i ∈ L'∨(i ∉ L'∧rE all i=3∧∃ ch p,rem'=(i,ch)::p)):=by
    by_cases hiL:i ∈ L
    ·exact ⟨rem,E,L,val,gh,env,H,I,hE,hok,hld,h,.inl hiL⟩
    ·exact BD he hA h1 rem I hE hok hld h hiL h3
   rcases hcase with hiL | ⟨hiL,hk3,ch,p,rfl⟩
   ·refine I'.replay hT hiL h2 h3 λm2 w2 renv2 I2=>?_
    exact um he hT hA hC hQ fuel _ rem' E' L' val' gh' env' H' m2 w2 renv2 (by rw [hset];exact I2) hE' hok' hld' h' hsz hcnt
   ·obtain ⟨o,ho⟩:=BC h1
    rw [tm ho] at h'
    obtain ⟨q1,q2,q3,q4,q5⟩:=sG hok'
    refine Em he hT hA hC I' hiL h2 h1 h3 ho (by rw [←ni ho];exact hk3) h' (λk hk hRk hk1=>?_) (hld' (i,ch) (by simp)) λv env2 H2 m2 w2 renv2 I2 hn=>?_
    ·rcases q4 hk3 k (I'.lt k hk) with ⟨_,h6⟩ | h6 | h6
     ·rcases h6 hk1 with h7 | h7
      ·have:=(hA _ _ h7).ready (R:=λk=>listed.getD k false=true) I'.closR h3
       rw [hRk] at this;cases this
      ·exact h7
     ·exact absurd (h6▸hk) hiL
     ·exfalso
      have:=(hA _ _ h6).closed (R:=λk=>k ∈ L') I'.lok.closed hk
      exact hiL this
    ·have hE2:∀ j,has (add E' i) j=true↔j ∈ i::L':=λj=>by
      rw [Bw,Bool.or_eq_true,decide_eq_true_eq,List.mem_cons,hE' j]
      exact or_comm
     exact um he hT hA hC hQ fuel _ p (add E' i) (i::L') _ gh' env2 H2 m2 w2 renv2 (by rw [hset];exact I2) hE2 q5 (λx hx=>hld' x (List.mem_cons_of_mem _ hx)) hn hsz hcnt
theorem HR.keepN {B:Bs} {w w':World} (h:HR m B w H) (hn:New w w'):HR m B w' H:=
 ⟨Nat.le_trans h.size hn.size,h.lim,h.unm,h.dead,λo b N hm=>⟨(h.blk o b N hm).1,(h.blk o b N hm).2.keep hn (λ_ _ h=>h.elim) (λ_ h=>h.elim) (Le.refl m) rfl⟩,λo wr n dp d b N hg hm=>by
  obtain ⟨cs,T,h1,h2⟩:=h.ob o wr n dp d b N hg hm
  exact ⟨cs,T,hn.blk h1,h2⟩,h.inj⟩
theorem CU {e:Nat} (he:e≤16384) {Z:sv} {id:Nat} {ops:Array Oper} {w0:Bs} {call:Cal} {env:Env e} {H:Hp} {K:Env e→Hp→Prop} {renv:List Value} {w:World} {m:Mp} {Q:Exit→Act→World→Prop}
  (hok:y6 ops.toList (uL Z id ops.toList.length)=true) (hC:qy P w0 call) (h:(Cv P e Z id ops.toList).go call env H K) (hS:St w0 m w H) (hE:ER m e env renv) (hQ:∀ renv' w',Bh w0 m H K renv' w'→Q .normal (act renv') w') :
  wpAny P .any ops Q ops.size (Array.replicate ops.size false) (act renv) { w with drawn:=w.drawn+1 }:=by
 unfold y6 at hok
 simp only [Bool.and_eq_true,List.all_eq_true] at hok
 obtain ⟨h1,h2,h3,_⟩:=hok
 have hA:AncT ops.toList (ancs ops.toList ((uL Z id ops.toList.length).map (·.1)) []):=CO _
 have hT:=yz hA h2
 have hS':St w0 m w.drew H:=⟨hS.hr.keepN (aT w),hS.new.trans (aT w) λ_ _ hf=>hf.elim⟩
 have hfalse:∀ k,(Array.replicate ops.size false).getD k false=false:=λk=>by
  rw [Array.getD_eq_getD_getElem?,Array.getElem?_replicate]
  split<;>rfl
 have key:=um (P:=P) (all:=ops.toList) (base:=λt=>lget (dpN e) env t) (m0:=m) (H0:=H) (Q:=Q) (K:=K) he hT hA hC hQ ops.size (Array.replicate ops.size false) (uL Z id ops.toList.length) 0 [] (λ_=>.c .un) (λ_=>0) env H m w.drew renv
  {st:=hS',le0:=Le.refl m,gh0:=Gh.refl m H,envM:=λ_ _=>rfl,len:=hE.len,slot:=λt ht=>hE.slot t ht,lok:=λL1 i L2 e=>(by cases L1<;>cases e),lt:=λj hj=>(by cases hj),
   rl:=λi hi=>(by rw [hfalse] at hi;cases hi),closR:=λk hk=>(by rw [hfalse] at hk;cases hk),cert:=λL1 i L2 e=>(by cases L1<;>cases e),ghd:=λi j hi=>(by cases hi),ghs:=λi hi=>(by cases hi) }
  (λj=>by rw [v5];simp) h1 (λx hx l hl=>h3 x hx l hl) h (by simp) (by simp)
 simpa using key
theorem Eo (hm:P.follows .mixedOrders=true):zd P:=λe he Z id ops w0 call env H K renv w m Q hok hC h hS hE hQ=>wp_region_any hm (CU he hok hC h hS hE hQ)
end
end Go.Mx
namespace Go.Mx
open Go.Eng
def Ac (l:List Nat) (S:Sm):Sm:=λf=>match S f with
 |some g=>some g
 |none=>match inL l f with
  |true=>none
  |false=>some λ_ _ _=>False
noncomputable def okF (P:Program) (Z:FuncId→sv) (f:FuncId):Bool:=match P.funcs[f]? with
 |some fn=>match fn.body with
  |some c=>ml (Z f) c
  |none=>true
 |none=>true
section
variable {P:Program} {w:World}
theorem BE {w:Bs} {l:List Nat} {S:Sm} (hS:∀ f g,S f=some g→xi P w f g):∀ f g,Ac l S f=some g→xi P w f g:=by
 intro f g h
 unfold Ac at h
 split at h
 ·rename_i g' hg
  cases h
  exact hS f _ hg
 ·split at h
  ·cases h
  ·cases h
   intro args vals m w H K hk
   exact hk.elim
theorem CV {l:List Nat} {S:Sm} {Z:FuncId→sv} (h:l.all (okF P Z)=true):∀ f fn c,Ac l S f=none→P.funcs[f]?=some fn→fn.body=some c→ml (Z f) c=true:=by
 intro f fn c hn hf hc
 unfold Ac at hn
 split at hn
 ·cases hn
 ·split at hn
  ·rename_i hin
   have h1:=List.all_eq_true.1 h f ((v6 _ _).1 hin)
   unfold okF at h1
   rw [hf] at h1
   simp only [hc] at h1
   exact h1
  ·cases hn
theorem CW (hm:P.follows .mixedOrders=true) {l:List Nat} {S:Sm} {Z:FuncId→sv} (hS:∀ f g,S f=some g→xi P ⟨w,λ_=>False⟩ f g) (hl:l.all (okF P Z)=true) {fuel f:Nat} (hk:D9 P (Ac l S) Z fuel f [] hp0 (λv _=>onB v True False)=True) :
  Calls P f #[] w λe w'=>∃ v,e=.returned v∧v=.bool true∧New w w':=by
 refine (ui (Eo hm) (BE hS) (CV hl) fuel f [] [] _ w hp0 _ (of_eq_true hk) (St.first w) trivial).mono ?_
 rintro e w' ⟨v,he,m',v',H',_,hv,hS',_,hR⟩
 obtain ⟨b,rfl,hb⟩:=vM hR
 rcases hb with ⟨rfl,_⟩ | ⟨_,hf⟩
 ·exact ⟨v,he,hv,hS'.new⟩
 ·exact hf.elim
end
end Go.Mx
