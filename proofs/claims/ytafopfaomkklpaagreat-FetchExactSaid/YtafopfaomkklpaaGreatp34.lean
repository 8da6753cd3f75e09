/- A part of the proof. -/
import Derived.Test.YtafopfaomkklpaaGreatp33
import Derived.Test.YtafopfaomkklpaaGreatp02
set_option linter.unusedVariables false
namespace Go.Mx
theorem dF {n:Nat} {K:Nat→Prop}:fN n K↔K n:=by cases n<;>exact Iff.rfl
theorem E3 {n:Int} {K:Int→Prop}:fI n K↔K n:=by
 cases n with
 |ofNat m=>exact dF (n:=m) (K:=λm=>K (.ofNat m))
 |negSucc m=>exact dF (n:=m) (K:=λm=>K (.negSucc m))
theorem iJ {γ:Type} (n:Nat) (K:Nat→Bx γ):fNB n K=K n:=by cases n<;>rfl
theorem Ba {γ:Type} (n:Nat) (K:Nat→γ):fNat n K=K n:=by cases n<;>rfl
theorem cL {b:Bool} {T:Prop} (h:iff b T False):b=true∧T:=by cases b;exact h.elim;exact ⟨rfl,h⟩
theorem Bb {b:Bool} {T:Prop} (h:iff b False T):b=false∧T:=by cases b;exact ⟨rfl,h⟩;exact h.elim
theorem tw {b:Bool} {T F:Prop} (h:iff b T F):(b=true∧T)∨(b=false∧F):=by cases b;exact .inr ⟨rfl,h⟩;exact .inl ⟨rfl,h⟩
theorem aP {β γ:Type} (b:Bx β) (k:β→Bx γ):(b.bind k).go=(k b.go).go:=by cases b;rfl
theorem cU {β:Type} (x:β):(Bx.mk x).go=x:=rfl
theorem cB {a b:Nat} (h:Nat.ble a b=true):a≤b:=Nat.le_of_ble_eq_true h
theorem vJ {a b:Nat} (h:Nat.ble a b=false):b<a:=by
 rcases Nat.lt_or_ge b a with h1 | h1
 ·exact h1
 ·rw [Nat.ble_eq_true_of_le h1] at h;cases h
theorem beq_eq {a b:Nat} (h:Nat.beq a b=true):a=b:=Nat.eq_of_beq_eq_true h
theorem oX {a b:Nat} (h:Nat.beq a b=false):a≠b:=Nat.ne_of_beq_eq_false h
section
variable {β:Type}
noncomputable def sel (t:N4 β) (d:Nat):β:=four d t.x0 t.x1 t.x2 t.x3
noncomputable def upd (t:N4 β) (d:Nat) (v:β):N4 β:=four d ⟨v,t.x1,t.x2,t.x3⟩ ⟨t.x0,v,t.x2,t.x3⟩ ⟨t.x0,t.x1,v,t.x3⟩ ⟨t.x0,t.x1,t.x2,v⟩
noncomputable def lget:(n:Nat)→Lv β n→Nat→β
 | 0,t,_=>t
 |n+1,t,k=>lget n (sel t (k % 4)) (k / 4)
noncomputable def lset:(n:Nat)→Lv β n→Nat→β→Lv β n
 | 0,_,_,v=>v
 |n+1,t,k,v=>upd t (k % 4) (lset n (sel t (k % 4)) (k / 4) v)
theorem Fz {γ:Type} {a b c e:γ}:four 0 a b c e=a:=rfl
theorem FA {γ:Type} {a b c e:γ}:four 1 a b c e=b:=rfl
theorem mod4 (k:Nat):k % 4=0∨k % 4=1∨k % 4=2∨k % 4=3:=by omega
theorem Ea {γ:Type} {h:β→(γ→Prop)→Prop} {f:β→γ} (hh:∀ x K,h x K=K (f x)) {d:Nat} (hd:d<4) (t:N4 β) (K:γ→Prop):(get1 h d).go t K=K (f (sel t d)):=by
 unfold get1 sel
 rcases (show d=0∨d=1∨d=2∨d=3 by omega) with rfl | rfl | rfl | rfl<;>exact hh _ _
theorem Eb {γ:Type} {h:β→γ→(β→Prop)→Prop} {f:β→γ→β} (hh:∀ x v K,h x v K=K (f x v)) {d:Nat} (hd:d<4) (t:N4 β) (v:γ) (K:N4 β→Prop):(set1 h d).go t v K=K (upd t d (f (sel t d) v)):=by
 unfold set1 upd sel
 rcases (show d=0∨d=1∨d=2∨d=3 by omega) with rfl | rfl | rfl | rfl<;>exact hh _ _ _
theorem nM:∀ (n k:Nat) (t:Lv β n) (K:β→Prop),(getC n k).go t K=K (lget n t k)
 | 0,_,_,_=>rfl
 |n+1,k,t,K=>(congrFun (congrFun (aP (getC (β:=β) n (Nat.div k 4)) λh=>get1 h (Nat.mod k 4)) t) K).trans
   (Ea (f:=λx=>lget n x (k / 4)) (λx K=>nM n (k / 4) x K) (Nat.mod_lt k (by omega)) t K)
theorem qu:∀ (n k:Nat) (t:Lv β n) (v:β) (K:Lv β n→Prop),(setC n k).go t v K=K (lset n t k v)
 | 0,_,_,_,_=>rfl
 |n+1,k,t,v,K=>(congrFun (congrFun (congrFun (aP (setC (β:=β) n (Nat.div k 4)) λh=>set1 h (Nat.mod k 4)) t) v) K).trans
   (Eb (f:=λx v=>lset n x (k / 4) v) (λx v K=>qu n (k / 4) x v K) (Nat.mod_lt k (by omega)) t v K)
theorem Ec (t:N4 β) (d e:Nat) (hd:d<4) (he:e<4) (v:β):sel (upd t d v) e=if e=d then v else sel t e:=by
 rcases (show d=0∨d=1∨d=2∨d=3 by omega) with rfl | rfl | rfl | rfl<;>rcases (show e=0∨e=1∨e=2∨e=3 by omega) with rfl | rfl | rfl | rfl<;>rfl
theorem vK (n:Nat) (ih:∀ (t:Lv β n) (k j:Nat) (v:β),k<4 ^ n→j<4 ^ n→lget n (lset n t k v) j=if j=k then v else lget n t j)
  (t:N4 (Lv β n)) (k j:Nat) (v:β) (hk:k<4 ^ n * 4) (hj:j<4 ^ n * 4):lget n (sel (upd t (k % 4) (lset n (sel t (k % 4)) (k / 4) v)) (j % 4)) (j / 4)=if j=k then v else lget n (sel t (j % 4)) (j / 4):=by
 rw [Ec _ _ _ (Nat.mod_lt _ (by omega)) (Nat.mod_lt _ (by omega))]
 by_cases hm:j % 4=k % 4
 ·rw [if_pos hm,ih _ _ _ _ (by omega) (by omega),←hm]
  by_cases hq:j / 4=k / 4
  ·rw [if_pos hq,if_pos (show j=k by omega)]
  ·rw [if_neg hq,if_neg (show ¬ j=k by omega)]
 ·rw [if_neg hm,if_neg (show ¬ j=k from λe=>hm (by rw [e]))]
theorem dZ:∀ (n:Nat) (t:Lv β n) (k j:Nat) (v:β),k<4 ^ n→j<4 ^ n→lget n (lset n t k v) j=if j=k then v else lget n t j
 | 0,t,k,j,v,hk,hj=>by
  have:j=k:=by simp at hk hj;omega
  rw [if_pos this]
  rfl
 |n+1,t,k,j,v,hk,hj=>vK n (dZ n) t k j v (by rw [←Nat.pow_succ];exact hk) (by rw [←Nat.pow_succ];exact hj)
theorem tC:∀ (n:Nat) (x:β) (k:Nat),lget n (uni x n) k=x
 | 0,_,_=>rfl
 |n+1,x,k=>by
  show lget n (sel (N4.mk (uni x n) (uni x n) (uni x n) (uni x n)) (k % 4)) (k / 4)=x
  have:sel (N4.mk (uni x n) (uni x n) (uni x n) (uni x n)) (k % 4)=uni x n:=by
   unfold sel;rcases mod4 k with h | h | h | h<;>rw [h]<;>rfl
  rw [this,tC n]
end
theorem uM (g:Nat→C):∀ (dp i s k:Nat),k<4 ^ dp→lget dp (pq dp g i s) k=g (i+s * k)
 | 0,i,s,k,hk=>by
  have:k=0:=by simp at hk;omega
  subst this
  simp [lget,pq]
 |dp+1,i,s,k,hk=>by
  have e4:4 ^ (dp+1)=4 ^ dp * 4:=Nat.pow_succ ..
  show lget dp (sel (N4.mk (pq dp g i (4 * s)) (pq dp g (i+s) (4 * s)) (pq dp g (i+2 * s) (4 * s)) (pq dp g (i+3 * s) (4 * s))) (k % 4)) (k / 4)=g (i+s * k)
  have key:∀ q,k % 4=q→lget dp (pq dp g (i+q * s) (4 * s)) (k / 4)=g (i+s * k):=by
   intro q hq
   rw [uM g dp _ _ _ (by omega)]
   congr 1
   have:k=4 * (k / 4)+q:=by omega
   generalize k / 4=r at this
   subst this
   rw [Nat.mul_add,Nat.mul_comm q s,Nat.add_assoc,Nat.mul_assoc 4 s r,Nat.mul_left_comm s 4 r]
   omega
  unfold sel
  rcases mod4 k with h | h | h | h<;>rw [h]
  ·have:=key 0 h;rw [Fz];simpa using this
  ·have:=key 1 h;rw [FA];simpa using this
  ·exact key 2 h
  ·exact key 3 h
theorem Ed {dp:Nat} {l:List C} {k:Nat} (hk:k<4 ^ dp):lget dp (tr dp l) k=nthD l k:=by
 unfold tr
 rw [uM _ _ _ _ _ hk]
 simp
theorem vL {l:List C} {k:Nat} {c:C} (h:l[k]?=some c):nthD l k=c:=by unfold nthD;rw [h]
theorem lj {n:Nat} (h:n≤16384):n≤4 ^ dpN n:=by
 have key:∀ {m:Nat} {d e:Nat},(n≤m→n≤4 ^ d)→n≤4 ^ e→n≤4 ^ (@Bool.rec (λ_=>Nat) e d (Nat.ble n m)):=by
  intro m d e h1 h2
  cases hb:Nat.ble n m with
  |true=>exact h1 (cB hb)
  |false=>exact h2
 unfold dpN
 refine key (λh=>h) (key (λh=>h) (key (λh=>by simpa using h) (key (λh=>by simpa using h) (key (λh=>by simpa using h) (key (λh=>by simpa using h) (key (λh=>by simpa using h) (by simpa using h)))))))
theorem qv {x:V} {K:C→Prop} (h:onC x K):∃ c,x=.c c∧K c:=by
 cases x with
 |c c=>exact ⟨c,rfl,h⟩
 | _=>exact h.elim
theorem rF {x:V} {K:(dp:Nat)→Lv C dp→Nat→Nat→Prop} (h:onA x K):∃ dp d o n,x=.a dp d o n∧K dp d o n:=by
 cases x with
 |a dp d o n=>exact ⟨dp,d,o,n,rfl,h⟩
 | _=>exact h.elim
theorem Ee {x:V} {K:List V→Prop} (h:onT x K):∃ l,x=.t l∧K l:=by
 cases x with
 |t l=>exact ⟨l,rfl,h⟩
 | _=>exact h.elim
theorem qw {x:V} {K:Nat→Int→Prop} (h:onI x K):∃ k n,x=.c (.i k n)∧K k n:=by
 cases x with
 |c c=>cases c with
  |i k n=>exact ⟨k,n,rfl,h⟩
  | _=>exact h.elim
 | _=>exact h.elim
theorem oY {x:V} {K:Nat→Prop} (h:onN x K):∃ (k n:Nat),x=.c (.i k (.ofNat n))∧K n:=by
 obtain ⟨k,n,rfl,h⟩:=qw h
 cases n with
 |ofNat n=>exact ⟨k,n,rfl,h⟩
 |negSucc n=>exact h.elim
theorem vM {x:V} {T F:Prop} (h:onB x T F):∃ b,x=.c (.b b)∧((b=true∧T)∨(b=false∧F)):=by
 cases x with
 |c c=>cases c with
  |b b=>refine ⟨b,rfl,?_⟩;cases b;exact .inr ⟨rfl,h⟩;exact .inl ⟨rfl,h⟩
  | _=>exact h.elim
 | _=>exact h.elim
theorem sw {x:V} {K:Nat→Nat→Prop} (h:pO x K):∃ o off,x=.c (.p o off)∧K o off:=by
 cases x with
 |c c=>cases c with
  |p o off=>exact ⟨o,off,rfl,h⟩
  | _=>exact h.elim
 | _=>exact h.elim
theorem nN {x:V} {N E:Prop} {K:Nat→Nat→Nat→Nat→Option Nat→Prop} (h:onS x N E K):(x=.c .ns∧N)∨(x=.c .es∧E)∨∃ o off len sz c,x=.c (.s o off len sz c)∧K o off len sz c:=by
 cases x with
 |c c=>cases c with
  |ns=>exact .inl ⟨rfl,h⟩
  |es=>exact .inr (.inl ⟨rfl,h⟩)
  |s o off len sz c=>exact .inr (.inr ⟨o,off,len,sz,c,rfl,h⟩)
  | _=>exact h.elim
 | _=>exact h.elim
theorem ng {x y:V} {K:Nat→Int→Int→Prop} (h:ii x y K):∃ k a b,x=.c (.i k a)∧y=.c (.i k b)∧K k a b:=by
 cases x with
 |c c=>cases c with
  |i k a=>cases y with
   |c c=>cases c with
    |i j b=>
     obtain ⟨h1,h⟩:=cL (show iff (Nat.beq k j) (K k a b) False from h)
     exact ⟨k,a,b,rfl,by rw [beq_eq h1],h⟩
    | _=>exact h.elim
   | _=>exact h.elim
  | _=>exact h.elim
 | _=>exact h.elim
theorem Bc {x y:V} {K:Nat→Int→Int→Prop} (h:iiS x y K):∃ k j a b,x=.c (.i k a)∧y=.c (.i j b)∧K k a b:=by
 obtain ⟨k,a,e1,h1⟩:=qw h
 obtain ⟨j,b,e2,h2⟩:=qw h1
 exact ⟨k,j,a,b,e1,e2,h2⟩
theorem yf {l:List V} {K:V→V→Prop} (h:two l K):∃ x y,l=[x,y]∧K x y:=by
 match l,h with
 | [],h=>exact h.elim
 | [_],h=>exact h.elim
 | [x,y],h=>exact ⟨x,y,rfl,h⟩
 | _::_::_::_,h=>exact h.elim
theorem vN {l:List V} {K:V→Prop} (h:one l K):∃ x,l=[x]∧K x:=by
 match l,h with
 | [],h=>exact h.elim
 | [x],h=>exact ⟨x,rfl,h⟩
 | _::_::_,h=>exact h.elim
noncomputable def wR (dp:Nat):List C→Lv C dp→Nat→Lv C dp
 | [],d,_=>d
 |v::vs,d,i=>wR dp vs (lset dp d i v) (i+1)
noncomputable def qV (dp:Nat) (d:Lv C dp):Nat→Nat→List C
 | 0,_=>[]
 |m+1,i=>lget dp d i::qV dp d m (i+1)
noncomputable def Cx (dp':Nat) (d':Lv C dp') (dp:Nat):Nat→Nat→Nat→Lv C dp→Lv C dp
 | 0,_,_,d=>d
 |m+1,i,j,d=>Cx dp' d' dp m (i+1) (j+1) (lset dp d j (lget dp' d' i))
theorem mn (dp:Nat):∀ (vs:List C) (d:Lv C dp) (i:Nat) (K:Lv C dp→Prop),zJ dp vs d i K↔K (wR dp vs d i)
 | [],_,_,_=>Iff.rfl
 |v::vs,d,i,K=>by
  show (setC dp i).go d v (λd=>fN (Nat.succ i) λj=>zJ dp vs d j K)↔_
  rw [qu,dF]
  exact mn dp vs _ _ K
theorem iQ (dp:Nat) (d:Lv C dp):∀ (m i:Nat) (K:List C→Prop),qm dp d m i K↔K (qV dp d m i)
 | 0,_,_=>Iff.rfl
 |m+1,i,K=>by
  show (getC dp i).go d (λv=>fN (Nat.succ i) λj=>qm dp d m j λvs=>K (v::vs))↔_
  rw [nM,dF]
  exact iQ dp d m _ _
theorem oy (dp':Nat) (d':Lv C dp') (dp:Nat):∀ (m i j:Nat) (d:Lv C dp) (K:Lv C dp→Prop),vI dp' d' dp m i j d K↔K (Cx dp' d' dp m i j d)
 | 0,_,_,_,_=>Iff.rfl
 |m+1,i,j,d,K=>by
  show (getC dp' i).go d' (λv=>(setC dp j).go d v λd=>fN (Nat.succ i) λi=>fN (Nat.succ j) λj=>vI dp' d' dp m i j d K)↔_
  rw [nM,qu,dF,dF]
  exact oy dp' d' dp m _ _ _ K
theorem jv (dp:Nat) (d:Lv C dp):∀ m i,(qV dp d m i).length=m
 | 0,_=>rfl
 |m+1,i=>by simp [qV,jv dp d m]
theorem lJ (dp:Nat) (d:Lv C dp):∀ m i j,j<m→(qV dp d m i)[j]?=some (lget dp d (i+j))
 | 0,_,_,h=>by omega
 |m+1,i,0,_=>by simp [qV]
 |m+1,i,j+1,h=>by
  simp only [qV,List.getElem?_cons_succ]
  rw [lJ dp d m _ _ (by omega),show i+1+j=i+(j+1) by omega]
theorem jZ (dp:Nat):∀ (vs:List C) (d:Lv C dp) (i j:Nat),i+vs.length≤4 ^ dp→j<4 ^ dp→
  lget dp (wR dp vs d i) j=if i≤j then (match vs[j - i]? with | some c=>c | none=>lget dp d j) else lget dp d j
 | [],d,i,j,_,_=>by
  show lget dp d j=_
  simp
 |v::vs,d,i,j,hi,hj=>by
  simp only [List.length_cons] at hi
  show lget dp (wR dp vs (lset dp d i v) (i+1)) j=_
  rw [jZ dp vs _ _ _ (by omega) hj,dZ _ _ _ _ _ (by omega) hj]
  by_cases h1:j<i
  ·rw [if_neg (by omega),if_neg (by omega:¬ i≤j)]
   exact if_neg (by omega)
  ·by_cases h2:j=i
   ·subst h2;rw [if_neg (by omega),if_pos rfl,if_pos (Nat.le_refl _)];simp
   ·rw [if_neg h2,if_pos (show i+1≤j by omega),if_pos (show i≤j by omega),show j - i=(j - (i+1))+1 by omega,List.getElem?_cons_succ]
theorem lK (dp':Nat) (d':Lv C dp') (dp:Nat):∀ (m i j:Nat) (d:Lv C dp) (k:Nat),j+m≤4 ^ dp→k<4 ^ dp→
  lget dp (Cx dp' d' dp m i j d) k=if j≤k∧k<j+m then lget dp' d' (i+(k - j)) else lget dp d k
 | 0,i,j,d,k,_,_=>by
  show lget dp d k=_
  rw [if_neg (by omega)]
 |m+1,i,j,d,k,hj,hk=>by
  show lget dp (Cx dp' d' dp m (i+1) (j+1) (lset dp d j (lget dp' d' i))) k=_
  rw [lK dp' d' dp m _ _ _ _ (by omega) hk,dZ _ _ _ _ _ (by omega) hk]
  by_cases h1:k=j
  ·subst h1;rw [if_neg (by omega),if_pos rfl,if_pos (by omega)];simp
  ·by_cases h2:j+1≤k∧k<j+1+m
   ·rw [if_pos h2,if_pos (by omega),show i+1+(k - (j+1))=i+(k - j) by omega]
   ·rw [if_neg h2,if_neg h1,if_neg (by omega)]
end Go.Mx
namespace Go.Mx
open Go.Eng
abbrev Mp:=Nat→Option (Nat×Nat)
def PR (m:Mp):Ptr→Value→Prop
 |none,v=>v=.pointer none
 |some p,v=>∃ b n,m p.1=some (b,n)∧v=.pointer (some ⟨b,p.2,none⟩)
def All2 {α β:Type} (R:α→β→Prop):List α→List β→Prop
 | [],[]=>True
 |x::xs,y::ys=>R x y∧All2 R xs ys
 | _,_=>False
def CR (m:Mp):C→Value→Prop
 | .un,v=>v=undef
 | .b x,v=>v=.bool x
 | .i k n,v=>v=.int (kd k) n
 | .np,v=>v=.pointer none
 | .p o off,v=>∃ b n,m o=some (b,n)∧v=.pointer (some ⟨b,off,none⟩)
 | .ns,v=>v=.slice none 0 0
 | .es,v=>∃ a cap,v=.slice (some a) 0 cap
 | .s o off len sz c,v=>∃ b n cap,m o=some (b,n)∧v=.slice (some ⟨b,off,none⟩) len cap∧len≤cap∧(match c with | some k=>cap=k | none=>off+cap * sz=n)
 | .f fn first cap,v=>∃ fs cs:List Value,v=.func fn fs.toArray cs.toArray∧All2 (PR m) first fs∧All2 (PR m) cap cs
 | .r x,v=>v=x
 | .mp o,v=>∃ b n,m o=some (b,n)∧v=.map (some b)
def TR (m:Mp) (dp:Nat) (d:Lv C dp) (off:Nat) (cs:List Value):Prop:=
 off+cs.length≤4 ^ dp∧∀ i u,cs[i]?=some u→CR m (lget dp d (off+i)) u∧stC (lget dp d (off+i))=true
def VR0 (m:Mp):V→Value→Prop
 | .c c,v=>CR m c v
 | .a dp d off sz,v=>∃ cs:List Value,v=.agg cs.toArray∧cs.length=sz∧TR m dp d off cs
 | .t _,_=>False
def VR (m:Mp):V→Value→Prop
 | .t vs,v=>∃ rs:List Value,v=.tuple rs.toArray∧All2 (VR0 m) vs rs
 |x,v=>VR0 m x v
theorem VR0.vr {m:Mp} {x:V} {v:Value} (h:VR0 m x v):VR m x v:=by
 cases x with
 |t=>exact h.elim
 | _=>exact h
def Le (m m':Mp):Prop:=∀ o p,m o=some p→m' o=some p
theorem Le.refl (m:Mp):Le m m:=λ_ _ h=>h
theorem Le.trans {a b c:Mp} (h:Le a b) (k:Le b c):Le a c:=λo p e=>k o p (h o p e)
theorem All2.mono {α β:Type} {R R':α→β→Prop} (h:∀ x y,R x y→R' x y):∀ {xs:List α} {ys:List β},All2 R xs ys→All2 R' xs ys
 | [],[],_=>trivial
 | _::_,_::_,⟨a,b⟩=>⟨h _ _ a,All2.mono h b⟩
theorem PR.mono {m m':Mp} (hm:Le m m') {p:Ptr} {v:Value} (h:PR m p v):PR m' p v:=by
 cases p with
 |none=>exact h
 |some p=>obtain ⟨b,n,e,r⟩:=h;exact ⟨b,n,hm _ _ e,r⟩
theorem CR.mono {m m':Mp} (hm:Le m m') {c:C} {v:Value} (h:CR m c v):CR m' c v:=by
 cases c with
 |p o off=>obtain ⟨b,n,e,r⟩:=h;exact ⟨b,n,hm _ _ e,r⟩
 |s o off len sz c=>obtain ⟨b,n,cap,e,r⟩:=h;exact ⟨b,n,cap,hm _ _ e,r⟩
 |f fn first cap=>obtain ⟨fs,cs,e,h1,h2⟩:=h;exact ⟨fs,cs,e,h1.mono λ_ _=>PR.mono hm,h2.mono λ_ _=>PR.mono hm⟩
 |mp o=>obtain ⟨b,n,e,r⟩:=h;exact ⟨b,n,hm _ _ e,r⟩
 | _=>exact h
theorem TR.mono {m m':Mp} (hm:Le m m') {dp:Nat} {d:Lv C dp} {off:Nat} {cs:List Value} (h:TR m dp d off cs):TR m' dp d off cs:=
 ⟨h.1,λi u hu=>⟨(h.2 i u hu).1.mono hm,(h.2 i u hu).2⟩⟩
theorem VR0.mono {m m':Mp} (hm:Le m m') {x:V} {v:Value} (h:VR0 m x v):VR0 m' x v:=by
 cases x with
 |c c=>exact CR.mono hm h
 |a dp d off sz=>obtain ⟨cs,e,l,t⟩:=h;exact ⟨cs,e,l,t.mono hm⟩
 |t=>exact h.elim
theorem VR.mono {m m':Mp} (hm:Le m m') {x:V} {v:Value} (h:VR m x v):VR m' x v:=by
 cases x with
 |t vs=>obtain ⟨rs,e,t⟩:=h;exact ⟨rs,e,t.mono λ_ _=>VR0.mono hm⟩
 |c c=>exact VR0.mono (x:=.c c) hm h
 |a dp d o n=>exact VR0.mono (x:=.a dp d o n) hm h
theorem oz {m:Mp} {c:C} {v:Value} (h:CR m c v) (hs:stC c=true):single v=true:=by
 cases c with
 |un=>cases hs
 |b x=>cases h;rfl
 |i k n=>cases h;rfl
 |np=>cases h;rfl
 |p o off=>obtain ⟨b,n,_,rfl⟩:=h;rfl
 |ns=>cases h;rfl
 |es=>obtain ⟨a,c,rfl⟩:=h;rfl
 |s o off len sz c=>obtain ⟨b,n,cap,_,rfl,_⟩:=h;rfl
 |f fn first cap=>obtain ⟨fs,cs,rfl,_⟩:=h;rfl
 |r x=>cases h;exact hs
 |mp o=>obtain ⟨b,n,_,rfl⟩:=h;rfl
theorem Ef (k:IntKind):kd (kc k)=k:=by cases k<;>rfl
theorem sW (m:Mp) (v:Value):CR m (cv1 v) v:=by
 unfold cv1
 split
 ·rfl
 ·rename_i k n;show _=Value.int (kd (kc k)) n;rw [Ef]
 ·rfl
 ·rfl
 ·rfl
theorem Cy {l:List Value} {i:Nat} {u:Value} (h:l[i]?=some u):nthD (l.map cv1) i=cv1 u:=vL (by rw [List.getElem?_map,h];rfl)
theorem Bd (m:Mp) {l:List Value} (hs:l.all (λv=>stC (cv1 v))=true) {dp:Nat} (hl:l.length≤4 ^ dp):TR m dp (tr dp (l.map cv1)) 0 l:=by
 refine ⟨by omega,λi u hu=>?_⟩
 have hi:i<l.length:=by
  rcases Nat.lt_or_ge i l.length with h | h
  ·exact h
  ·rw [List.getElem?_eq_none h] at hu;cases hu
 rw [Nat.zero_add,Ed (by omega),Cy hu]
 exact ⟨sW m u,List.all_eq_true.1 hs u (List.mem_of_getElem? hu)⟩
theorem E4 (m:Mp) {v:Value} (h:okV v=true):VR m (cv v).go v:=by
 unfold cv
 split
 ·rename_i cs
  rw [iJ,cU]
  simp only [okV,Bool.and_eq_true] at h
  refine ⟨cs.toList,by simp,by simp,Bd m h.1 ?_⟩
  rw [Array.length_toList]
  exact lj (cB h.2)
 ·rw [cU]
  exact sW m _
def SlR (m:Mp) (e:Nat) (env:Env e) (renv:List Value) (t:Nat):Prop:=t<e→VR m (lget (dpN e) env t) (renv.getD t undef)
def OpsR (m:Mp) (e:Nat) (env:Env e) (renv:List Value) (os:List Operand):Prop:=∀ x ∈ os,∀ t,x=.tmp t→SlR m e env renv t
def kZ (e:Nat) (env:Env e) (x:Operand) (v:V):Prop:=∀ m renv,(∀ t,x=.tmp t→SlR m e env renv t)→VR m v (ev renv x)
theorem kZ.of {e:Nat} {env:Env e} {x:Operand} {v:V} (h:kZ e env x v) {m:Mp} {renv:List Value} {os:List Operand} (ho:OpsR m e env renv os) (hx:x ∈ os):VR m v (ev renv x):=h m renv λt e=>ho x hx t e
theorem bE {e:Nat} {env:Env e} {x:Operand} {K:V→Prop} (h:(evC e x).go env K):∃ v,K v∧kZ e env x v:=by
 cases x with
 |tmp t=>
  have h1:(getE e t).go env K:=h
  unfold getE at h1
  split at h1
  ·rename_i hlt
   rw [nM] at h1
   exact ⟨_,h1,λm renv hr=>hr t rfl (cB hlt)⟩
  ·exact h1.elim
 |const v=>
  have h1:(match okV v with | true=>(cv v).bind λv=>⟨λ(_:Env e) K=>K v⟩ | false=>⟨λ_ _=>False⟩:Bx (Env e→(V→Prop)→Prop)).go env K:=h
  split at h1
  ·rename_i hv
   rw [aP,cU] at h1
   exact ⟨_,h1,λm renv _=>E4 m hv⟩
  ·exact h1.elim
 |func f=>exact ⟨_,h,λm renv _=>⟨[],[],rfl,trivial,trivial⟩⟩
 |global g=>exact h.elim
theorem ir {e:Nat} {env:Env e}:∀ {os:List Operand} {K:List V→Prop},(evsC e os).go env K→∃ vs,K vs∧All2 (kZ e env) os vs
 | [],K,h=>⟨[],h,trivial⟩
 |o::os,K,h=>by
  have h':((evC e o).bind λg=>(evsC e os).bind λh=>⟨λenv K=>g env λv=>h env λvs=>K (v::vs)⟩:Bx (Env e→(List V→Prop)→Prop)).go env K:=h
  rw [aP,aP,cU] at h'
  obtain ⟨v,h',hv⟩:=bE h'
  obtain ⟨vs,h',hvs⟩:=ir h'
  exact ⟨v::vs,h',hv,hvs⟩
theorem kZ.all {e:Nat} {env:Env e} {m:Mp} {renv:List Value} {all:List Operand} (ho:OpsR m e env renv all):∀ {os:List Operand} {vs:List V},All2 (kZ e env) os vs→(∀ x ∈ os,x ∈ all)→All2 (VR m) vs (os.map (ev renv))
 | [],[],_,_=>trivial
 |o::os,v::vs,⟨a,b⟩,hs=>⟨a.of ho (hs o (by simp)),kZ.all ho b λx hx=>hs x (by simp [hx])⟩
def j0 (P:Program) (e:Nat) (env:Env e) (o:Oper) (v:V):Prop:=
 ∀ m renv,OpsR m e env renv o.op.operands.toList→∃ rv,(∀ w,(execOp (ev renv) o).run P w=.ok (.value rv) w)∧VR m v rv
theorem t6 {P:Program} {renv:List Value} {o:Oper} {s:Sem Value} {rv:Value} {m:Mp} {v:V} (he:execOp (ev renv) o=(do pure (.value (← s)))) (hr:∀ w,s.run P w=.ok rv w) (h:VR m v rv) :
  ∃ rv,(∀ w,(execOp (ev renv) o).run P w=.ok (.value rv) w)∧VR m v rv:=by
 refine ⟨rv,λw=>?_,h⟩
 rw [he,Sem.run_bind,hr]
 rfl
section
variable {P:Program} {e:Nat} {env:Env e} {o:Oper} {K:V→Prop}
theorem zO {x:Operand} (ho:o.op=.move x) (h:(evC e x).go env K):∃ v,K v∧j0 P e env o v:=by
 obtain ⟨v,hk,hv⟩:=bE h
 refine ⟨v,hk,λm renv hr=>⟨ev renv x,λw=>?_,hv.of hr (by rw [ho];simp [Op.operands])⟩⟩
 unfold execOp;rw [ho];rfl
theorem wS {x:Operand} (ho:o.op=.assign x) (h:(evC e x).go env K):∃ v,K v∧j0 P e env o v:=by
 obtain ⟨v,hk,hv⟩:=bE h
 refine ⟨v,hk,λm renv hr=>⟨ev renv x,λw=>?_,hv.of hr (by rw [ho];simp [Op.operands])⟩⟩
 unfold execOp;rw [ho];rfl
theorem zP {c a b:Operand} (ho:o.op=.pick c a b) (h:(evC e c).go env λc=>onB c ((evC e a).go env K) ((evC e b).go env K)):∃ v,K v∧j0 P e env o v:=by
 obtain ⟨vc,h0,hc⟩:=bE h
 obtain ⟨t,rfl,h1⟩:=vM h0
 have hm:∀ x,x=c∨x=a∨x=b→x ∈ o.op.operands.toList:=by rw [ho];simp [Op.operands]
 have run:∀ renv,ev renv c=.bool t→∀ w,(execOp (ev renv) o).run P w=.ok (.value (if t then ev renv a else ev renv b)) w:=by
  intro renv hc w
  unfold execOp;rw [ho];simp only [hc,asBool,pure_bind];rfl
 rcases h1 with ⟨rfl,h2⟩ | ⟨rfl,h2⟩
 ·obtain ⟨v,hk,hv⟩:=bE h2
  exact ⟨v,hk,λm renv hr=>⟨_,run renv (hc.of hr (hm c (.inl rfl))),hv.of hr (hm a (.inr (.inl rfl)))⟩⟩
 ·obtain ⟨v,hk,hv⟩:=bE h2
  exact ⟨v,hk,λm renv hr=>⟨_,run renv (hc.of hr (hm c (.inl rfl))),hv.of hr (hm b (.inr (.inr rfl)))⟩⟩
theorem Be {x:Operand} (ho:o.op=.nilCheck x) (h:(evC e x).go env λx=>nnK x K):∃ v,K v∧j0 P e env o v:=by
 obtain ⟨v,h0,hv⟩:=bE h
 obtain ⟨ob,off,rfl,h1⟩:=sw h0
 refine ⟨_,h1,λm renv hr=>?_⟩
 have:=hv.of hr (x:=x) (by rw [ho];simp [Op.operands])
 obtain ⟨b,n,hb,hx⟩:=this
 refine ⟨ev renv x,λw=>?_,b,n,hb,hx⟩
 unfold execOp;rw [ho];simp only [hx];rfl
theorem Cz {k:IntKind} {n:Int} (h0:0≤n) (h1:n≤(hiN (kc k):Nat)):k.wrap n=n:=by
 cases k with
 |i8=>replace h1:n≤((127:Nat):Int):=h1;simp only [IntKind.wrap,IntKind.bits,IntKind.signed];simp;omega
 |i16=>replace h1:n≤((127:Nat):Int):=h1;simp only [IntKind.wrap,IntKind.bits,IntKind.signed];simp;omega
 |i32=>replace h1:n≤((127:Nat):Int):=h1;simp only [IntKind.wrap,IntKind.bits,IntKind.signed];simp;omega
 |i64=>replace h1:n≤((9223372036854775807:Nat):Int):=h1;simp only [IntKind.wrap,IntKind.bits,IntKind.signed];simp;omega
 |u8=>replace h1:n≤((255:Nat):Int):=h1;simp only [IntKind.wrap,IntKind.bits,IntKind.signed];simp;omega
 |u16=>replace h1:n≤((127:Nat):Int):=h1;simp only [IntKind.wrap,IntKind.bits,IntKind.signed];simp;omega
 |u32=>replace h1:n≤((127:Nat):Int):=h1;simp only [IntKind.wrap,IntKind.bits,IntKind.signed];simp;omega
 |u64=>replace h1:n≤((18446744073709551615:Nat):Int):=h1;simp only [IntKind.wrap,IntKind.bits,IntKind.signed];simp;omega
theorem FB (k:Nat):hiN k≤hiN (kc (kd k)):=by
 have:k=0∨k=1∨k=2∨k=3∨k=4∨k=5∨k=6∨k=7∨8≤k:=by omega
 rcases this with rfl | rfl | rfl | rfl | rfl | rfl | rfl | rfl | h
 any_goals decide
 have h3:Nat.beq k 3=false:=by cases hb:Nat.beq k 3 with | false=>rfl | true=>have:=beq_eq hb;omega
 have h7:Nat.beq k 7=false:=by cases hb:Nat.beq k 7 with | false=>rfl | true=>have:=beq_eq hb;omega
 have h4:Nat.beq k 4=false:=by cases hb:Nat.beq k 4 with | false=>rfl | true=>have:=beq_eq hb;omega
 have hk:kd k=.u64:=by unfold kd;split<;>first | omega | rfl
 rw [hk]
 unfold hiN
 rw [h3,h7,h4]
 decide
theorem yg {k:Nat} {n:Int} {K:V→Prop} (h:fin k n K):K (.c (.i k n)):=E3.1 h
theorem nO {k:Nat} {n:Int} {K:V→Prop} (h:wrI k n K):K (.c (.i k ((kd k).wrap n))):=yg h
theorem rG {k n:Nat} {K:V→Prop} (h:wrN k n K):K (.c (.i k ((kd k).wrap (n:Int)))):=by
 rcases tw h with ⟨hb,h⟩ | ⟨_,h⟩
 ·have h:=dF.1 h
  rw [Cz (by omega) (by have:=cB hb;have:=FB k;omega)]
  exact h
 ·exact nO h
theorem th {a b:Int} {X:Nat→Nat→Prop} {F:Prop} (h:nn a b X F):(∃ x y:Nat,a=x∧b=y∧X x y)∨F:=by
 cases a with
 |ofNat x=>cases b with
  |ofNat y=>exact .inl ⟨x,y,rfl,rfl,h⟩
  |negSucc y=>exact .inr h
 |negSucc x=>exact .inr h
theorem CA {k:Nat} {a b:Int} (h:addK k a b K):K (.c (.i k ((kd k).wrap (a+b)))):=by
 rcases th h with ⟨x,y,rfl,rfl,h⟩ | h
 ·have:=rG h;rw [show ((Nat.add x y:Nat):Int)=(x:Int)+y from Int.natCast_add x y] at this;exact this
 ·exact nO h
theorem CB {k:Nat} {a b:Int} (h:mulK k a b K):K (.c (.i k ((kd k).wrap (a * b)))):=by
 rcases th h with ⟨x,y,rfl,rfl,h⟩ | h
 ·have:=rG h;rw [show ((Nat.mul x y:Nat):Int)=(x:Int) * y from Int.natCast_mul x y] at this;exact this
 ·exact nO h
theorem CC {k:Nat} {a b:Int} (h:subK k a b K):K (.c (.i k ((kd k).wrap (a - b)))):=by
 rcases th h with ⟨x,y,rfl,rfl,h⟩ | h
 ·rcases tw h with ⟨hb,h⟩ | ⟨_,h⟩
  ·have:=rG h;have hle:=cB hb
   rw [show ((Nat.sub x y:Nat):Int)=(x:Int) - y by have:=Int.ofNat_sub hle;exact this] at this;exact this
  ·exact nO h
 ·exact nO h
theorem CD (f:Nat→Nat→Nat) (hf:∀ w x y,f x y % 2 ^ w=f (x % 2 ^ w) (y % 2 ^ w) % 2 ^ w) (k:IntKind) (x y:Nat):k.wrap (f (BitVec.ofInt k.bits (x:Int)).toNat (BitVec.ofInt k.bits (y:Int)).toNat:Nat)=k.wrap ((f x y:Nat):Int):=by
 have e:∀ z:Nat,(BitVec.ofInt k.bits (z:Int)).toNat=z % 2 ^ k.bits:=λz=>by
  rw [show (BitVec.ofInt k.bits (z:Int))=BitVec.ofNat k.bits z from BitVec.ofInt_natCast ..];simp
 rw [e,e]
 have key:=hf k.bits x y
 generalize f (x % 2 ^ k.bits) (y % 2 ^ k.bits)=p at *
 generalize f x y=q at *
 unfold IntKind.wrap
 have:((p:Int) % (2 ^ k.bits:Nat))=((q:Int) % (2 ^ k.bits:Nat)):=by
  rw [←Int.natCast_emod,←Int.natCast_emod,←key]
 cases k<;>simp only [IntKind.bits,IntKind.signed] at this ⊢<;>simp at this ⊢<;>omega
theorem CE (w x y:Nat):Nat.land x y % 2 ^ w=Nat.land (x % 2 ^ w) (y % 2 ^ w) % 2 ^ w:=by
 show (x &&& y) % 2 ^ w=((x % 2 ^ w) &&& (y % 2 ^ w)) % 2 ^ w
 rw [Nat.and_mod_two_pow,Nat.and_mod_two_pow];simp
theorem Eg (w x y:Nat):Nat.lor x y % 2 ^ w=Nat.lor (x % 2 ^ w) (y % 2 ^ w) % 2 ^ w:=by
 show (x ||| y) % 2 ^ w=((x % 2 ^ w) ||| (y % 2 ^ w)) % 2 ^ w
 rw [Nat.or_mod_two_pow,Nat.or_mod_two_pow];simp
theorem Bf (w x y:Nat):Nat.xor x y % 2 ^ w=Nat.xor (x % 2 ^ w) (y % 2 ^ w) % 2 ^ w:=by
 show (x ^^^ y) % 2 ^ w=((x % 2 ^ w) ^^^ (y % 2 ^ w)) % 2 ^ w
 rw [Nat.xor_mod_two_pow,Nat.xor_mod_two_pow];simp
theorem tD {f:Nat→Nat→Nat} (hf:∀ w x y,f x y % 2 ^ w=f (x % 2 ^ w) (y % 2 ^ w) % 2 ^ w) {k:Nat} {a b:Int} (h:bitK f k a b K):K (.c (.i k ((kd k).wrap (f (BitVec.ofInt (kd k).bits a).toNat (BitVec.ofInt (kd k).bits b).toNat:Nat)))):=by
 rcases th h with ⟨x,y,rfl,rfl,h1⟩ | h1
 ·rw [CD f hf];exact rG h1
 ·exact nO h1
theorem uN (a b:Int):eqI a b=(a == b):=by
 cases a with
 |ofNat x=>cases b with
  |ofNat y=>show Nat.beq x y=_;rw [Bool.eq_iff_iff];simp [Nat.beq_eq];omega
  |negSucc y=>rfl
 |negSucc x=>cases b with
  |ofNat y=>rfl
  |negSucc y=>show Nat.beq x y=_;rw [Bool.eq_iff_iff];simp [Nat.beq_eq]
theorem wT (a b:Int):leI a b=decide (a≤b):=by
 cases a with
 |ofNat x=>cases b with
  |ofNat y=>show Nat.ble x y=_;rw [Bool.eq_iff_iff];simp
  |negSucc y=>show false=_;rw [Bool.eq_iff_iff];simp;omega
 |negSucc x=>cases b with
  |ofNat y=>show true=_;rw [Bool.eq_iff_iff];simp;omega
  |negSucc y=>show Nat.ble y x=_;rw [Bool.eq_iff_iff];simp;omega
theorem ndec (a b:Int):(!decide (a≤b))=decide (b<a):=by rw [Bool.eq_iff_iff];simp
theorem vO {b:Bool} (h:retB b K):K (.c (.b b)):=by cases b<;>exact h
theorem vP {b:Bool} (h:retN b K):K (.c (.b (!b))):=by cases b<;>exact h
theorem wU {op:BinOp} {t u:TypeId} {x y:Operand} (ho:o.op=.binOp op t x y u) {vx vy v:V} (hx:kZ e env x vx) (hy:kZ e env y vy)
  (H:∀ m rx ry,VR m vx rx→VR m vy ry→∃ rv,(∀ w,(eqGuard op t x y rx ry).run P w=.ok () w)∧(∀ w,(binOp op t rx ry).run P w=.ok rv w)∧VR m v rv):j0 P e env o v:=by
 intro m renv hr
 obtain ⟨rv,h1,h2,h3⟩:=H m _ _ (hx.of hr (by rw [ho];simp [Op.operands])) (hy.of hr (by rw [ho];simp [Op.operands]))
 exact iW ho h1 h2 h3
theorem Dp {op:BinOp} {t u:TypeId} {x y:Operand} (ho:o.op=.binOp op t x y u) {k:Nat} {a b:Int} {v:V} {rv:Value} (hx:kZ e env x (.c (.i k a))) (hy:kZ e env y (.c (.i k b)))
  (hr:∀ w,(binOp op t (.int (kd k) a) (.int (kd k) b)).run P w=.ok rv w) (hv:∀ m,VR m v rv):j0 P e env o v:=
 wU ho hx hy λm rx ry h1 h2=>by
  have h1:rx=.int (kd k) a:=h1
  have h2:ry=.int (kd k) b:=h2
  subst h1 h2
  exact ⟨rv,λw=>kb,hr,hv m⟩
def Dq (P:Program) (t:TypeId) (rx ry:Value) (r:Bool) (w:World):Prop:=
 (∀ op x y,(eqGuard op t x y rx ry).run P w=.ok () w)∧(binOp .eql t rx ry).run P w=.ok (.bool r) w∧(binOp .neq t rx ry).run P w=.ok (.bool (!r)) w
theorem mo {t:TypeId} {rx ry:Value} {r:Bool} {w:World} (hg:∀ op x y,(eqGuard op t x y rx ry).run P w=.ok () w) (hb:binOp .eql t rx ry=(do pure (.bool (← Op.equal t rx ry))))
  (hn:binOp .neq t rx ry=(do pure (.bool (!(← Op.equal t rx ry))))) (he:∀ d:Nat,(Op.equalIn (d+1) t rx ry).run P w=.ok r w):Dq P t rx ry r w:=by
 have he:(Op.equal t rx ry).run P w=.ok r w:=he 9999
 refine ⟨hg,?_,?_⟩
 ·rw [hb,Sem.run_bind,he];rfl
 ·rw [hn,Sem.run_bind,he];rfl
def eqc1:C→C→Bool
 | .i _ a,.i _ b=>a == b
 | .b a,.b b=>a == b
 | _,_=>true
def eqcL:List C→List C→Bool
 |x::xs,y::ys=>eqc1 x y && eqcL xs ys
 | _,_=>true
theorem CF {k:Bool} {x y:C} {X:Bool→Prop} (h:eqC1 k x y X):X (eqc1 x y)∧∀ (m:Mp) (u v:Value),CR m x u→CR m y v→cmp1 k u v∧eqv1 u v=eqc1 x y:=by
 unfold eqC1 at h
 split at h
 ·rename_i a n b m'
  obtain ⟨hb,h1⟩:=cL h
  have hb:=beq_eq hb
  subst hb
  rw [uN] at h1
  refine ⟨h1,λm u v hx hy=>?_⟩
  have hx:u=.int (kd a) n:=hx
  have hy:v=.int (kd a) m':=hy
  subst hx hy
  exact ⟨rfl,rfl⟩
 ·rename_i a b
  refine ⟨by cases a<;>cases b<;>exact h,λm u v hx hy=>?_⟩
  have hx:u=.bool a:=hx
  have hy:v=.bool b:=hy
  subst hx hy
  exact ⟨trivial,rfl⟩
 ·exact h.elim
theorem y7:∀ {ks:List Bool} {xs ys:List C} {X:Bool→Prop},eqLs ks xs ys X→X (eqcL xs ys)∧∀ (m:Mp) (us vs:List Value),All2 (CR m) xs us→All2 (CR m) ys vs→re ks us vs∧eqvL us vs=eqcL xs ys
 | [],[],[],X,h=>⟨h,λm us vs a b=>by match us,vs,a,b with | [],[],_,_=>exact ⟨trivial,rfl⟩⟩
 |k::ks,x::xs,y::ys,X,h=>by
  have h0:eqC1 k x y λr=>eqLs ks xs ys λs=>X (@Bool.rec (λ_=>Bool) false s r):=h
  obtain ⟨h1,c1⟩:=CF h0
  obtain ⟨h2,c2⟩:=y7 h1
  refine ⟨?_,λm us vs a b=>?_⟩
  ·show X (eqc1 x y && eqcL xs ys)
   cases he:eqc1 x y<;>rw [he] at h2<;>exact h2
  ·match us,vs,a,b with
   |u::us,v::vs,⟨a1,a2⟩,⟨b1,b2⟩=>
    obtain ⟨d1,d2⟩:=c1 m u v a1 b1
    obtain ⟨d3,d4⟩:=c2 m us vs a2 b2
    exact ⟨⟨d1,d3⟩,by show (eqv1 u v && eqvL us vs)=(eqc1 x y && eqcL xs ys);rw [d2,d4]⟩
 | [],_::_,_,_,h=>by simp [eqLs] at h
 | [],[],_::_,_,h=>by simp [eqLs] at h
 | _::_,[],_,_,h=>by simp [eqLs] at h
 | _::_,_::_,[],_,h=>by simp [eqLs] at h
theorem sX {m:Mp} {dp:Nat} {d:Lv C dp}:∀ {cs:List Value} {n off:Nat},cs.length=n→(∀ i u,cs[i]?=some u→CR m (lget dp d (off+i)) u)→All2 (CR m) (qV dp d n off) cs
 | [],n,off,hl,_=>by subst hl;exact trivial
 |c::cs,n,off,hl,h=>by
  subst hl
  refine ⟨h 0 c rfl,sX rfl λi u hi=>?_⟩
  have:=h (i+1) u hi
  rw [show off+(i+1)=Nat.succ off+i by omega] at this
  exact this
theorem wV {t:TypeId} {vx vy:V} {X:Bool→Prop} (h:(eqB P t).go vx vy X):∃ r,X r∧∀ m rx ry,VR m vx rx→VR m vy ry→∀ w,Dq P t rx ry r w:=by
 unfold eqB at h
 split at h
 ·obtain ⟨k,a,b,rfl,rfl,h1⟩:=ng h
  refine ⟨_,h1,λm rx ry q1 q2 w=>?_⟩
  have q1:rx=.int (kd k) a:=q1
  have q2:ry=.int (kd k) b:=q2
  subst q1 q2
  exact ⟨λop x y=>kb,by simp [binOp,Op.intCmp,uN],by simp [binOp,Op.intCmp,uN,bne]⟩
 ·rename_i ht
  obtain ⟨cx,rfl,h1⟩:=qv h
  obtain ⟨cy,rfl,h2⟩:=qv h1
  have hu:P.underlying t=some .bool:=by
   unfold eqT at ht;split at ht<;>first | assumption | (exact absurd ht (by decide))
  unfold eqBo at h2
  split at h2
  ·rename_i a b
   refine ⟨_,h2,λm rx ry q1 q2 w=>?_⟩
   have q1:rx=.bool a:=q1
   have q2:ry=.bool b:=q2
   subst q1 q2
   refine mo (λop x y=>by cases op<;>rfl) rfl rfl λd=>?_
   cases a<;>cases b<;>simp [Op.equalIn,run_underlying hu]
  ·exact h2.elim
 ·rename_i ht
  obtain ⟨cx,rfl,h1⟩:=qv h
  obtain ⟨cy,rfl,h2⟩:=qv h1
  obtain ⟨el,hu⟩:∃ el,P.underlying t=some (.pointer el):=by
   unfold eqT at ht;split at ht<;>first | exact ⟨_,by assumption⟩ | (exact absurd ht (by decide))
  unfold eqPt at h2
  split at h2
  ·skip
   refine ⟨_,h2,λm rx ry q1 q2 w=>?_⟩
   have q1:rx=.pointer none:=q1
   have q2:ry=.pointer none:=q2
   subst q1 q2
   exact mo (λop x y=>by cases op<;>rfl) rfl rfl λd=>by simp [Op.equalIn,run_underlying hu]
  ·skip
   refine ⟨_,h2,λm rx ry q1 q2 w=>?_⟩
   have q1:rx=.pointer none:=q1
   obtain ⟨b,n,_,rfl⟩:=q2
   subst q1
   exact mo (λop x y=>by cases op<;>rfl) rfl rfl λd=>by simp [Op.equalIn,run_underlying hu]
  ·skip
   refine ⟨_,h2,λm rx ry q1 q2 w=>?_⟩
   have q2:ry=.pointer none:=q2
   obtain ⟨b,n,_,rfl⟩:=q1
   subst q2
   exact mo (λop x y=>by cases op<;>rfl) rfl rfl λd=>by simp [Op.equalIn,run_underlying hu]
  ·exact h2.elim
 ·rename_i ht
  obtain ⟨cx,rfl,h1⟩:=qv h
  obtain ⟨cy,rfl,h2⟩:=qv h1
  obtain ⟨el,hu⟩:∃ el,P.underlying t=some (.slice el):=by
   unfold eqT at ht;split at ht<;>first | exact ⟨_,by assumption⟩ | (exact absurd ht (by decide))
  unfold eqSl at h2
  split at h2
  ·skip
   refine ⟨_,h2,λm rx ry q1 q2 w=>?_⟩
   have q1:rx=.slice none 0 0:=q1
   have q2:ry=.slice none 0 0:=q2
   subst q1 q2
   exact mo (λop x y=>by cases op<;>rfl) rfl rfl λd=>by simp [Op.equalIn,run_underlying hu]
  ·skip
   refine ⟨_,h2,λm rx ry q1 q2 w=>?_⟩
   have q2:ry=.slice none 0 0:=q2
   obtain ⟨b,n,cap,_,rfl,_⟩:=q1
   subst q2
   exact mo (λop x y=>by cases op<;>rfl) rfl rfl λd=>by simp [Op.equalIn,run_underlying hu]
  ·skip
   refine ⟨_,h2,λm rx ry q1 q2 w=>?_⟩
   have q2:ry=.slice none 0 0:=q2
   obtain ⟨a,cap,rfl⟩:=q1
   subst q2
   exact mo (λop x y=>by cases op<;>rfl) rfl rfl λd=>by simp [Op.equalIn,run_underlying hu]
  ·exact h2.elim
 ·rename_i ht
  unfold eqA at h
  split at h
  ·rename_i ks hk hg
   obtain ⟨dp,d,o,n,rfl,h1⟩:=rF h
   obtain ⟨dp',d',o',n',rfl,h2⟩:=rF h1
   rw [iQ,iQ] at h2
   have ha:isAgg? P t=true:=by
    unfold eqT at ht
    unfold isAgg?
    split at ht<;>first | (exact absurd ht (by decide)) | skip
    ·rename_i hu;rw [hu]
    ·rename_i hu;rw [hu]
   obtain ⟨hX,hr⟩:=y7 h2
   refine ⟨_,hX,λm rx ry q1 q2 w=>?_⟩
   obtain ⟨cs,rfl,l1,t1⟩:=q1
   obtain ⟨cs',rfl,l2,t2⟩:=q2
   obtain ⟨hc,he⟩:=hr m cs cs' (sX l1 λi u hi=>(t1.2 i u hi).1) (sX l2 λi u hi=>(t2.2 i u hi).1)
   have hq:=xP 8 t ks hk 10000 (by omega) cs cs' hc w
   unfold tP at hq
   rw [if_pos ha,if_pos ha,he] at hq
   exact ⟨λop x y=>run_eqGuard_agg w op t x y _ _ hg,by rw [run_eql_struct,hq];rfl,by rw [run_neq_struct,hq];rfl⟩
  ·exact h.elim
 ·exact h.elim
theorem Dr (k:Nat):Cs k=(kd k).bits:=by
 unfold Cs
 cases h3:Nat.beq k 3 with
 |true=>rw [beq_eq h3];rfl
 |false=>cases h7:Nat.beq k 7 with
  |true=>rw [beq_eq h7];rfl
  |false=>rfl
theorem yh (a b:Nat):minN a b=min a b:=by
 unfold minN
 cases h:Nat.ble a b with
 |true=>have:=cB h;show a=_;omega
 |false=>have:=vJ h;show b=_;omega
theorem yi {op:BinOp} {t u:TypeId} {x y:Operand} (ho:o.op=.binOp op t x y u) (h:(evC e x).go env λx=>(evC e y).go env λy=>(binC P op t).go x y K):∃ v,K v∧j0 P e env o v:=by
 obtain ⟨vx,h1,hx⟩:=bE h
 obtain ⟨vy,h2,hy⟩:=bE h1
 have cmp:∀ {r:Int→Int→Bool},∀ (a b:Int) (k:Nat),vx=.c (.i k a)→vy=.c (.i k b)→(∀ w,(binOp op t (.int (kd k) a) (.int (kd k) b)).run P w=.ok (.bool (r a b)) w)→K (.c (.b (r a b)))→∃ v,K v∧j0 P e env o v:=by
  intro r a b k e1 e2 hr hk
  subst e1 e2
  exact ⟨_,hk,Dp ho hx hy hr λm=>rfl⟩
 have num:∀ (a b z:Int) (k:Nat),vx=.c (.i k a)→vy=.c (.i k b)→(∀ w,(binOp op t (.int (kd k) a) (.int (kd k) b)).run P w=.ok (.int (kd k) z) w)→K (.c (.i k z))→∃ v,K v∧j0 P e env o v:=by
  intro a b z k e1 e2 hr hk
  subst e1 e2
  exact ⟨_,hk,Dp ho hx hy hr λm=>rfl⟩
 cases op with
 |add=>obtain ⟨k,a,b,e1,e2,h3⟩:=ng h2;exact num a b _ k e1 e2 (λw=>by simp [binOp,Op.intArith]) (CA h3)
 |sub=>obtain ⟨k,a,b,e1,e2,h3⟩:=ng h2;exact num a b _ k e1 e2 (λw=>by simp [binOp,Op.intArith]) (CC h3)
 |mul=>obtain ⟨k,a,b,e1,e2,h3⟩:=ng h2;exact num a b _ k e1 e2 (λw=>by simp [binOp,Op.intArith]) (CB h3)
 |quo=>
  obtain ⟨k,a,b,e1,e2,h3⟩:=ng h2
  have key:b≠0∧K (.c (.i k ((kd k).wrap (a.tdiv b)))):=by
   rcases th h3 with ⟨x,y,rfl,rfl,h4⟩ | h4
   ·obtain ⟨hb,h5⟩:=Bb h4
    have:=oX hb
    refine ⟨by omega,?_⟩
    have h6:=rG h5
    rw [show ((Nat.div x y:Nat):Int)=(x:Int).tdiv y from Int.ofNat_tdiv ..] at h6
    exact h6
   ·obtain ⟨hb,h5⟩:=Bb h4
    rw [uN] at hb
    exact ⟨by simpa using hb,nO h5⟩
  exact num a b _ k e1 e2 (λw=>by simp [binOp,Op.intDiv,key.1]) key.2
 |rem=>
  obtain ⟨k,a,b,e1,e2,h3⟩:=ng h2
  have key:b≠0∧K (.c (.i k (a.tmod b))):=by
   rcases th h3 with ⟨x,y,rfl,rfl,h4⟩ | h4
   ·obtain ⟨hb,h5⟩:=Bb h4
    have:=oX hb
    refine ⟨by omega,?_⟩
    have h6:=dF.1 h5
    rw [show (Int.ofNat (Nat.mod x y):Int)=(x:Int).tmod y from Int.ofNat_tmod ..] at h6
    exact h6
   ·obtain ⟨hb,h5⟩:=Bb h4
    rw [uN] at hb
    exact ⟨by simpa using hb,yg h5⟩
  exact num a b _ k e1 e2 (λw=>by simp [binOp,Op.intDiv,key.1]) key.2
 |and=>obtain ⟨k,a,b,e1,e2,h3⟩:=ng h2;exact num a b _ k e1 e2 (λw=>by simp [binOp,Op.intBits]) (tD CE h3)
 |or=>obtain ⟨k,a,b,e1,e2,h3⟩:=ng h2;exact num a b _ k e1 e2 (λw=>by simp [binOp,Op.intBits]) (tD Eg h3)
 |xor=>obtain ⟨k,a,b,e1,e2,h3⟩:=ng h2;exact num a b _ k e1 e2 (λw=>by simp [binOp,Op.intBits]) (tD Bf h3)
 |andNot=>obtain ⟨k,a,b,e1,e2,h3⟩:=ng h2;exact num a b _ k e1 e2 (λw=>by simp [binOp,Op.intBits]) (nO h3)
 |lss=>obtain ⟨k,a,b,e1,e2,h3⟩:=ng h2;exact cmp (r:=λa b=>!(leI b a)) a b k e1 e2 (λw=>by simp [binOp,Op.intCmp,wT,ndec]) (vP h3)
 |leq=>obtain ⟨k,a,b,e1,e2,h3⟩:=ng h2;exact cmp (r:=λa b=>leI a b) a b k e1 e2 (λw=>by simp [binOp,Op.intCmp,wT]) (vO h3)
 |gtr=>obtain ⟨k,a,b,e1,e2,h3⟩:=ng h2;exact cmp (r:=λa b=>!(leI a b)) a b k e1 e2 (λw=>by simp [binOp,Op.intCmp,wT,ndec]) (vP h3)
 |geq=>obtain ⟨k,a,b,e1,e2,h3⟩:=ng h2;exact cmp (r:=λa b=>leI b a) a b k e1 e2 (λw=>by simp [binOp,Op.intCmp,wT]) (vO h3)
 |shl=>
  obtain ⟨k,j,a,b,e1,e2,h3⟩:=Bc h2
  rcases th h3 with ⟨x,y,rfl,rfl,h4⟩ | h4
  ·subst e1 e2
   have h5:=rG h4
   refine ⟨_,h5,wU ho hx hy λm rx ry q1 q2=>?_⟩
   have q1:rx=.int (kd k) x:=q1
   have q2:ry=.int (kd j) y:=q2
   subst q1 q2
   refine ⟨_,λw=>kb,λw=>?_,rfl⟩
   have e0:¬ ((y:Int)<0):=by omega
   simp [binOp,Op.shift,e0,yh,Dr]
  ·exact h4.elim
 |shr=>
  obtain ⟨k,j,a,b,e1,e2,h3⟩:=Bc h2
  rcases th h3 with ⟨x,y,rfl,rfl,h4⟩ | h4
  ·subst e1 e2
   have h5:=dF.1 h4
   refine ⟨_,h5,wU ho hx hy λm rx ry q1 q2=>?_⟩
   have q1:rx=.int (kd k) x:=q1
   have q2:ry=.int (kd j) y:=q2
   subst q1 q2
   refine ⟨_,λw=>kb,λw=>?_,rfl⟩
   have e0:¬ ((y:Int)<0):=by omega
   simp [binOp,Op.shift,e0,yh,Dr]
   rw [show ((2:Int) ^ min y (kd k).bits)=((2 ^ min y (kd k).bits:Nat):Int) by simp]
   exact (Int.ofNat_fdiv x _).symm
  ·exact h4.elim
 |eql=>
  have h3:((eqB P t).bind λg=>⟨λx y K=>g x y λr=>retB r K⟩:Bx (V→V→(V→Prop)→Prop)).go vx vy K:=h2
  rw [aP,cU] at h3
  obtain ⟨r,h4,h5⟩:=wV h3
  exact ⟨_,vO h4,wU ho hx hy λm rx ry q1 q2=>⟨.bool r,λw=>(h5 m rx ry q1 q2 w).1 _ _ _,λw=>(h5 m rx ry q1 q2 w).2.1,rfl⟩⟩
 |neq=>
  have h3:((eqB P t).bind λg=>⟨λx y K=>g x y λr=>retN r K⟩:Bx (V→V→(V→Prop)→Prop)).go vx vy K:=h2
  rw [aP,cU] at h3
  obtain ⟨r,h4,h5⟩:=wV h3
  exact ⟨_,vP h4,wU ho hx hy λm rx ry q1 q2=>⟨.bool (!r),λw=>(h5 m rx ry q1 q2 w).1 _ _ _,λw=>(h5 m rx ry q1 q2 w).2.2,rfl⟩⟩
end
end Go.Mx
namespace Go.Mx
open Go.Eng
theorem nP (b o i:Nat):(⟨b,o,none⟩:Addr).add i=⟨b,o+i,none⟩:=by
 unfold Addr.add
 split
 ·rename_i h;subst h;rfl
 ·rfl
theorem gE {P:Program} {t:TypeId} (h:okT P t=true):∃ i z,P.info? t=some i∧i.zero=some z∧szT P t=i.size∧z.cells.size=i.size∧0<i.size∧i.size≤16384∧m4 P t=z.cells.toList.map cv1∧z.cells.toList.all (λv=>stC (cv1 v))=true:=by
 unfold okT Cr at h
 cases hi:P.info? t with
 |none=>rw [hi] at h;cases h
 |some i=>
  rw [hi] at h
  cases hz:i.zero with
  |none=>simp only [hz] at h;cases h
  |some z=>
   simp only [hz,Bool.and_eq_true] at h
   have hsz:szT P t=i.size:=by unfold szT;rw [hi]
   have hze:m4 P t=z.cells.toList.map cv1:=by unfold m4 Cr;rw [hi];simp only [hz]
   obtain ⟨h1,h2,h3,h4⟩:=h
   rw [hsz] at h1 h2 h3
   rw [hze,List.all_map] at h4
   exact ⟨i,z,rfl,hz,hsz,beq_eq h1,cB h2,cB h3,hze,h4⟩
theorem sx {P:Program} {t el:TypeId} (h:elT P t=some el):P.underlying t=some (.slice el)∧okT P el=true:=by
 unfold elT at h
 split at h
 ·rename_i e hu
  split at h
  ·rename_i hk;simp only [Option.some.injEq] at h;subst h;exact ⟨hu,hk⟩
  ·cases h
 ·cases h
theorem wW {P:Program} {t el:TypeId} {hi mx:Option Operand} (h:elHM P t hi mx=some el):P.underlying t=some (.slice el)∧okT P el=true∧¬ (hi=none∧mx≠none):=by
 unfold elHM at h
 split at h
 ·rename_i hk
  obtain ⟨h1,h2⟩:=sx h
  refine ⟨h1,h2,?_⟩
  rintro ⟨rfl,hm⟩
  cases mx with
  |none=>exact hm rfl
  |some y=>cases hk
 ·cases h
theorem t7 {P:Program} {t:TypeId} (h:hasU P t=true):∃ d,P.underlying t=some d:=by
 unfold hasU at h
 cases hu:P.underlying t with
 |none=>rw [hu] at h;cases h
 |some d=>exact ⟨d,rfl⟩
section
variable {P:Program} {e:Nat} {env:Env e} {o:Oper} {K:V→Prop}
theorem CG {x:Operand} (hx:x ∈ o.op.operands.toList) {vx v:V} (hv:kZ e env x vx) (H:∀ m renv,VR m vx (ev renv x)→∃ rv,(∀ w,(execOp (ev renv) o).run P w=.ok (.value rv) w)∧VR m v rv):j0 P e env o v:=
 λm renv hr=>H m renv (hv.of hr hx)
theorem zQ {op:UnOp} {t:TypeId} {x:Operand} (ho:o.op=.unOp op t x) (h:(evC e x).go env λx=>(unC op).go x K):∃ v,K v∧j0 P e env o v:=by
 obtain ⟨vx,h1,hx⟩:=bE h
 have hm:x ∈ o.op.operands.toList:=by rw [ho];simp [Op.operands]
 have he:∀ renv,execOp (ev renv) o=(do pure (.value (← Op.unary op (ev renv x)))):=λrenv=>by unfold execOp;rw [ho]
 cases op with
 |not=>
  obtain ⟨b,rfl,h2⟩:=vM h1
  refine ⟨.c (.b (!b)),by rcases h2 with ⟨rfl,h3⟩ | ⟨rfl,h3⟩<;>exact h3,CG hm hx λm renv q=>?_⟩
  have q:ev renv x=.bool b:=q
  exact t6 (he renv) (λw=>by rw [q];simp [Op.unary]) rfl
 |neg=>
  obtain ⟨k,n,rfl,h2⟩:=qw h1
  refine ⟨_,nO h2,CG hm hx λm renv q=>?_⟩
  have q:ev renv x=.int (kd k) n:=q
  exact t6 (rv:=.int (kd k) ((kd k).wrap (0 - n))) (he renv) (λw=>by rw [q];simp [Op.unary,Op.intArith]) rfl
 |xor=>
  obtain ⟨k,n,rfl,h2⟩:=qw h1
  obtain ⟨e7,h3⟩:=cL h2
  have e7:=beq_eq e7
  subst e7
  refine ⟨_,tD Bf h3,CG hm hx λm renv q=>?_⟩
  have q:ev renv x=.int .u64 n:=q
  exact t6 (rv:=.int .u64 (IntKind.u64.wrap (Nat.xor (BitVec.ofInt 64 (.ofNat 18446744073709551615)).toNat (BitVec.ofInt 64 n).toNat:Nat))) (he renv) (λw=>by rw [q];simp [Op.unary,Op.intBits];rfl) rfl
 |plus=>exact h1.elim
theorem vQ {src dst:TypeId} {x:Operand} (ho:o.op=.convert src dst x) (h:(evC e x).go env λx=>(D5 P src dst).go x K):∃ v,K v∧j0 P e env o v:=by
 obtain ⟨vx,h1,hx⟩:=bE h
 have hm:x ∈ o.op.operands.toList:=by rw [ho];simp [Op.operands]
 have he:∀ renv,execOp (ev renv) o=(do pure (.value (← Go.convert src dst (ev renv x)))):=λrenv=>by unfold execOp;rw [ho]
 unfold D5 at h1
 split at h1
 ·rename_i hs
  obtain ⟨ds,hs⟩:=t7 hs
  split at h1
  ·rename_i j hd
   rw [iJ,cU] at h1
   obtain ⟨k,n,rfl,h2⟩:=qw h1
   have h3:K (.c (.i (kc j) ((kd (kc j)).wrap n))):=by
    cases n with
    |ofNat n=>exact rG h2
    |negSucc n=>exact nO h2
   rw [Ef] at h3
   refine ⟨_,h3,CG hm hx λm renv q=>?_⟩
   have q:ev renv x=.int (kd k) n:=q
   exact t6 (rv:=.int j (j.wrap n)) (he renv) (λw=>by rw [q];simp [Go.convert,run_underlying hs,run_underlying hd,Conv.intToInt]) (by show _=Value.int (kd (kc j)) _;rw [Ef])
  ·exact h1.elim
 ·exact h1.elim
theorem t8 {t:TypeId} {x i:Operand} (ho:o.op=.indexAddr t x i) (h:(rC P e t x i).go env K):∃ v,K v∧j0 P e env o v:=by
 have hmx:x ∈ o.op.operands.toList:=by rw [ho];simp [Op.operands]
 have hmi:i ∈ o.op.operands.toList:=by rw [ho];simp [Op.operands]
 unfold rC at h
 split at h
 ·rename_i el0 hu0
  split at h
  ·rename_i el hel
   obtain ⟨hu,hok⟩:=sx hel
   obtain ⟨inf,z,hinf,hz,hsz,hzs,hpos,hmax,_⟩:=gE hok
   rw [aP,aP,iJ,cU] at h
   obtain ⟨vx,h1,hx⟩:=bE h
   obtain ⟨vi,h2,hi⟩:=bE h1
   rcases nN h2 with ⟨_,hf⟩ | ⟨_,hf⟩ | ⟨ob,off,len,sz,c,rfl,h3⟩
   ·exact hf.elim
   ·exact hf.elim
   obtain ⟨hs,h4⟩:=cL h3
   obtain ⟨k,n,rfl,h5⟩:=oY h4
   obtain ⟨hn,h6⟩:=cL h5
   have hn:=cB hn
   have h7:=dF.1 h6
   refine ⟨_,h7,λm renv hr=>?_⟩
   obtain ⟨b,N,cap,hb,q1,hlc,_⟩:=hx.of hr hmx
   have q2:ev renv i=.int (kd k) (n:Int):=hi.of hr hmi
   refine wb ho q2 hu q1 hinf ⟨⟨b,off,none⟩,rfl,by omega,by omega,b,N,hb,?_⟩
   rw [nP,Int.toNat_natCast,←hsz,←beq_eq hs]
   rfl
  ·exact h.elim
 ·rename_i len el hu
  split at h
  ·rename_i hok
   obtain ⟨inf,z,hinf,hz,hsz,hzs,hpos,hmax,_⟩:=gE hok
   rw [aP,aP,iJ,cU] at h
   obtain ⟨vx,h1,hx⟩:=bE h
   obtain ⟨vi,h2,hi⟩:=bE h1
   obtain ⟨ob,off,rfl,h3⟩:=sw h2
   obtain ⟨k,n,rfl,h5⟩:=oY h3
   obtain ⟨hn,h6⟩:=cL h5
   have hn:=cB hn
   have h7:=dF.1 h6
   refine ⟨_,h7,λm renv hr=>?_⟩
   obtain ⟨b,N,hb,q1⟩:=hx.of hr hmx
   have q2:ev renv i=.int (kd k) (n:Int):=hi.of hr hmi
   refine wg ho q2 hu q1 hinf ⟨by omega,by omega,b,N,hb,?_⟩
   rw [nP,Int.toNat_natCast,←hsz]
   rfl
  ·exact h.elim
 ·exact h.elim
def Bg (e:Nat) (env:Env e) (x:Option Operand) (v:Option V):Prop:=match x,v with
 |none,none=>True
 |some x,some v=>kZ e env x v
 | _,_=>False
theorem iR {x:Option Operand} {X:Option V→Prop} (h:(optC e x).go env X):∃ v,X v∧Bg e env x v:=by
 cases x with
 |none=>exact ⟨none,h,trivial⟩
 |some x=>
  have h1:((evC e x).bind λg=>⟨λenv K=>g env λv=>K (some v)⟩:Bx (Env e→(Option V→Prop)→Prop)).go env X:=h
  rw [aP,cU] at h1
  obtain ⟨v,h2,hv⟩:=bE h1
  exact ⟨some v,h2,hv⟩
theorem j1 {v:Option V} {d:Nat} {X:Nat→Prop} (h:bndK v d X):∃ n:Nat,X n∧((v=none∧n=d)∨∃ k,v=some (.c (.i k (.ofNat n)))):=by
 cases v with
 |none=>exact ⟨d,h,.inl ⟨rfl,rfl⟩⟩
 |some v=>
  obtain ⟨k,n,rfl,h1⟩:=oY h
  exact ⟨n,h1,.inr ⟨k,rfl⟩⟩
theorem pv {x:Option Operand} {v:Option V} (hv:Bg e env x v) {d n:Nat} (hn:(v=none∧n=d)∨∃ k,v=some (.c (.i k (.ofNat n)))) {m:Mp} {renv:List Value} {os:List Operand} (hr:OpsR m e env renv os)
  (hs:∀ y,x=some y→y ∈ os):bnd (d:Int) (x.map (ev renv))=some (n:Int):=by
 cases x with
 |none=>cases v with
  |none=>
   rcases hn with ⟨_,rfl⟩ | ⟨k,hk⟩
   ·rfl
   ·cases hk
  |some v=>exact hv.elim
 |some x=>cases v with
  |none=>exact hv.elim
  |some v=>
   rcases hn with ⟨hc,_⟩ | ⟨k,hk⟩
   ·cases hc
   ·simp only [Option.some.injEq] at hk
    subst hk
    have:ev renv x=.int (kd k) (n:Int):=kZ.of hv hr (hs x rfl)
    simp only [Option.map_some,this,bnd]
theorem vR {m:Mp} {ob off len sz b N cap l h mx:Nat} {c:Option Nat} (hb:m ob=some (b,N)) (hpos:0<sz) (hlc:len≤cap)
  (hc:match c with | some k=>cap=k | none=>off+cap * sz=N) (hlh:l≤h) (hhm:h≤mx) (hmc:mx≤cap) {v:V}
  (hv:(mx=cap∧c=none∧l=0∧v=.c (.s ob off h sz none))∨(mx=cap∧c=none∧l=h∧v=.c .es)∨(mx=cap∧c=none∧l<h∧v=.c (.s ob (off+l * sz) (h - l) sz none))∨
   (mx - l=0∧v=.c (.s ob off (h - l) sz (some (mx - l))))∨(mx - l≠0∧v=.c (.s ob (off+l * sz) (h - l) sz (some (mx - l))))) :
  VR m v (.slice (if (mx:Int)=l then some ⟨b,off,none⟩ else (some (⟨b,off,none⟩:Addr)).map (·.add ((l:Int).toNat * sz))) ((h:Int).toNat - (l:Int).toNat) ((mx:Int).toNat - (l:Int).toNat)):=by
 simp only [Int.toNat_natCast,Option.map_some,nP]
 rcases hv with ⟨e1,rfl,rfl,rfl⟩ | ⟨e1,rfl,rfl,rfl⟩ | ⟨e1,rfl,hlt,rfl⟩ | ⟨hz,rfl⟩ | ⟨hz,rfl⟩
 ·refine ⟨b,N,cap,hb,?_,by omega,hc⟩
  simp only [Nat.zero_mul,Nat.add_zero,Nat.sub_zero,e1]
  split<;>rfl
 ·refine ⟨if (mx:Int)=l then ⟨b,off,none⟩ else ⟨b,off+l * sz,none⟩,mx - l,?_⟩
  rw [Nat.sub_self]
  split<;>rfl
 ·refine ⟨b,N,cap - l,hb,?_,by omega,?_⟩
  ·rw [if_neg (by omega),e1]
  ·show off+l * sz+(cap - l) * sz=N
   have hc:off+cap * sz=N:=hc
   rw [Nat.add_assoc,←Nat.add_mul,show l+(cap - l)=cap by omega]
   exact hc
 ·refine ⟨b,N,mx - l,hb,?_,by omega,rfl⟩
  rw [if_pos (by omega)]
 ·refine ⟨b,N,mx - l,hb,?_,by omega,rfl⟩
  rw [if_neg (by omega)]
theorem yj {ob off sz l h mx:Nat} (H:slM ob off sz l h mx K):l≤h∧h≤mx∧∃ v,K v∧((mx - l=0∧v=.c (.s ob off (h - l) sz (some (mx - l))))∨(mx - l≠0∧v=.c (.s ob (off+l * sz) (h - l) sz (some (mx - l))))):=by
 obtain ⟨h1,H1⟩:=cL H
 obtain ⟨h2,H2⟩:=cL H1
 have H3:=dF.1 H2
 have H4:=dF.1 H3
 refine ⟨cB h1,cB h2,?_⟩
 rcases tw H4 with ⟨hb,H5⟩ | ⟨hb,H5⟩
 ·exact ⟨_,H5,.inl ⟨beq_eq hb,rfl⟩⟩
 ·exact ⟨_,dF.1 H5,.inr ⟨oX hb,rfl⟩⟩
theorem Eh {ob off sz l h:Nat} (H:slN ob off sz l h K):l≤h∧∃ v,K v∧((l=0∧v=.c (.s ob off h sz none))∨(l=h∧v=.c .es)∨(l<h∧v=.c (.s ob (off+l * sz) (h - l) sz none))):=by
 rcases tw H with ⟨hb,H1⟩ | ⟨hb,H1⟩
 ·have:=beq_eq hb;exact ⟨by omega,_,H1,.inl ⟨this,rfl⟩⟩
 ·obtain ⟨h1,H2⟩:=cL H1
  have h1:=cB h1
  rcases tw H2 with ⟨hb,H3⟩ | ⟨hb,H3⟩
  ·exact ⟨h1,_,H3,.inr (.inl ⟨beq_eq hb,rfl⟩)⟩
  ·have:=oX hb
   have H4:=dF.1 H3
   have H5:=dF.1 H4
   exact ⟨h1,_,H5,.inr (.inr ⟨by omega,rfl⟩)⟩
def EndS (H:Hp) (ob off len sz h:Nat):Prop:=h≤len∨∃ wr n dp d,lget 7 H.t ob=.ob wr n dp d∧off+h * sz≤n
theorem sY {H:Hp} {ob:Nat} {X:(wr:Bool)→(n dp:Nat)→Lv C dp→Prop} (h:obK H ob X):∃ wr n dp d,lget 7 H.t ob=.ob wr n dp d∧X wr n dp d:=by
 cases H with
 |mk x t=>
  have h1:(getC 7 ob).go t (λb=>@Ob.rec (λ_=>Prop) False X False f1 b):=h
  rw [nM] at h1
  cases hb:lget 7 t ob with
  |dead=>rw [hb] at h1;exact h1.elim
  |ob wr n dp d=>rw [hb] at h1;exact ⟨wr,n,dp,d,rfl,h1⟩
  |mp=>rw [hb] at h1;exact h1.elim
  |it q=>rw [hb] at h1;exact h1.elim
theorem y8 {q:Bool} {H:Hp} {ob off len sz h:Nat} {X:Prop} (hx:endK q H ob off len sz h X):(h≤len∨(q=true∧EndS H ob off len sz h))∧X:=by
 rcases tw hx with ⟨hb,h1⟩ | ⟨hb,h1⟩
 ·exact ⟨.inl (cB hb),h1⟩
 ·obtain ⟨hq,h2⟩:=cL h1
  obtain ⟨wr,n,dp,d,hg,h3⟩:=sY h2
  obtain ⟨h4,h5⟩:=cL h3
  exact ⟨.inr ⟨hq,.inr ⟨wr,n,dp,d,hg,cB h4⟩⟩,h5⟩
theorem wX {t el:TypeId} {x:Operand} {lo hi mx:Option Operand} (ho:o.op=.slice t x lo hi mx) (hu:P.underlying t=some (.slice el)) (hok:okT P el=true) {q:Bool} {H:Hp} {vx:V} {vlo vhi vmx:Option V}
  (hx:kZ e env x vx) (hlo:Bg e env lo vlo) (hhi:Bg e env hi vhi) (hmx:Bg e env mx vmx) (h:slS q (szT P el) vx vlo vhi vmx H K) (hhm:¬ (hi=none∧mx≠none)) :
  ∃ v,K v∧∀ m renv,OpsR m e env renv o.op.operands.toList→(q=true→∀ ob wr n dp d b N,lget 7 H.t ob=.ob wr n dp d→m ob=some (b,N)→n≤N)→∃ rv,(∀ w,(execOp (ev renv) o).run P w=.ok (.value rv) w)∧VR m v rv:=by
 obtain ⟨inf,z,hinf,hz,hsz,hzs,hpos,hmax,_⟩:=gE hok
 have mx':x ∈ o.op.operands.toList:=by rw [ho];simp [Op.operands]
 have mlo:∀ y,lo=some y→y ∈ o.op.operands.toList:=by rintro y rfl;rw [ho];simp [Op.operands]
 have mhi:∀ y,hi=some y→y ∈ o.op.operands.toList:=by rintro y rfl;rw [ho];simp [Op.operands]
 have mmx:∀ y,mx=some y→y ∈ o.op.operands.toList:=by rintro y rfl;rw [ho];simp [Op.operands]
 have pd:∀ {renv:List Value} {m:Mp} {v:V} {a:Option Addr} {len cap:Nat} {l h' m':Nat},ev renv x=.slice a len cap→bnd (0:Int) (lo.map (ev renv))=some (l:Int)→bnd (len:Int) (hi.map (ev renv))=some (h':Int)→bnd (cap:Int) (mx.map (ev renv))=some (m':Int)→
   l≤h'→h'≤m'→m'≤cap→len≤cap→VR m v (.slice (if (m':Int)=l then a else a.map (·.add ((l:Int).toNat * inf.size))) ((h':Int).toNat - (l:Int).toNat) ((m':Int).toNat - (l:Int).toNat))→
   ∃ rv,(∀ w,(execOp (ev renv) o).run P w=.ok (.value rv) w)∧VR m v rv:=by
  intro renv m v a len cap l h' m' q1 q2 q3 q4 b1 b2 b3 b4 hv
  exact uB (K:=λu=>VR m v u) ho hu q1 hinf q2 q3 q4 hhm ⟨by omega,by omega,by omega,by omega,b4,hv⟩
 rcases nN h with ⟨rfl,h1⟩ | ⟨_,hf⟩ | ⟨ob,off,len,sz,c,rfl,h1⟩
 ·obtain ⟨l,h2,e2⟩:=j1 h1
  obtain ⟨h',h3,e3⟩:=j1 h2
  obtain ⟨m',h4,e4⟩:=j1 h3
  obtain ⟨hb,h5⟩:=cL h4
  have hb:l+(h'+m')=0:=beq_eq hb
  refine ⟨_,h5,λm renv hr _=>?_⟩
  have q1:ev renv x=.slice none 0 0:=hx.of hr mx'
  refine pd q1 (pv hlo e2 hr mlo) (pv hhi e3 hr mhi) (pv hmx e4 hr mmx) (by omega) (by omega) (by omega) (by omega) ?_
  obtain rfl:l=0:=by omega
  obtain rfl:h'=0:=by omega
  obtain rfl:m'=0:=by omega
  rfl
 ·exact hf.elim
 ·obtain ⟨hs,h2⟩:=cL h1
  have hs:=beq_eq hs
  subst hs
  obtain ⟨l,h3,e3⟩:=j1 h2
  obtain ⟨h',h4,e4⟩:=j1 h3
  have bound:∀ {m:Mp} {b N cap k:Nat},m ob=some (b,N)→len≤cap→off+cap * szT P el=N→(k≤len∨(q=true∧EndS H ob off len (szT P el) k))→(q=true→∀ ob wr n dp d b N,lget 7 H.t ob=.ob wr n dp d→m ob=some (b,N)→n≤N)→k≤cap:=by
   intro m b N cap k hb hlc hN hk hH
   rcases hk with hk | ⟨hq,hk | ⟨wr,n,dp,d,hg,hn⟩⟩
   ·omega
   ·omega
   ·have:=hH hq _ _ _ _ _ _ _ hg hb
    have h9:k * szT P el≤cap * szT P el:=by omega
    exact Nat.le_of_mul_le_mul_right h9 (by rw [hsz];exact hpos)
  cases vmx with
  |none=>
   have mxn:mx=none:=by cases mx with
    |none=>rfl
    |some y=>exact hmx.elim
   cases c with
   |none=>
    obtain ⟨hend,h5⟩:=y8 (show endK q H ob off len (szT P el) h' (slN ob off (szT P el) l h' K) from h4)
    obtain ⟨hlh,v,hv,hc⟩:=Eh h5
    refine ⟨v,hv,λm renv hr hH=>?_⟩
    obtain ⟨b,N,cap,hb,q1,hlc,hcap⟩:=hx.of hr mx'
    have hcap:off+cap * szT P el=N:=hcap
    have hhc:=bound hb hlc hcap hend hH
    refine pd (m':=cap) q1 (pv hlo e3 hr mlo) (pv hhi e4 hr mhi) (by rw [mxn];rfl) hlh hhc (Nat.le_refl _) hlc ?_
    rw [←hsz]
    exact vR (c:=none) hb (by rw [hsz];exact hpos) hlc hcap hlh hhc (Nat.le_refl _) (by rcases hc with ⟨a1,a2⟩ | ⟨a1,a2⟩ | ⟨a1,a2⟩<;>simp [*])
   |some k=>
    obtain ⟨hlh,hhk,v,hv,hc⟩:=yj (show slM ob off (szT P el) l h' k K from h4)
    refine ⟨v,hv,λm renv hr hH=>?_⟩
    obtain ⟨b,N,cap,hb,q1,hlc,hcap⟩:=hx.of hr mx'
    have hcap:cap=k:=hcap
    subst hcap
    refine pd (m':=cap) q1 (pv hlo e3 hr mlo) (pv hhi e4 hr mhi) (by rw [mxn];rfl) hlh hhk (Nat.le_refl _) hlc ?_
    rw [←hsz]
    exact vR (c:=some cap) hb (by rw [hsz];exact hpos) hlc rfl hlh hhk (Nat.le_refl _) (by rcases hc with ⟨a1,a2⟩ | ⟨a1,a2⟩<;>simp [*])
  |some vm=>
   obtain ⟨km,m',rfl,h5⟩:=oY (show onN vm _ from h4)
   obtain ⟨hend,h6⟩:=y8 h5
   obtain ⟨hlh,hhm',v,hv,hc⟩:=yj h6
   refine ⟨v,hv,λm renv hr hH=>?_⟩
   obtain ⟨b,N,cap,hb,q1,hlc,hcap⟩:=hx.of hr mx'
   have hmc:m'≤cap:=by
    cases c with
    |none=>exact bound hb hlc hcap hend hH
    |some k=>
     rcases hend with hk | ⟨hq,_⟩
     ·omega
     ·cases hq
   refine pd (m':=m') q1 (pv hlo e3 hr mlo) (pv hhi e4 hr mhi) (pv hmx (.inr ⟨km,rfl⟩) hr mmx) hlh hhm' hmc hlc ?_
   rw [←hsz]
   exact vR (c:=c) hb (by rw [hsz];exact hpos) hlc hcap hlh hhm' hmc (by rcases hc with ⟨a1,a2⟩ | ⟨a1,a2⟩<;>simp [*])
theorem yk {t:TypeId} {x:Operand} {lo hi mx:Option Operand} (ho:o.op=.slice t x lo hi mx) (h:(ya P e t x lo hi mx).go env K):∃ v,K v∧j0 P e env o v:=by
 unfold ya at h
 split at h
 ·split at h
  ·rename_i el hel
   obtain ⟨hu,hok,hc⟩:=wW hel
   rw [aP,aP,aP,aP,iJ,cU] at h
   obtain ⟨vx,h1,hx⟩:=bE h
   obtain ⟨vlo,h2,hlo⟩:=iR h1
   obtain ⟨vhi,h3,hhi⟩:=iR h2
   obtain ⟨vmx,h4,hmx⟩:=iR h3
   obtain ⟨v,hv,H⟩:=wX ho hu hok hx hlo hhi hmx h4 hc
   exact ⟨v,hv,λm renv hr=>H m renv hr λhq=>by cases hq⟩
  ·exact h.elim
 ·rename_i n el hu
  split at h
  ·rename_i hok
   obtain ⟨inf,z,hinf,hz,hsz,hzs,hpos,hmax,_⟩:=gE hok
   rw [aP,aP,aP,iJ,cU] at h
   obtain ⟨vx,h1,hx⟩:=bE h
   obtain ⟨vlo,h2,hlo⟩:=iR h1
   obtain ⟨vhi,h3,hhi⟩:=iR h2
   obtain ⟨ob,off,rfl,h4⟩:=sw h3
   obtain ⟨l,h5,e5⟩:=j1 h4
   obtain ⟨h',h6,e6⟩:=j1 h5
   obtain ⟨hlh,hhn,v,hv,hc⟩:=yj h6
   refine ⟨v,hv,λm renv hr=>?_⟩
   obtain ⟨b,N,hb,q1⟩:=hx.of hr (by rw [ho];simp [Op.operands])
   have q2:=pv hlo e5 hr (by rintro y rfl;rw [ho];simp [Op.operands])
   have q3:=pv hhi e6 hr (by rintro y rfl;rw [ho];simp [Op.operands])
   have he:execOp (ev renv) o=(do pure (.value (← Instr.sliceAt t (ev renv x) (lo.map (ev renv)) (hi.map (ev renv)) none))):=by unfold execOp;rw [ho];rfl
   have hbd:∀ w,(Instr.sliceBounds false n n (lo.map (ev renv)) (hi.map (ev renv)) none).run P w=.ok (l,h',n) w:=by
    intro w
    unfold Instr.sliceBounds
    rcases lk q3 with ⟨e1,e2⟩ | ⟨kh,e1⟩
    ·rcases lk q2 with ⟨e3,e4⟩ | ⟨kl,e3⟩
     ·rw [e1,e3]
      have:h'=n:=by omega
      have:l=0:=by omega
      simp [*]
     ·rw [e1,e3]
      have:h'=n:=by omega
      subst this
      simp [cC (P:=P) (k:=kl) (n:=(l:Int)) (y:=h') (by omega) (by omega)]
    ·rcases lk q2 with ⟨e3,e4⟩ | ⟨kl,e3⟩
     ·rw [e1,e3]
      have:l=0:=by omega
      simp [this,cC (P:=P) (k:=kh) (n:=(h':Int)) (y:=n) (by omega) (by omega)]
     ·rw [e1,e3]
      simp [cC (P:=P) (k:=kh) (n:=(h':Int)) (y:=n) (by omega) (by omega),cC (P:=P) (k:=kl) (n:=(l:Int)) (y:=h') (by omega) (by omega)]
   refine t6 (rv:=.slice (some (if n=l then ⟨b,off,none⟩ else (⟨b,off,none⟩:Addr).add (l * inf.size))) (h' - l) (n - l)) he (λw=>?_) ?_
   ·simp [Instr.sliceAt,run_underlying hu,q1,Instr.sureAddr,hbd,Eng.run_sizeOf hinf]
   ·rw [←hsz]
    have key:=vR (m:=m) (off:=off) (sz:=szT P el) (h:=h') (c:=some n) (len:=n) (cap:=n) (mx:=n) hb (by rw [hsz];exact hpos) (Nat.le_refl _) rfl hlh hhn (Nat.le_refl _) (v:=v) (by rcases hc with ⟨a1,a2⟩ | ⟨a1,a2⟩<;>simp [*])
    simp only [Int.toNat_natCast,Option.map_some] at key
    by_cases hnl:n=l
    ·rw [if_pos hnl]
     rw [if_pos (by omega)] at key
     exact key
    ·rw [if_neg hnl]
     rw [if_neg (by omega)] at key
     exact key
  ·exact h.elim
 ·exact h.elim
end
end Go.Mx
namespace Go.Mx
open Go.Eng
theorem wY {P:Program} {t:TypeId} {f:Nat} {r:Nat×TypeId} (h:offT P t f=some r):∃ (fs:Array Field) (fl:Field),P.underlying t=some (.struct fs)∧fs[f]?=some fl∧r.1=fl.offset∧r.2=fl.type∧okT P fl.type=true∧hasU P fl.type=true:=by
 unfold offT at h
 split at h
 ·rename_i fs hu
  split at h
  ·rename_i fl hf
   split at h
   ·rename_i hk
    simp only [Option.some.injEq] at h
    subst h
    simp only [Bool.and_eq_true] at hk
    exact ⟨fs,fl,hu,hf,rfl,rfl,hk.1,hk.2⟩
   ·cases h
  ·cases h
 ·cases h
section
variable {P:Program} {e:Nat} {env:Env e} {o:Oper} {K:V→Prop}
theorem t9 {t:TypeId} {x:Operand} {f:Nat} (ho:o.op=.fieldAddr t x f) (h:(rB P e t x f).go env K):∃ v,K v∧j0 P e env o v:=by
 unfold rB at h
 split at h
 ·rename_i r hr
  obtain ⟨fs,fl,hu,hf,e1,e2,hok,_⟩:=wY hr
  obtain ⟨inf,z,hinf,hz,hsz,hzs,hpos,hmax,_⟩:=gE hok
  rw [aP,iJ,cU] at h
  obtain ⟨vx,h1,hx⟩:=bE h
  obtain ⟨ob,off,rfl,h2⟩:=sw h1
  have h3:=dF.1 h2
  refine ⟨_,h3,λm renv hr=>?_⟩
  obtain ⟨b,N,hb,q1⟩:=hx.of hr (by rw [ho];simp [Op.operands])
  have he:execOp (ev renv) o=(do pure (.value (← Instr.fieldAt t (ev renv x) f))):=by unfold execOp;rw [ho]
  refine t6 (rv:=.pointer (some ⟨b,off+fl.offset,none⟩)) he (λw=>?_) ⟨b,N,hb,by rw [e1];rfl⟩
  have hne:¬ inf.size=0:=by omega
  simp [Instr.fieldAt,run_underlying hu,hf,q1,Instr.sureAddr,fieldPlace,Eng.run_sizeOf hinf,hne,nP]
 ·exact h.elim
theorem ua {t:TypeId} {off:Nat} {vx:V} (hok:okT P t=true) (hu:hasU P t=true) (h:(Cu P off t).go vx K):∃ v,K v∧∀ m rx,VR m vx rx→∃ cs,rx=.agg cs∧∃ rv,(∀ w,(part t cs off).run P w=.ok rv w)∧VR m v rv:=by
 obtain ⟨d,hd⟩:=t7 hu
 obtain ⟨inf,z,hinf,hz,hsz,hzs,hpos,hmax,_⟩:=gE hok
 unfold Cu at h
 split at h
 ·rename_i hagg
  rw [iJ,cU] at h
  obtain ⟨dp,dd,oo,n,rfl,h1⟩:=rF h
  obtain ⟨hb,h2⟩:=cL h1
  have hb:=cB hb
  have hb:off+szT P t≤n:=hb
  have h3:=dF.1 h2
  refine ⟨_,h3,λm rx hr=>?_⟩
  obtain ⟨cs,rfl,hl,ht⟩:=hr
  refine ⟨_,rfl,.agg (cs.toArray.extract off (off+inf.size)),λw=>?_,(cs.drop off).take inf.size,?_,?_,?_⟩
  ·have hagg:isAgg? P t=true:=hagg
   simp [part,gF hd,hagg,Eng.run_sizeOf hinf]
  ·simp [List.extract_toArray]
  ·simp;omega
  ·refine ⟨?_,λi u hi=>?_⟩
   ·have:=ht.1
    show oo+off+_≤_
    simp;omega
   ·rw [List.getElem?_take] at hi
    split at hi
    ·rw [List.getElem?_drop] at hi
     have:=ht.2 _ _ hi
     rw [show (oo.add off)+i=oo+(off+i) from Nat.add_assoc ..]
     exact this
    ·cases hi
 ·rename_i hagg
  rw [cU] at h
  obtain ⟨dp,dd,oo,n,rfl,h1⟩:=rF h
  obtain ⟨hb,h2⟩:=cL h1
  have hb:off+1≤n:=cB hb
  have h3:=dF.1 h2
  rw [nM] at h3
  refine ⟨_,h3,λm rx hr=>?_⟩
  obtain ⟨cs,rfl,hl,ht⟩:=hr
  have hlt:off<cs.length:=by omega
  have hg:cs[off]?=some cs[off]:=List.getElem?_eq_getElem hlt
  refine ⟨_,rfl,cs[off],λw=>?_,(ht.2 _ _ hg).1⟩
  have hagg:isAgg? P t=false:=hagg
  simp [part,gF hd,hagg,hg]
theorem yl {t:TypeId} {x:Operand} {f:Nat} (ho:o.op=.field t x f) (h:(yb P e t x f).go env K):∃ v,K v∧j0 P e env o v:=by
 unfold yb at h
 split at h
 ·rename_i r hr
  obtain ⟨fs,fl,hu,hf,e1,e2,hok,hhu⟩:=wY hr
  rw [aP,aP,cU] at h
  obtain ⟨vx,h1,hx⟩:=bE h
  rw [e1,e2] at h1
  obtain ⟨v,hv,H⟩:=ua hok hhu h1
  refine ⟨v,hv,λm renv hr=>?_⟩
  obtain ⟨cs,q1,rv,hrun,hrel⟩:=H m _ (hx.of hr (by rw [ho];simp [Op.operands]))
  have he:execOp (ev renv) o=(do pure (.value (← Instr.field t (ev renv x) f))):=by unfold execOp;rw [ho]
  refine t6 he (λw=>?_) hrel
  simp [Instr.field,run_underlying hu,hf,q1,asAgg,hrun]
 ·exact h.elim
theorem ym {t:TypeId} {x i:Operand} (ho:o.op=.index t x i) (h:(yc P e t x i).go env K):∃ v,K v∧j0 P e env o v:=by
 unfold yc at h
 split at h
 ·rename_i len el hu
  split at h
  ·rename_i hk
   simp only [Bool.and_eq_true] at hk
   obtain ⟨inf,z,hinf,hz,hsz,hzs,hpos,hmax,_⟩:=gE hk.1
   rw [aP,aP,iJ,cU] at h
   obtain ⟨vx,h1,hx⟩:=bE h
   obtain ⟨vi,h2,hi⟩:=bE h1
   obtain ⟨k,n,rfl,h3⟩:=oY h2
   obtain ⟨hn,h4⟩:=cL h3
   have hn:=cB hn
   obtain ⟨v,hv,H⟩:=ua hk.1 hk.2 h4
   refine ⟨v,hv,λm renv hr=>?_⟩
   obtain ⟨cs,q1,rv,hrun,hrel⟩:=H m _ (hx.of hr (by rw [ho];simp [Op.operands]))
   have q2:ev renv i=.int (kd k) (n:Int):=hi.of hr (by rw [ho];simp [Op.operands])
   have he:execOp (ev renv) o=(do pure (.value (← Instr.index t (ev renv x) (ev renv i)))):=by unfold execOp;rw [ho]
   refine t6 he (λw=>?_) hrel
   have hrun:∀ w,(part el cs (n * inf.size)).run P w=.ok rv w:=by rw [←hsz];exact hrun
   have hb2:n<len:=hn
   simp [Instr.index,run_underlying hu,q1,q2,asIntOf,hb2,Eng.run_sizeOf hinf,hrun]
  ·exact h.elim
 ·rename_i hu
  split at h
  ·rename_i b
   rw [aP,cU] at h
   obtain ⟨vi,h2,hi⟩:=bE h
   obtain ⟨k,n,rfl,h3⟩:=oY h2
   unfold E0 at h3
   split at h3
   ·rename_i y hy
    have h4:=dF.1 h3
    refine ⟨_,h4,λm renv hr=>?_⟩
    have q2:ev renv i=.int (kd k) (n:Int):=hi.of hr (by rw [ho];simp [Op.operands])
    have he:execOp (ev renv) o=(do pure (.value (← Instr.index t (.string b) (ev renv i)))):=by unfold execOp;rw [ho];rfl
    refine t6 he (rv:=.int .u8 (y.toNat:Int)) (λw=>?_) rfl
    simp [Instr.index,run_underlying hu,q2,asIntOf,hy]
   ·exact h3.elim
  ·exact h.elim
 ·exact h.elim
theorem uO:∀ {i:Nat} {l:List V} {K:V→Prop},(nthC i).go l K→∃ v,l[i]?=some v∧K v
 | 0,l,K,h=>by
  cases l with
  |nil=>exact h.elim
  |cons v t=>exact ⟨v,rfl,h⟩
 |i+1,l,K,h=>by
  have h1:((nthC i).bind λh=>⟨λl K=>@List.rec V (λ_=>Prop) False (λ_ t _=>h t K) l⟩:Bx (List V→(V→Prop)→Prop)).go l K:=h
  rw [aP,cU] at h1
  cases l with
  |nil=>exact h1.elim
  |cons v t=>
   obtain ⟨u,hu,hk⟩:=uO (show (nthC i).go t K from h1)
   exact ⟨u,by simpa using hu,hk⟩
theorem All2.get {α β:Type} {R:α→β→Prop}:∀ {xs:List α} {ys:List β} {i:Nat} {x:α},All2 R xs ys→xs[i]?=some x→∃ y,ys[i]?=some y∧R x y
 | [],[],_,_,_,h=>by simp at h
 |a::_,b::_,0,_,h,hx=>by simp at hx;subst hx;exact ⟨b,rfl,h.1⟩
 | _::_,_::_,i+1,_,h,hx=>by
  obtain ⟨y,hy,hr⟩:=All2.get h.2 (by simpa using hx)
  exact ⟨y,by simpa using hy,hr⟩
theorem vS {x:Operand} {i:Nat} (ho:o.op=.extract x i) (h:((evC e x).bind λg=>(nthC i).bind λh=>⟨λenv K=>g env λx=>onT x λvs=>h vs K⟩:Bx (PuR e)).go env K):∃ v,K v∧j0 P e env o v:=by
 rw [aP,aP,cU] at h
 obtain ⟨vx,h1,hx⟩:=bE h
 obtain ⟨vs,rfl,h2⟩:=Ee h1
 obtain ⟨v,hv,hk⟩:=uO h2
 refine ⟨v,hk,λm renv hr=>?_⟩
 obtain ⟨rs,q1,hall⟩:=hx.of hr (by rw [ho];simp [Op.operands])
 obtain ⟨r,hr1,hr2⟩:=hall.get hv
 have he:execOp (ev renv) o=(do pure (.value (← Instr.extract (ev renv x) i))):=by unfold execOp;rw [ho]
 refine t6 (rv:=r) he (λw=>?_) hr2.vr
 rw [q1]
 simp [Instr.extract,hr1]
theorem oZ:∀ {vs:List V} {X:List Ptr→Prop},wN vs X→∃ l,X l∧∀ m rs,All2 (VR m) vs rs→All2 (PR m) l rs
 | [],X,h=>⟨[],h,λm rs hr=>by cases rs with
  |nil=>trivial
  |cons _ _=>exact hr.elim⟩
 |v::vs,X,h=>by
  unfold wN at h
  split at h
  ·rename_i heq;cases heq
  ·rename_i vs' heq
   simp only [List.cons.injEq] at heq
   obtain ⟨rfl,rfl⟩:=heq
   obtain ⟨l,hl,H⟩:=oZ h
   refine ⟨_,hl,λm rs hr=>?_⟩
   cases rs with
   |nil=>exact hr.elim
   |cons r rs=>exact ⟨hr.1,H m rs hr.2⟩
  ·rename_i ob off vs' heq
   simp only [List.cons.injEq] at heq
   obtain ⟨rfl,rfl⟩:=heq
   obtain ⟨l,hl,H⟩:=oZ h
   refine ⟨_,hl,λm rs hr=>?_⟩
   cases rs with
   |nil=>exact hr.elim
   |cons r rs=>exact ⟨hr.1,H m rs hr.2⟩
  ·exact h.elim
theorem Bi {α β:Type} (f:α→β) (a:Array α):a.map f=(a.toList.map f).toArray:=by
 apply Array.ext'
 simp
theorem ux {fn:Fn} {fs cs:Array Operand} (ho:o.op=.makeFunc fn fs cs)
  (h:((evsC e fs.toList).bind λf=>(evsC e cs.toList).bind λc=>⟨λenv K=>f env λfs=>c env λcs=>wN fs λfs=>wN cs λcs=>K (.c (.f fn fs cs))⟩:Bx (PuR e)).go env K):∃ v,K v∧j0 P e env o v:=by
 rw [aP,aP,cU] at h
 obtain ⟨vf,h1,hf⟩:=ir h
 obtain ⟨vc,h2,hc⟩:=ir h1
 obtain ⟨lf,h3,Hf⟩:=oZ h2
 obtain ⟨lc,h4,Hc⟩:=oZ h3
 refine ⟨_,h4,λm renv hr=>⟨.func fn (fs.map (ev renv)) (cs.map (ev renv)),λw=>?_,fs.toList.map (ev renv),cs.toList.map (ev renv),?_,?_,?_⟩⟩
 ·unfold execOp;rw [ho];rfl
 ·rw [Bi,Bi]
 ·exact Hf m _ (kZ.all hr hf (by rw [ho];intro x hx;simp [Op.operands];exact .inl (by simpa using hx)))
 ·exact Hc m _ (kZ.all hr hc (by rw [ho];intro x hx;simp [Op.operands];exact .inr (by simpa using hx)))
def oA (place:Nat→Option (Nat×Nat)):List Value→List (Nat×Value)→Option (List Value)
 |cs,[]=>some cs
 |cs,(i,v)::rest=>match place i with
  |none=>none
  |some (off,size)=>if v.cells.size≠size || off+v.cells.size>cs.length then none else oA place (splice cs off v.cells.toList) rest
where
 splice (cs:List Value) (i:Nat):List Value→List Value
  | []=>cs
  |v::vs=>splice (cs.set i v) (i+1) vs
theorem ti (off:Nat):∀ (vs:List Value) (cs:Array Value) (k:Nat),(vs.zipIdx k).foldl (λcs (p:Value×Nat)=>cs.setIfInBounds (off+p.2) p.1) cs=(oA.splice cs.toList (off+k) vs).toArray
 | [],cs,k=>by simp [oA.splice]
 |v::vs,cs,k=>by
  rw [List.zipIdx_cons,List.foldl_cons,ti off vs]
  simp [oA.splice,Nat.add_assoc]
theorem yn (place:Nat→Option (Nat×Nat)):∀ (ps:List (Nat×Value)) (cs:Array Value),Instr.fill place cs ps=(oA place cs.toList ps).map List.toArray
 | [],cs=>by simp [Instr.fill,oA]
 | (i,v)::rest,cs=>by
  unfold Instr.fill oA
  cases hp:place i with
  |none=>rfl
  |some q=>
   obtain ⟨off,size⟩:=q
   simp only [Array.length_toList]
   by_cases hc:(v.cells.size≠size || off+v.cells.size>cs.size)=true
   ·rw [if_pos hc,if_pos hc];rfl
   ·rw [if_neg hc,if_neg hc,yn place rest]
    have:=ti off v.cells.toList cs 0
    congr 2
    have e:Array.foldl (λcs x=>match x with | (c,j)=>cs.setIfInBounds (off+j) c) cs v.cells.zipIdx=(oA.splice cs.toList (off+0) v.cells.toList).toArray:=by
     rw [←this,←Array.foldl_toList]
     simp
    rw [e]
    simp
theorem length_splice:∀ (vs cs:List Value) (i:Nat),(oA.splice cs i vs).length=cs.length
 | [],_,_=>rfl
 |v::vs,cs,i=>by unfold oA.splice;rw [length_splice];simp
theorem qC:∀ (vs cs:List Value) (i j:Nat),i+vs.length≤cs.length→(oA.splice cs i vs)[j]?=if i≤j∧j<i+vs.length then vs[j - i]? else cs[j]?
 | [],cs,i,j,_=>by unfold oA.splice;rw [if_neg (by simp only [List.length_nil];omega)]
 |v::vs,cs,i,j,h=>by
  simp only [List.length_cons] at h
  unfold oA.splice
  rw [qC vs _ _ _ (by simp;omega)]
  by_cases h1:i+1≤j∧j<i+1+vs.length
  ·rw [if_pos h1,if_pos (by simp;omega),show j - i=(j - (i+1))+1 by omega,List.getElem?_cons_succ]
  ·rw [if_neg h1,List.getElem?_set]
   by_cases h2:i=j
   ·subst h2;rw [if_pos rfl,if_pos (by omega),if_pos (by simp)];simp
   ·rw [if_neg h2,if_neg (by simp;omega)]
theorem qD {dp n:Nat} {place:Nat→Option (Nat×Nat)}:∀ {ps:List (Nat×Operand)} {d:Lv C dp} {X:Lv C dp→Prop},(layC e dp n place ps).go env d X→
  ∃ d',X d'∧∀ m renv os (cs:List Value),OpsR m e env renv os→(∀ p ∈ ps,p.2 ∈ os)→n≤cs.length→TR m dp d 0 cs→
   ∃ cs',oA place cs (ps.map λp=>(p.1,ev renv p.2))=some cs'∧cs'.length=cs.length∧TR m dp d' 0 cs'
 | [],d,X,h=>⟨d,h,λm renv os cs _ _ _ ht=>⟨cs,rfl,rfl,ht⟩⟩
 | (i,x)::ps,d,X,h=>by
  have h0:(match place i with
   |some r=>match Nat.ble (Nat.add r.1 r.2) n with
    |true=>(evC e x).bind λg=>(layC e dp n place ps).bind λh=>fNB r.1 λq=>fNB r.2 λs=>⟨λenv d K=>g env λv=>
    @V.rec (λ_=>Prop) (λ_=>PUnit) (λc=>iff (stC c) (iff (Nat.beq s 1) ((setC dp q).go d c λd=>h env d K) False) False) (λdp' d' o n=>iff (Nat.beq n s) (vI dp' d' dp n o q d λd=>h env d K) False) fT ⟨⟩ fL v⟩
    |false=>⟨λ_ _ _=>False⟩
   |none=>⟨λ_ _ _=>False⟩:Bx (Env e→Lv C dp→(Lv C dp→Prop)→Prop)).go env d X:=h
  cases hp:place i with
  |none=>rw [hp] at h0;exact h0.elim
  |some r=>
   obtain ⟨off,s⟩:=r
   rw [hp] at h0
   have h0:(match Nat.ble (off+s) n with
    |true=>(evC e x).bind λg=>(layC e dp n place ps).bind λh=>fNB off λq=>fNB s λs=>⟨λenv d K=>g env λv=>
     @V.rec (λ_=>Prop) (λ_=>PUnit) (λc=>iff (stC c) (iff (Nat.beq s 1) ((setC dp q).go d c λd=>h env d K) False) False) (λdp' d' o n=>iff (Nat.beq n s) (vI dp' d' dp n o q d λd=>h env d K) False) fT ⟨⟩ fL v⟩
    |false=>⟨λ_ _ _=>False⟩:Bx (Env e→Lv C dp→(Lv C dp→Prop)→Prop)).go env d X:=h0
   cases hble:Nat.ble (off+s) n with
   |false=>rw [hble] at h0;exact h0.elim
   |true=>
   rw [hble] at h0
   have hble:=cB hble
   simp only [aP,iJ,cU] at h0
   obtain ⟨v,h1,hv⟩:=bE h0
   cases v with
   |t vs=>exact h1.elim
   |c c=>
    obtain ⟨hst,h2⟩:=cL h1
    obtain ⟨hs,h3⟩:=cL h2
    have hs:=beq_eq hs
    subst hs
    rw [qu] at h3
    obtain ⟨d',hd',H⟩:=qD h3
    refine ⟨d',hd',λm renv os cs hr hin hpl ht=>?_⟩
    have hrel:CR m c (ev renv x):=hv.of hr (hin (i,x) (by simp))
    have hsing:=oz hrel hst
    have hcl:(ev renv x).cells=#[ev renv x]:=by revert hsing;cases ev renv x<;>simp [single,Value.cells]
    have hb:off+1≤cs.length:=Nat.le_trans hble hpl
    have ht1:=ht.1
    obtain ⟨cs',e1,e2,e3⟩:=H m renv os (cs.set off (ev renv x)) hr (λp hp=>hin p (by simp [hp])) (by rw [List.length_set];exact hpl)
     ⟨by rw [List.length_set];exact ht1,λj u hj=>by
      have hjl:j<cs.length:=by
       rcases Nat.lt_or_ge j cs.length with h | h
       ·exact h
       ·rw [List.getElem?_eq_none (by simpa using h)] at hj;cases hj
      rw [Nat.zero_add,dZ _ _ _ _ _ (by omega) (by omega)]
      rw [List.getElem?_set] at hj
      by_cases hjo:off=j
      ·subst hjo
       rw [if_pos rfl,if_pos hjl] at hj
       simp only [Option.some.injEq] at hj
       subst hj
       rw [if_pos rfl]
       exact ⟨hrel,hst⟩
      ·rw [if_neg hjo] at hj
       rw [if_neg (λe=>hjo e.symm)]
       have:=ht.2 j u hj
       rw [Nat.zero_add] at this
       exact this⟩
    refine ⟨cs',?_,by rw [e2,List.length_set],e3⟩
    simp only [List.map_cons,oA,hp,hcl]
    have hn:¬ (((#[ev renv x]:Array Value).size≠1 || off+(#[ev renv x]:Array Value).size>cs.length)=true):=by simp;omega
    rw [if_neg (by simpa using hn)]
    exact e1
   |a dp' dd o n'=>
    obtain ⟨hs,h2⟩:=cL h1
    have hs:=beq_eq hs
    subst hs
    rw [oy] at h2
    obtain ⟨d',hd',H⟩:=qD h2
    refine ⟨d',hd',λm renv os cs hr hin hpl ht=>?_⟩
    obtain ⟨vs,hvs,hvl,hvt⟩:=hv.of hr (hin (i,x) (by simp))
    have hb:off+n'≤cs.length:=Nat.le_trans hble hpl
    have ht1:=ht.1
    obtain ⟨cs',e1,e2,e3⟩:=H m renv os (oA.splice cs off vs) hr (λp hp=>hin p (by simp [hp])) (by rw [length_splice];exact hpl)
     ⟨by rw [length_splice];exact ht1,λj u hj=>by
      have hjl:j<cs.length:=by
       rcases Nat.lt_or_ge j cs.length with h | h
       ·exact h
       ·rw [List.getElem?_eq_none (by rw [length_splice];exact h)] at hj;cases hj
      rw [Nat.zero_add,lK _ _ _ _ _ _ _ _ (by omega) (by omega)]
      rw [qC _ _ _ _ (by omega),hvl] at hj
      by_cases hjo:off≤j∧j<off+n'
      ·rw [if_pos hjo] at hj ⊢
       exact hvt.2 _ _ hj
      ·rw [if_neg hjo] at hj ⊢
       have:=ht.2 j u hj
       rw [Nat.zero_add] at this
       exact this⟩
    refine ⟨cs',?_,by rw [e2,length_splice],e3⟩
    have hcl:(ev renv x).cells=vs.toArray:=by rw [hvs];rfl
    simp only [List.map_cons,oA,hp,hcl]
    have hn:¬ ((vs.toArray.size≠n' || off+vs.toArray.size>cs.length)=true):=by simp;omega
    rw [if_neg (by simpa using hn)]
    exact e1
theorem vT {t:TypeId} {fs:Array Field} (hu:P.underlying t=some (.struct fs)) (i:Nat):t5 P t i=(fs[i]?).map λf=>(f.offset,szT P f.type):=by
 unfold t5
 rw [hu]
 cases h:fs[i]?<;>simp [h]
theorem ub (w:World):∀ (fs:List Field),(∀ f ∈ fs,∃ i,P.info? f.type=some i)→(fs.mapM λf=>Prod.mk f.offset <$> sizeOf f.type).run P w=.ok (fs.map λf=>(f.offset,szT P f.type)) w
 | [],_=>rfl
 |f::fs,h=>by
  obtain ⟨i,hi⟩:=h f (by simp)
  have hs:szT P f.type=i.size:=by unfold szT;rw [hi]
  simp [List.mapM_cons,Eng.run_sizeOf hi,hs,ub w fs λf hf=>h f (by simp [hf])]
theorem wZ (m:Mp) {t:TypeId} {z:Value} (h1:m4 P t=z.cells.toList.map cv1) (h2:z.cells.toList.all (λv=>stC (cv1 v))=true) {n:Nat} (hz:z.cells.size=n) (hn:n≤16384):TR m (dpN n) (tr (dpN n) (m4 P t)) 0 z.cells.toList:=by
 rw [h1]
 exact Bd m h2 (by rw [Array.length_toList,hz];exact lj hn)
theorem yo {t:TypeId} {parts:Array (Nat×Operand)} (ho:o.op=.build t parts) (h:(x9 P e t parts).go env K):∃ v,K v∧j0 P e env o v:=by
 unfold x9 at h
 split at h
 ·rename_i hok
  simp only [Bool.and_eq_true] at hok
  obtain ⟨hok,hB⟩:=hok
  obtain ⟨inf,z,hinf,hz,hsz,hzs,hpos,hmax,hz1,hz2⟩:=gE hok
  simp only [AW,iJ,aP,cU] at h
  rw [hsz] at h
  obtain ⟨d,hd,H⟩:=qD h
  refine ⟨_,hd,λm renv hr=>?_⟩
  have ht:=wZ (P:=P) m hz1 hz2 hzs hmax
  have hin:∀ p ∈ parts.toList,p.2 ∈ o.op.operands.toList:=by
   rw [ho]
   intro p hp
   simp only [Op.operands,List.mem_map]
   exact ⟨p,hp,rfl⟩
  have he:execOp (ev renv) o=(do pure (.value (← Instr.build t (parts.map λ(i,x)=>(i,ev renv x))))):=by unfold execOp;rw [ho]
  obtain ⟨cs',e1,e2,e3⟩:=H m renv _ z.cells.toList hr hin (by rw [Array.length_toList,hzs];exact Nat.le_refl _) ht
  have hparts:(parts.map λ(i,x)=>(i,ev renv x)).toList=parts.toList.map λp=>(p.1,ev renv p.2):=by simp
  have hlen:cs'.length=inf.size:=by rw [e2,Array.length_toList,hzs]
  refine t6 (rv:=.agg cs'.toArray) he (λw=>?_) ⟨cs',rfl,hlen,e3⟩
  have hfill:=yn (t5 P t) (parts.toList.map λp=>(p.1,ev renv p.2)) z.cells
  rw [e1] at hfill
  unfold okB at hB
  split at hB
  ·rename_i fs hu
   have hinfo:∀ f ∈ fs.toList,∃ i,P.info? f.type=some i:=λf hf=>Option.isSome_iff_exists.1 (List.all_eq_true.1 hB f hf)
   simp [Instr.build,run_underlying hu,typeInfo,zeroValue,hinf,hz,Array.mapM_eq_mapM_toList,ub w _ hinfo]
   have e9:(λx=>Option.map (λf=>(f.offset,szT P f.type)) fs[x]?)=t5 P t:=by
    funext i
    rw [vT hu]
   rw [e9,hfill]
   rfl
  ·rename_i len el hu
   obtain ⟨ie,hie⟩:=Option.isSome_iff_exists.1 hB
   have hse:szT P el=ie.size:=by unfold szT;rw [hie]
   simp [Instr.build,run_underlying hu,typeInfo,zeroValue,hinf,hz,Eng.run_sizeOf hie]
   have e9:(λi=>some (i * ie.size,ie.size))=t5 P t:=by
    funext i
    unfold t5
    rw [hu]
    show _=some (i.mul (szT P el),szT P el)
    rw [hse]
    rfl
   rw [e9,hfill]
   rfl
  ·cases hB
 ·exact h.elim
theorem CH {x:V} (h:lenS x K):(x=.c .ns∧K (.c (.i 3 0)))∨(x=.c .es∧K (.c (.i 3 0)))∨∃ ob off len sz c,x=.c (.s ob off len sz c)∧K (.c (.i 3 (len:Int))):=nN h
theorem uc (mx:Bool) {k:Nat}:∀ {l:List V} {acc:Int} {K:V→Prop},D6 mx k l acc K→∃ n,K (.c (.i k n))∧∀ m rs,All2 (VR m) l rs→
  ∀ w,(rs.foldlM (if mx then Builtin.max2 else Builtin.min2) (.int (kd k) acc)).run P w=.ok (.int (kd k) n) w
 | [],acc,K,h=>⟨acc,yg h,λm rs hr w=>by cases rs with
  |nil=>rfl
  |cons _ _=>exact hr.elim⟩
 |v::l,acc,K,h=>by
  obtain ⟨j,n,rfl,h1⟩:=qw (show onI v _ from h)
  obtain ⟨r,hr,H⟩:=uc mx h1
  refine ⟨r,hr,λm rs hr w=>?_⟩
  cases rs with
  |nil=>exact hr.elim
  |cons q rs=>
   have hq:q=.int (kd j) n:=hr.1
   subst hq
   rw [List.foldlM_cons,Sem.run_bind]
   have key:((if mx then Builtin.max2 else Builtin.min2) (.int (kd k) acc) (.int (kd j) n)).run P w=.ok (.int (kd k) (@Bool.rec (λ_=>Int) (@Bool.rec (λ_=>Int) n acc (leI acc n)) (@Bool.rec (λ_=>Int) acc n (leI acc n)) mx)) w:=by
    rw [wT]
    cases mx<;>by_cases hle:acc≤n<;>simp [Builtin.max2,Builtin.min2,hle]<;>omega
   rw [key]
   exact H m rs hr.2 w
theorem y9 {c:Call} {b:Builtin} {renv:List Value} {s:Sem Value} {rv:Value} {m:Mp} {v:V} (ho:o.op=.call c) (hc:c.callee=.builtin b)
  (hb:∀ cs,builtin b c.argTypes o.type cs (c.args.map (ev renv))=(do pure (.value (← s)))) (hr:∀ w,s.run P w=.ok rv w) (h:VR m v rv):∃ rv,(∀ w,(execOp (ev renv) o).run P w=.ok (.value rv) w)∧VR m v rv:=by
 refine ⟨rv,λw=>?_,h⟩
 unfold execOp
 rw [ho]
 simp only [resolve,hc,pure_bind,invoke,hb]
 rw [Sem.run_bind,hr]
 rfl
theorem za {c:Call} {b:Builtin} (mx:Bool) (hb:b=if mx then .max else .min) (ho:o.op=.call c) (hc:c.callee=.builtin b)
  (h:((evsC e c.args.toList).bind λg=>⟨λenv K=>g env λl=>mmK mx l K⟩:Bx (PuR e)).go env K):∃ v,K v∧j0 P e env o v:=by
 rw [aP,cU] at h
 obtain ⟨vs,h1,hv⟩:=ir h
 cases vs with
 |nil=>exact h1.elim
 |cons x rest=>
  obtain ⟨k,n,rfl,h2⟩:=qw (show onI x _ from h1)
  obtain ⟨r,hr,H⟩:=uc (P:=P) mx h2
  refine ⟨_,hr,λm renv hR=>?_⟩
  have hall:=kZ.all hR hv (by rw [ho];intro x hx;simp only [Op.operands,Call.operands,hc];simpa using hx)
  have harr:(c.args.map (ev renv)).toList=c.args.toList.map (ev renv):=by simp
  cases hl:c.args.toList.map (ev renv) with
  |nil=>rw [hl] at hall;exact hall.elim
  |cons q rs=>
   rw [hl] at hall harr
   have hq:q=.int (kd k) n:=hall.1
   subst hq
   cases mx with
   |true=>
    subst hb
    refine y9 ho hc (s:=Builtin.max_ c.argTypes o.type (c.args.map (ev renv))) (rv:=.int (kd k) r) (λ_=>rfl) (λw=>?_) rfl
    unfold Builtin.max_
    rw [harr]
    exact H m rs hall.2 w
   |false=>
    subst hb
    refine y9 ho hc (s:=Builtin.min_ c.argTypes o.type (c.args.map (ev renv))) (rv:=.int (kd k) r) (λ_=>rfl) (λw=>?_) rfl
    unfold Builtin.min_
    rw [harr]
    exact H m rs hall.2 w
theorem zR {c:Call} (ho:o.op=.call c) (h:(AX P e c).go env K):∃ v,K v∧j0 P e env o v:=by
 unfold AX at h
 split at h
 ·rename_i hc
  split at h
  ·rename_i t ts hts
   split at h
   ·rename_i el hu
    rw [aP,cU] at h
    obtain ⟨vs,h1,hv⟩:=ir h
    obtain ⟨x,rfl,h2⟩:=vN h1
    have run:∀ m renv,OpsR m e env renv o.op.operands.toList→∃ rx,VR m x rx∧c.args.map (ev renv)=#[rx]:=by
     intro m renv hR
     have hall:=kZ.all hR hv (by rw [ho];intro x hx;simp only [Op.operands,Call.operands,hc];simpa using hx)
     cases hl:c.args.toList.map (ev renv) with
     |nil=>rw [hl] at hall;exact hall.elim
     |cons q rs=>cases rs with
      |nil=>
       rw [hl] at hall
       refine ⟨q,hall.1,?_⟩
       apply Array.ext'
       simpa using hl
      |cons _ _=>rw [hl] at hall;exact hall.2.elim
    have hty:c.argTypes[0]?=some t:=by rw [←Array.getElem?_toList,hts];rfl
    have fin:∀ (v:V) (n:Nat),(∀ m rx,VR m x rx→∃ a cap,rx=.slice a n cap)→v=.c (.i 3 (n:Int))→j0 P e env o v:=by
     intro v n hx hv m renv hR
     obtain ⟨rx,hrel,harr⟩:=run m renv hR
     obtain ⟨a,cap,rfl⟩:=hx m rx hrel
     refine y9 ho hc (s:=Builtin.len_ c.argTypes o.type (c.args.map (ev renv))) (rv:=.int .i64 n) (λ_=>rfl) (λw=>?_) (by subst hv;rfl)
     rw [harr]
     simp [Builtin.len_,hty,run_underlying hu,goInt]
    rcases CH h2 with ⟨rfl,hk⟩ | ⟨rfl,hk⟩ | ⟨ob,off,len,sz,cc,rfl,hk⟩
    ·exact ⟨_,hk,fin _ 0 (λm rx hr=>⟨none,0,hr⟩) rfl⟩
    ·exact ⟨_,hk,fin _ 0 (λm rx hr=>by obtain ⟨a,cap,rfl⟩:=hr;exact ⟨_,_,rfl⟩) rfl⟩
    ·exact ⟨_,hk,fin _ len (λm rx hr=>by obtain ⟨b,N,cap,_,rfl,_⟩:=hr;exact ⟨_,_,rfl⟩) rfl⟩
   ·exact h.elim
  ·exact h.elim
 ·rename_i hc
  split at h
  ·rename_i t ts hts
   split at h
   ·rename_i el hu
    rw [aP,cU] at h
    obtain ⟨vs,h1,hv⟩:=ir h
    obtain ⟨x,rfl,h2⟩:=vN h1
    have run:∀ m renv,OpsR m e env renv o.op.operands.toList→∃ rx,VR m x rx∧c.args.map (ev renv)=#[rx]:=by
     intro m renv hR
     have hall:=kZ.all hR hv (by rw [ho];intro x hx;simp only [Op.operands,Call.operands,hc];simpa using hx)
     cases hl:c.args.toList.map (ev renv) with
     |nil=>rw [hl] at hall;exact hall.elim
     |cons q rs=>cases rs with
      |nil=>
       rw [hl] at hall
       refine ⟨q,hall.1,?_⟩
       apply Array.ext'
       simpa using hl
      |cons _ _=>rw [hl] at hall;exact hall.2.elim
    have hty:c.argTypes[0]?=some t:=by rw [←Array.getElem?_toList,hts];rfl
    have fin:∀ (v:V) (n:Nat),(∀ m rx,VR m x rx→∃ a len,rx=.slice a len n)→v=.c (.i 3 (n:Int))→j0 P e env o v:=by
     intro v n hx hv m renv hR
     obtain ⟨rx,hrel,harr⟩:=run m renv hR
     obtain ⟨a,len,rfl⟩:=hx m rx hrel
     refine y9 ho hc (s:=Builtin.cap_ c.argTypes o.type (c.args.map (ev renv))) (rv:=.int .i64 n) (λ_=>rfl) (λw=>?_) (by subst hv;rfl)
     rw [harr]
     simp [Builtin.cap_,hty,run_underlying hu,goInt]
    rcases nN h2 with ⟨rfl,hk⟩ | ⟨rfl,hk⟩ | ⟨ob,off,len,sz,cc,rfl,hk⟩
    ·exact ⟨_,hk,fin _ 0 (λm rx hr=>⟨none,0,hr⟩) rfl⟩
    ·exact hk.elim
    ·split at hk
     ·rename_i k
      exact ⟨_,hk,fin _ k (λm rx hr=>by obtain ⟨b,N,cap,_,rfl,_,hc⟩:=hr;exact ⟨_,_,by rw [show cap=k from hc]⟩) rfl⟩
     ·exact hk.elim
   ·exact h.elim
  ·exact h.elim
 ·rename_i hc;exact za false rfl ho hc h
 ·rename_i hc;exact za true rfl ho hc h
 ·exact h.elim
theorem ud (h:(zL P e o.op).go env K):∃ v,K v∧j0 P e env o v:=by
 unfold zL at h
 split at h
 ·rename_i ho;exact zO ho h
 ·rename_i ho;exact wS ho h
 ·rename_i ho;rw [aP,aP,aP,cU] at h;exact zP ho h
 ·rename_i ho;exact yo ho h
 ·rename_i ho;rw [aP,cU] at h;exact Be ho h
 ·rename_i ho;rw [aP,aP,aP,cU] at h;exact yi ho h
 ·rename_i ho;rw [aP,aP,cU] at h;exact zQ ho h
 ·rename_i ho;rw [aP,aP,cU] at h;exact vQ ho h
 ·rename_i ho;exact ux ho h
 ·rename_i ho;exact yk ho h
 ·rename_i ho;exact t9 ho h
 ·rename_i ho;exact yl ho h
 ·rename_i ho;exact t8 ho h
 ·rename_i ho;exact ym ho h
 ·rename_i ho;exact vS ho h
 ·rename_i ho;exact zR ho h
 ·exact h.elim
end
end Go.Mx
namespace Go.Mx
open Go.Eng
structure Bs where
 w:World
 M:Nat→Prop
def spR (m:Mp) (w:World) (H:Hp) (o b:Nat):Prop:=
 (lget 7 H.t o=.mp∧∃ c,w.heap[b]?=some (.map #[] c))∨
 (∃ q b' N' c s l,lget 7 H.t o=.it q∧m q=some (b',N')∧w.heap[b']?=some (.map #[] c)∧w.heap[b]?=some (.mapIter (some b') s #[] l))∨
 (lget 7 H.t o≠.mp∧(∀ q,lget 7 H.t o≠.it q)∧∃ cs T,Blk w b cs T)
theorem spR.lt {m:Mp} {w:World} {H:Hp} {o b:Nat} (h:spR m w H o b):b<w.heap.size:=by
 rcases h with ⟨_,c,h⟩ | ⟨_,_,_,_,_,_,_,_,_,h⟩ | ⟨_,_,cs,T,h⟩
 ·exact (Array.getElem?_eq_some_iff.1 h).1
 ·exact (Array.getElem?_eq_some_iff.1 h).1
 ·exact h.lt
theorem spR.keep {m m':Mp} {w w':World} {H H':Hp} {o b:Nat} {M:Nat→Prop} (h:spR m w H o b) (hk:Keep M w w') (hM:∀ k,k<w.heap.size→M k→∃ cs T,Blk w k cs T) (hM':∀ k,M k→∃ cs T,Blk w' k cs T) (hm:Le m m') (he:lget 7 H'.t o=lget 7 H.t o):spR m' w' H' o b:=by
 have same:∀ {k:Nat} {ob:Obj},w.heap[k]?=some ob→(∀ cs T f,ob≠.cells cs T f)→w'.heap[k]?=some ob:=by
  intro k ob hkk hne
  have hlt:=(Array.getElem?_eq_some_iff.1 hkk).1
  refine (hk.block k hlt λhMk=>?_).trans hkk
  obtain ⟨cs,T,hb⟩:=hM k hlt hMk
  rw [show w.heap[k]?=_ from hb] at hkk
  cases hkk
  exact hne _ _ _ rfl
 rcases h with ⟨h1,c,h2⟩ | ⟨q,b',N',c,s,l,h1,h2,h3,h4⟩ | ⟨h1,h2,cs,T,h3⟩
 ·exact .inl ⟨he.trans h1,c,same h2 (λ_ _ _ e=>by cases e)⟩
 ·exact .inr (.inl ⟨q,b',N',c,s,l,he.trans h1,hm _ _ h2,same h3 (λ_ _ _ e=>by cases e),same h4 (λ_ _ _ e=>by cases e)⟩)
 ·refine .inr (.inr ⟨λe=>h1 (he▸e),λq e=>h2 q (he▸e),?_⟩)
  by_cases hb:M b
  ·exact hM' b hb
  ·exact ⟨cs,T,hk.blk h3 hb⟩
structure HR (m:Mp) (B:Bs) (w:World) (H:Hp):Prop where
 size:B.w.heap.size≤w.heap.size
 lim:H.next≤16384
 unm:∀ o,H.next≤o→m o=none
 dead:∀ o,H.next≤o→o<16384→lget 7 H.t o=.dead
 blk:∀ o b N,m o=some (b,N)→(B.w.heap.size≤b∨B.M b)∧spR m w H o b
 ob:∀ o wr n dp d b N,lget 7 H.t o=.ob wr n dp d→m o=some (b,N)→∃ cs T,Blk w b cs T∧cs.length=N∧n≤N∧n≤4 ^ dp∧TR m dp d 0 (cs.take n)
 inj:∀ o o' wr n dp d wr' n' dp' d' b N N',lget 7 H.t o=.ob wr n dp d→lget 7 H.t o'=.ob wr' n' dp' d'→m o=some (b,N)→m o'=some (b,N')→o=o'
def Gh (m m':Mp) (H H':Hp):Prop:=H.next≤H'.next∧∀ o,o<H.next→m o=none→m' o=none∧lget 7 H'.t o=lget 7 H.t o
theorem Gh.refl (m:Mp) (H:Hp):Gh m m H H:=⟨Nat.le_refl _,λ_ _ h=>⟨h,rfl⟩⟩
theorem Gh.trans {a b c:Mp} {x y z:Hp} (h:Gh a b x y) (k:Gh b c y z):Gh a c x z:=
 ⟨Nat.le_trans h.1 k.1,λo ho hn=>by
  obtain ⟨h1,h2⟩:=h.2 o ho hn
  obtain ⟨k1,k2⟩:=k.2 o (Nat.lt_of_lt_of_le ho h.1) h1
  exact ⟨k1,k2.trans h2⟩⟩
theorem HR.bl {m:Mp} {B:Bs} {w:World} {H:Hp} (h:HR m B w H) {o b N:Nat} (hm:m o=some (b,N)):b<w.heap.size:=by
 exact (h.blk _ _ _ hm).2.lt
theorem HR.lt {m:Mp} {B:Bs} {w:World} {H:Hp} (h:HR m B w H) {o:Nat} {p:Nat×Nat} (hm:m o=some p):o<H.next:=by
 rcases Nat.lt_or_ge o H.next with h1 | h1
 ·exact h1
 ·rw [h.unm o h1] at hm;cases hm
theorem Ei {P:Program} {t:TypeId} {d:TypeDesc} (h:P.underlying t=some d):∃ i,P.info? t=some i:=by
 cases hi:P.info? t with
 |some i=>exact ⟨i,rfl⟩
 |none=>simp [Program.underlying,hi] at h
section
variable {P:Program} {e:Nat} {env:Env e} {o:Oper} {m:Mp} {B:Bs} {w:World} {H:Hp} {renv:List Value}
theorem TR.sub {dp:Nat} {d:Lv C dp} {off n:Nat} {cs:List Value} (h:TR m dp d 0 cs) (hn:off+n≤cs.length):TR m dp d off ((cs.drop off).take n):=by
 refine ⟨?_,λi u hi=>?_⟩
 ·have:=h.1
  simp;omega
 ·rw [List.getElem?_take] at hi
  split at hi
  ·rw [List.getElem?_drop] at hi
   have:=h.2 _ _ hi
   rw [Nat.zero_add] at this
   exact this
  ·cases hi
theorem xd {t:TypeId} {x:Operand} {K:V→Prop} (h:(ss P e t x).go env H K):∃ v ob wr n dp d,lget 7 H.t ob=.ob wr n dp d∧K v∧∀ H2 m B w renv,lget 7 H2.t ob=.ob wr n dp d→HR m B w H2→(∀ y,x=.tmp y→SlR m e env renv y)→∃ rv,(Instr.loadAt t (ev renv x)).run P w=.ok rv w∧VR m v rv:=by
 unfold ss at h
 split at h
 ·rename_i hu
  obtain ⟨dsc,hd⟩:=t7 hu
  split at h
  ·rename_i hagg
   have hagg:isAgg? P t=true:=hagg
   rw [aP,iJ,cU] at h
   obtain ⟨v,h1,hv⟩:=bE h
   obtain ⟨ob,off,rfl,h2⟩:=sw h1
   obtain ⟨wr,n,dp,d,hg,h3⟩:=sY h2
   obtain ⟨hle,h4⟩:=cL h3
   have hle:off+szT P t≤n:=cB hle
   refine ⟨_,ob,wr,n,dp,d,hg,h4,λH2 m B w renv hg2 hH hr=>?_⟩
   obtain ⟨b,N,hb,q1⟩:=hv m renv hr
   obtain ⟨cs,T,hblk,hcl,hnN,hdp,htr⟩:=hH.ob _ _ _ _ _ _ _ hg2 hb
   obtain ⟨inf,hinf⟩:=Ei hd
   have hsz:szT P t=inf.size:=by unfold szT;rw [hinf]
   have hlen:((cs.drop off).take inf.size).length=inf.size:=by simp;omega
   have hcells:aE w ⟨b,off,none⟩ 0 ((cs.drop off).take inf.size):=aH hblk (by rw [hlen])
   refine ⟨.agg ((cs.drop off).take inf.size).toArray,?_,(cs.drop off).take inf.size,rfl,by rw [hlen,hsz],?_⟩
   ·have hrun:=Eng.run_loadCellsFrom (P:=P) (acc:=#[]) hcells
    rw [hlen] at hrun
    simp [Instr.loadAt,q1,Instr.sureAddr,loadVar,gF hd,hagg,Eng.run_sizeOf hinf,loadCells,hrun]
   ·have:=htr.sub (off:=off) (n:=inf.size) (by simp;omega)
    rw [List.drop_take,List.take_take,show min inf.size (n - off)=inf.size by omega] at this
    exact this
  ·rename_i hagg
   have hagg:isAgg? P t=false:=hagg
   rw [aP,cU] at h
   obtain ⟨v,h1,hv⟩:=bE h
   obtain ⟨ob,off,rfl,h2⟩:=sw h1
   obtain ⟨wr,n,dp,d,hg,h3⟩:=sY h2
   obtain ⟨hle,h4⟩:=cL h3
   have hle:off+1≤n:=cB hle
   rw [nM] at h4
   refine ⟨_,ob,wr,n,dp,d,hg,h4,λH2 m B w renv hg2 hH hr=>?_⟩
   obtain ⟨b,N,hb,q1⟩:=hv m renv hr
   obtain ⟨cs,T,hblk,hcl,hnN,hdp,htr⟩:=hH.ob _ _ _ _ _ _ _ hg2 hb
   have hlt:off<cs.length:=by omega
   have hc:cs[off]?=some cs[off]:=List.getElem?_eq_getElem hlt
   have hcell:=hblk.cell hc
   refine ⟨cs[off],?_,?_⟩
   ·simp [Instr.loadAt,q1,Instr.sureAddr,loadVar,gF hd,hagg,hcell]
   ·have:=htr.2 off cs[off] (by rw [List.getElem?_take,if_pos (by omega)];exact hc)
    rw [Nat.zero_add] at this
    exact this.1
 ·exact h.elim
theorem ue {t:TypeId} {x:Operand} {K:V→Prop} (h:(ss P e t x).go env H K):∃ v,K v∧∀ m B w renv,HR m B w H→(∀ y,x=.tmp y→SlR m e env renv y)→∃ rv,(Instr.loadAt t (ev renv x)).run P w=.ok rv w∧VR m v rv:=by
 obtain ⟨v,ob,wr,n,dp,d,hg,hk,hl⟩:=xd h
 exact ⟨v,hk,λm B w renv=>hl H m B w renv hg⟩
def yp (P:Program) (e:Nat) (env:Env e) (o:Oper) (b:Ob) (f:Nat→V):Prop:=
 ∀ m renv,OpsR m e env renv o.op.operands.toList→∃ (arr:List Value) (T:TypeId) (rv:Nat→Value),(∀ w,(execOp (ev renv) o).run P w=.ok (.value (rv w.heap.size)) (w.alloc (.cells arr.toArray T)))∧
  (∃ n dp d,b=.ob true n dp d∧n=arr.length∧n≤4 ^ dp∧TR m dp d 0 arr)∧∀ m' k B,Le m m'→m' k=some (B,arr.length)→VR m' (f k) (rv B)
theorem zS {s:Sem Value} {rv:Nat→Value} {arr:List Value} {T:TypeId} (he:execOp (ev renv) o=(do pure (.value (← s)))) (hr:∀ w,s.run P w=.ok (rv w.heap.size) (w.alloc (.cells arr.toArray T))) :
  ∀ w,(execOp (ev renv) o).run P w=.ok (.value (rv w.heap.size)) (w.alloc (.cells arr.toArray T)):=by
 intro w
 rw [he,Sem.run_bind,hr]
 rfl
def ptrV (B:Nat):Value:=.pointer (some ⟨B,0,none⟩)
theorem yq {t:TypeId} {K:Ob→(Nat→V)→Prop} (ho:o.op=.alloc t) (hok:okT P t=true) (h:(AW P t λn dp d=>⟨λ_ K=>K (.ob true n dp d) λo=>.c (.p o 0)⟩:Bx (FlR e)).go env K):∃ b f,K b f∧yp P e env o b f:=by
 obtain ⟨inf,z,hinf,hz,hsz,hzs,hpos,hmax,hz1,hz2⟩:=gE hok
 simp only [AW,iJ,cU] at h
 rw [hsz] at h
 refine ⟨_,_,h,λm renv hr=>⟨z.cells.toList,t,ptrV,zS (rv:=ptrV) (s:=Instr.alloc t true (.tuple #[])) (by unfold execOp;rw [ho]) λw=>?_,⟨_,_,_,rfl,by rw [Array.length_toList,hzs],lj hmax,wZ m hz1 hz2 hzs hmax⟩,λm' k B hm hk=>⟨B,_,hk,rfl⟩⟩⟩
 rw [Array.toArray_toList]
 simp only [Instr.alloc,Sem.run_bind,zeroValue,Eng.run_typeInfo hinf,Result.andThen_ok,hz]
 rfl
theorem Bj {t:TypeId} {x:Operand} {K:Ob→(Nat→V)→Prop} (ho:o.op=.box t x) (h:(D7 P e t x).go env K):∃ b f,K b f∧yp P e env o b f:=by
 unfold D7 at h
 rw [aP,cU] at h
 obtain ⟨v,h1,hv⟩:=bE h
 have he:∀ renv,execOp (ev renv) o=(do pure (.value (← Instr.box t (ev renv x)))):=λrenv=>by unfold execOp;rw [ho]
 have hx:x ∈ o.op.operands.toList:=by rw [ho];simp [Op.operands]
 have run:∀ renv w,(Instr.box t (ev renv x)).run P w=.ok (ptrV w.heap.size) (w.alloc (.cells (ev renv x).cells.toList.toArray t)):=λrenv w=>by
  rw [Array.toArray_toList]
  rfl
 cases v with
 |t vs=>exact h1.elim
 |c c=>
  obtain ⟨hst,h2⟩:=cL h1
  refine ⟨_,_,h2,λm renv hr=>⟨(ev renv x).cells.toList,t,ptrV,zS (rv:=ptrV) (he renv) (run renv),?_,λm' k B hm hk=>⟨B,_,hk,rfl⟩⟩⟩
  have hrel:CR m c (ev renv x):=hv.of hr hx
  have hsing:=oz hrel hst
  have hcl:(ev renv x).cells.toList=[ev renv x]:=by revert hsing;cases ev renv x<;>simp [single,Value.cells]
  rw [hcl]
  refine ⟨1,0,c,rfl,rfl,Nat.le_refl _,Nat.le_refl _,λi u hi=>?_⟩
  cases i with
  |zero=>simp at hi;subst hi;exact ⟨hrel,hst⟩
  |succ i=>simp at hi
 |a dp d off sz=>
  have cells:∀ m renv,OpsR m e env renv o.op.operands.toList→∃ cs,(ev renv x).cells.toList=cs∧cs.length=sz∧TR m dp d off cs:=by
   intro m renv hr
   obtain ⟨cs,h1,h2,h3⟩:=hv.of hr hx
   exact ⟨cs,by rw [h1];rfl,h2,h3⟩
  rcases tw h1 with ⟨hb,h2⟩ | ⟨_,h2⟩
  ·have hb:=beq_eq hb
   subst hb
   refine ⟨_,_,h2,λm renv hr=>⟨(ev renv x).cells.toList,t,ptrV,zS (rv:=ptrV) (he renv) (run renv),?_,λm' k B hm hk=>⟨B,_,hk,rfl⟩⟩⟩
   obtain ⟨cs,e1,e2,e3⟩:=cells m renv hr
   rw [e1]
   exact ⟨_,_,_,rfl,e2.symm,by have:=e3.1;omega,e3⟩
  ·have h3:=dF.1 h2
   obtain ⟨hle,h4⟩:=cL h3
   rw [oy] at h4
   have hdp:=lj (cB hle)
   refine ⟨_,_,h4,λm renv hr=>⟨(ev renv x).cells.toList,t,ptrV,zS (rv:=ptrV) (he renv) (run renv),?_,λm' k B hm hk=>⟨B,_,hk,rfl⟩⟩⟩
   obtain ⟨cs,e1,e2,e3⟩:=cells m renv hr
   rw [e1]
   refine ⟨_,_,_,rfl,e2.symm,hdp,by omega,λi u hi=>?_⟩
   have hil:i<cs.length:=by
    rcases Nat.lt_or_ge i cs.length with h | h
    ·exact h
    ·rw [List.getElem?_eq_none h] at hi;cases hi
   rw [Nat.zero_add,lK _ _ _ _ _ _ _ _ (by omega) (by omega),if_pos (by omega)]
   exact e3.2 _ _ hi
theorem qx (m:Mp) {P:Program} {t:TypeId} {z:Value} (h1:m4 P t=z.cells.toList.map cv1) (h2:z.cells.toList.all (λv=>stC (cv1 v))=true) (k:Nat) :
  (List.replicate k (m4 P t)).flatten=(reps k z.cells.toList).map cv1∧(reps k z.cells.toList).all (λv=>stC (cv1 v))=true:=by
 unfold reps
 induction k with
 |zero=>exact ⟨rfl,rfl⟩
 |succ k ih=>
  rw [List.replicate_succ,List.replicate_succ,List.flatten_cons,List.flatten_cons,List.map_append,ih.1,h1]
  exact ⟨rfl,by rw [List.all_append,h2,ih.2];rfl⟩
theorem o0 (k:Nat) (zs:List Value):(reps k zs).length=k * zs.length:=by
 unfold reps
 induction k with
 |zero=>simp
 |succ k ih=>rw [List.replicate_succ,List.flatten_cons,List.length_append,ih,Nat.succ_mul];omega
def slV (len cap B:Nat):Value:=.slice (some ⟨B,0,none⟩) len cap
theorem Bk {m':Mp} {k B N len cap sz:Nat} (hk:m' k=some (B,N)) (hlc:len≤cap) (hN:cap * sz=N):VR m' (.c (.s k 0 len sz none)) (slV len cap B):=
 ⟨B,N,cap,hk,rfl,hlc,by show 0+cap * sz=N;omega⟩
theorem tx {t:TypeId} {len:Nat} {parts:Array (Nat×Operand)} {K:Ob→(Nat→V)→Prop} (ho:o.op=.buildSlice t len parts) (h:(qo P e t len parts).go env K):∃ b f,K b f∧yp P e env o b f:=by
 unfold qo at h
 split at h
 ·rename_i el hel
  obtain ⟨hu,hok⟩:=sx hel
  obtain ⟨inf,z,hinf,hz,hsz,hzs,hpos,hmax,hz1,hz2⟩:=gE hok
  simp only [iJ] at h
  rw [hsz] at h
  split at h
  ·rename_i hle
   have hle:len * inf.size≤16384:=cB hle
   simp only [aP,cU] at h
   obtain ⟨d,hd,H⟩:=qD h
   refine ⟨_,_,hd,λm renv hr=>?_⟩
   obtain ⟨f1,f2⟩:=qx m hz1 hz2 len
   have hrl:(reps len z.cells.toList).length=len * inf.size:=by rw [o0,Array.length_toList,hzs]
   have hdp:len * inf.size≤4 ^ dpN (len * inf.size):=lj hle
   have ht:TR m (dpN (len * inf.size)) (tr (dpN (len * inf.size)) (List.replicate len (m4 P el)).flatten) 0 (reps len z.cells.toList):=by
    rw [f1]
    exact Bd m f2 (by rw [hrl];exact hdp)
   have hin:∀ p ∈ parts.toList,p.2 ∈ o.op.operands.toList:=by
    rw [ho]
    intro p hp
    simp only [Op.operands,List.mem_map]
    exact ⟨p,hp,rfl⟩
   obtain ⟨cs',e1,e2,e3⟩:=H m renv _ _ hr hin (by rw [hrl];exact Nat.le_refl _) ht
   have hfill:=yn (λi=>some (i.mul inf.size,inf.size)) (parts.toList.map λp=>(p.1,ev renv p.2)) (reps len z.cells.toList).toArray
   simp only [e1] at hfill
   have hcl:cs'.length=len * inf.size:=by rw [e2,hrl]
   refine ⟨cs',el,slV len len,zS (rv:=slV len len) (s:=Instr.buildSlice t len (parts.map λ(i,x)=>(i,ev renv x))) (by unfold execOp;rw [ho]) λw=>?_,⟨_,_,_,rfl,hcl.symm,hdp,e3⟩,λm' k B hm hk=>Bk hk (Nat.le_refl _) hcl.symm⟩
   have hrange:(Array.range (len * inf.size)).map (λx=>z.cells[x % z.cells.size]!)=(reps len z.cells.toList).toArray:=by
    have:=tH len z.cells (by omega)
    rw [hzs] at this
    rw [hzs]
    exact this
   have h24:¬ 2 ^ 24<len * inf.size:=by omega
   have hparts:(parts.map λ(i,x)=>(i,ev renv x)).toList=parts.toList.map λp=>(p.1,ev renv p.2):=by simp
   have hfin:∀ cells:Array Value,cells=cs'.toArray→(do pure (Value.slice (some (← newRow el cells)) len len):Sem Value).run P w=.ok (slV len len w.heap.size) (w.alloc (.cells cs'.toArray el)):=by
    rintro _ rfl
    rfl
   unfold Instr.buildSlice
   simp only [Sem.run_bind,run_underlying hu,Result.andThen_ok,Eng.run_sizeOf hinf]
   have h24':¬ (len * inf.size>2 ^ 24):=h24
   rw [if_neg h24']
   by_cases h0:len * inf.size=0
   ·have hl0:len=0:=by
     rcases Nat.mul_eq_zero.1 h0 with h | h
     ·exact h
     ·omega
    have hr0:(Array.range (len * inf.size)).map (λx=>(#[]:Array Value)[x % (#[]:Array Value).size]!)=(reps len z.cells.toList).toArray:=by
     rw [h0,hl0]
     apply Array.ext'
     simp [reps]
    rw [if_pos h0]
    simp only [Sem.run_bind,Sem.run_pure,Result.andThen_ok]
    rw [hr0,hparts]
    have hfill':Instr.fill (λi=>some (i * inf.size,inf.size)) (reps len z.cells.toList).toArray (parts.toList.map λp=>(p.1,ev renv p.2))=some cs'.toArray:=hfill
    rw [hfill']
    exact hfin _ rfl
   ·rw [if_neg h0]
    simp only [Sem.run_bind,Sem.run_pure,Result.andThen_ok,zeroValue,Eng.run_typeInfo hinf,hz]
    rw [hrange,hparts]
    have hfill':Instr.fill (λi=>some (i * inf.size,inf.size)) (reps len z.cells.toList).toArray (parts.toList.map λp=>(p.1,ev renv p.2))=some cs'.toArray:=hfill
    rw [hfill']
    exact hfin _ rfl
  ·exact h.elim
 ·exact h.elim
theorem zb {α:Type} (v:α):∀ k,(List.replicate k [v]).flatten=List.replicate k v
 | 0=>rfl
 |k+1=>by rw [List.replicate_succ,List.flatten_cons,zb v k,List.replicate_succ];rfl
theorem xe {s:Sem Value} {n:Next} {w':World} (h:(do pure (.value (← s)):Sem Next).run P w=.ok n w'):∃ v,n=.value v∧s.run P w=.ok v w':=by
 rw [Sem.run_bind] at h
 cases hs:s.run P w with
 |ok v w1=>
  rw [hs] at h
  simp only [Result.andThen_ok,Sem.run_pure,Result.ok.injEq] at h
  obtain ⟨h1,h2⟩:=h
  exact ⟨v,h1.symm,by rw [h2]⟩
 |halt hh w1=>rw [hs] at h;cases h
theorem CI {t el:TypeId} {inf:TypeInfo} {z:Value} {kl kc:IntKind} {n cp:Nat} (hu:P.underlying t=some (.slice el)) (hinf:P.info? el=some inf) (hz:inf.zero=some z) (hzs:z.cells.size=inf.size) (hpos:0<inf.size)
  (hnc:n≤cp) (h1:cp≤140737488355328) (h2:cp * inf.bytes≤140737488355328) (w:World):(Instr.makeSlice t (.int kl n) (.int kc cp)).run P w=.ok (slV n cp w.heap.size) (w.alloc (.cells (reps cp z.cells.toList).toArray el)):=by
 have hcb:((cp:Int) * (inf.bytes:Int))≤140737488355328:=by
  have:((cp:Int) * (inf.bytes:Int))=((cp * inf.bytes:Nat):Int):=by simp
  rw [this];omega
 have hmk:=wh (P:=P) (env:=[]) (K:=λv w'=>v=slV n cp w.heap.size∧w'=w.alloc (.cells (reps cp z.cells.toList).toArray el)) (w:=w)
  (o:={ dst:=none,op:=.makeSlice t (.const (.int kl n)) (.const (.int kc cp)),type:=0,pos:= "",after:=#[],guard:=none }) (kl:=kl) (kc:=kc) (len:=n) (cap:=cp) rfl hu rfl rfl hinf hz hzs hpos
  ⟨by omega,by omega,hcb,by omega,λb w1 hb hw=>by subst hb hw;exact ⟨rfl,by rw [Int.toNat_natCast]⟩⟩
 rcases hmk with ⟨nx,w',hr,hk⟩ | ⟨f,args,hr,_⟩
 ·obtain ⟨v,hv,hs⟩:=xe (s:=Instr.makeSlice t (.int kl n) (.int kc cp)) hr
  subst hv
  obtain ⟨rfl,rfl⟩:=hk
  exact hs
 ·obtain ⟨v,hv,hs⟩:=xe (s:=Instr.makeSlice t (.int kl n) (.int kc cp)) hr
  cases hv
theorem uf {t:TypeId} {l c:Operand} {K:Ob→(Nat→V)→Prop} (ho:o.op=.makeSlice t l c) (h:(rD P e t l c).go env K):∃ b f,K b f∧yp P e env o b f:=by
 unfold rD at h
 split at h
 ·rename_i el hel
  obtain ⟨hu,hok⟩:=sx hel
  obtain ⟨inf,z,hinf,hz,hsz,hzs,hpos,hmax,hz1,hz2⟩:=gE hok
  simp only [iJ,aP,cU] at h
  rw [hsz] at h
  obtain ⟨vl,h1,hl⟩:=bE h
  obtain ⟨vc,h2,hc⟩:=bE h1
  obtain ⟨kl,n,rfl,h3⟩:=oY h2
  obtain ⟨kc',cp,rfl,h4⟩:=oY h3
  obtain ⟨hnc,h5⟩:=cL h4
  have hnc:=cB hnc
  obtain ⟨hr1,h6⟩:=cL h5
  obtain ⟨hr2,h7⟩:=cL h6
  have hr1:=cB hr1
  have hr2:cp * byT P el≤140737488355328:=cB hr2
  have hby:byT P el=inf.bytes:=by unfold byT;rw [hinf]
  rw [hby] at hr2
  have key:∃ dp d,K (.ob true (cp * inf.size) dp d) (λo=>.c (.s o 0 n inf.size none))∧cp * inf.size≤4 ^ dp∧∀ m,TR m dp d 0 (reps cp z.cells.toList):=by
   have hrl:(reps cp z.cells.toList).length=cp * inf.size:=by rw [o0,Array.length_toList,hzs]
   have hzl:(m4 P el).length=inf.size:=by rw [hz1,List.length_map,Array.length_toList,hzs]
   cases hzt:m4 P el with
   |nil=>rw [hzt] at hzl;simp at hzl;omega
   |cons v t=>
    rw [hzt] at h7
    cases t with
    |nil=>
     have hs1:inf.size=1:=by rw [←hzl,hzt];rfl
     obtain ⟨hle,h8⟩:=cL (show iff (Nat.ble cp 16384) (fN (dpN cp) λdp=>K (.ob true cp dp (uni v dp)) λo=>.c (.s o 0 n inf.size none)) False from h7)
     have h9:=dF.1 h8
     have hle:=cB hle
     rw [hs1] at h9 hrl ⊢
     rw [Nat.mul_one] at hrl ⊢
     refine ⟨_,_,h9,lj hle,λm=>⟨by rw [hrl];have:=lj hle;omega,λi u hi=>?_⟩⟩
     rw [tC]
     obtain ⟨f1,f2⟩:=qx m hz1 hz2 cp
     have hu':(reps cp z.cells.toList).map cv1=List.replicate cp v:=by
      rw [←f1,hzt]
      exact zb v cp
     have hcv:cv1 u=v:=by
      have h10:((reps cp z.cells.toList).map cv1)[i]?=some (cv1 u):=by rw [List.getElem?_map,hi];rfl
      rw [hu',List.getElem?_replicate] at h10
      split at h10
      ·simpa using h10.symm
      ·cases h10
     exact ⟨hcv▸sW m u,hcv▸List.all_eq_true.1 f2 u (List.mem_of_getElem? hi)⟩
    |cons v2 t2=>
     have h8:=dF.1 (show fN (Nat.mul cp inf.size) (λq=>obL q (List.replicate cp (v::v2::t2)).flatten λb=>K b λo=>.c (.s o 0 n inf.size none)) from h7)
     obtain ⟨hle,h9⟩:=cL h8
     have h10:=dF.1 h9
     rw [mn] at h10
     have hle:cp * inf.size≤16384:=cB hle
     have hdp:=lj hle
     refine ⟨_,_,h10,hdp,λm=>?_⟩
     obtain ⟨f1,f2⟩:=qx m hz1 hz2 cp
     rw [hzt] at f1
     refine ⟨by rw [hrl,Nat.zero_add];exact hdp,λi u hi=>?_⟩
     have hil:i<(reps cp z.cells.toList).length:=by
      rcases Nat.lt_or_ge i (reps cp z.cells.toList).length with h | h
      ·exact h
      ·rw [List.getElem?_eq_none h] at hi;cases hi
     have hdp2:cp * inf.size≤4 ^ dpN (cp * inf.size):=hdp
     rw [Nat.zero_add,f1]
     rw [jZ _ _ _ _ _ (by rw [List.length_map,hrl,Nat.zero_add];exact hdp2) (by rw [hrl] at hil;exact Nat.lt_of_lt_of_le hil hdp2),if_pos (Nat.zero_le _),Nat.sub_zero,List.getElem?_map,hi]
     exact ⟨sW m u,List.all_eq_true.1 f2 u (List.mem_of_getElem? hi)⟩
  obtain ⟨dp,d,hk,hdp,htr⟩:=key
  refine ⟨_,_,hk,λm renv hr=>⟨reps cp z.cells.toList,el,slV n cp,zS (rv:=slV n cp) (s:=Instr.makeSlice t (ev renv l) (ev renv c)) (by unfold execOp;rw [ho]) λw=>?_,⟨_,_,_,rfl,?_,hdp,htr m⟩,λm' k B hm hk=>Bk hk hnc ?_⟩⟩
  ·have q1:ev renv l=.int (kd kl) (n:Int):=hl.of hr (by rw [ho];simp [Op.operands])
   have q2:ev renv c=.int (kd kc') (cp:Int):=hc.of hr (by rw [ho];simp [Op.operands])
   rw [q1,q2]
   exact CI hu hinf hz hzs hpos hnc hr1 hr2 w
  ·rw [o0,Array.length_toList,hzs]
  ·rw [o0,Array.length_toList,hzs]
 ·exact h.elim
end
end Go.Mx
namespace Go.Mx
open Go.Eng
def mset (m:Mp) (o:Nat) (p:Nat×Nat):Mp:=λk=>if k=o then some p else m k
theorem iq {m:Mp} {o:Nat} {p:Nat×Nat} (h:m o=none):Le m (mset m o p):=by
 intro k q hk
 unfold mset
 split
 ·rename_i e;subst e;rw [h] at hk;cases hk
 ·exact hk
theorem hlim:(16384:Nat)=4 ^ 7:=by decide
structure St (w0:Bs) (m:Mp) (w:World) (H:Hp):Prop where
 hr:HR m w0 w H
 new:Keep w0.M w0.w w
def Af (w0:Bs) (m:Mp) (H:Hp) (K:KV) (rv:Value) (w':World):Prop:=
 ∃ m' v H',Le m m'∧VR m' v rv∧St w0 m' w' H'∧Gh m m' H H'∧K v H'
section
variable {w0:Bs} {m:Mp} {w w':World} {H:Hp} {K:KV}
theorem o7 {b:Ob} {X:Nat→Hp→Prop} (h:newK H b X):H.next≤16383∧X H.next ⟨H.next+1,lset 7 H.t H.next b⟩:=by
 cases H with
 |mk x t=>
  obtain ⟨h1,h2⟩:=cL (show iff (Nat.ble x 16383) ((setC 7 x).go t b λt=>fN (Nat.succ x) λy=>X x ⟨y,t⟩) False from h)
  rw [qu] at h2
  exact ⟨cB h1,dF.1 h2⟩
theorem mq {ob:Nat} {b:Ob} {X:Hp→Prop} (h:x8 H ob b X):X ⟨H.next,lset 7 H.t ob b⟩:=by
 cases H with
 |mk x t=>
  have h1:(setC 7 ob).go t b (λt=>X ⟨x,t⟩):=h
  rw [qu] at h1
  exact h1
theorem HR.add {B:Bs} {b N n dp:Nat} {d:Lv C dp} {cs:List Value} {T:TypeId} (h:HR m B w H) (hn:H.next≤16383) (hk:Keep (λk=>k=b) w w') (hB:B.w.heap.size≤b∨B.M b) (hblk:Blk w' b cs T) (hcell:b<w.heap.size→∃ cs T,Blk w b cs T) (hcl:cs.length=N) (hnN:n≤N) (hdp:n≤4 ^ dp)
  (htr:TR m dp d 0 (cs.take n)) (hfree:∀ o wr n dp d N,lget 7 H.t o=.ob wr n dp d→m o≠some (b,N)):HR (mset m H.next (b,N)) B w' ⟨H.next+1,lset 7 H.t H.next (.ob true n dp d)⟩:=by
 have hnone:m H.next=none:=h.unm _ (Nat.le_refl _)
 have get:∀ o,o<16384→lget 7 (lset 7 H.t H.next (.ob true n dp d)) o=if o=H.next then .ob true n dp d else lget 7 H.t o:=λo ho=>dZ 7 _ _ _ _ (by rw [←hlim];omega) (by rw [←hlim];exact ho)
 have lt:∀ {o p},mset m H.next (b,N) o=some p→o<16384:=by
  intro o p ho
  unfold mset at ho
  split at ho
  ·omega
  ·have:=h.lt ho;omega
 have old:∀ {o p},mset m H.next (b,N) o=some p→o≠H.next→m o=some p:=by
  intro o p ho hne
  unfold mset at ho
  rw [if_neg hne] at ho
  exact ho
 have new:∀ {p},mset m H.next (b,N) H.next=some p→p=(b,N):=by
  intro p hp
  unfold mset at hp
  rw [if_pos rfl] at hp
  simpa using hp.symm
 refine ⟨Nat.le_trans h.size hk.size,by show H.next+1≤16384;omega,?_,?_,?_,?_,?_⟩
 ·intro o ho
  have ho:H.next+1≤o:=ho
  unfold mset
  rw [if_neg (by omega)]
  exact h.unm o (by omega)
 ·intro o ho hlt
  have ho:H.next+1≤o:=ho
  show lget 7 (lset 7 H.t H.next (.ob true n dp d)) o=.dead
  rw [get o hlt,if_neg (by omega)]
  exact h.dead o (by omega) hlt
 ·intro o b' N' ho
  by_cases hne:o=H.next
  ·subst hne
   have:=new ho
   simp only [Prod.mk.injEq] at this
   obtain ⟨rfl,rfl⟩:=this
   have e1:lget 7 (lset 7 H.t H.next (.ob true n dp d)) H.next=.ob true n dp d:=by rw [get _ (by omega),if_pos rfl]
   exact ⟨hB,.inr (.inr ⟨λe=>(by rw [e1] at e;cases e),λq e=>(by rw [e1] at e;cases e),_,_,hblk⟩)⟩
  ·obtain ⟨h1,h2⟩:=h.blk o b' N' (old ho hne)
   have e1:lget 7 (lset 7 H.t H.next (.ob true n dp d)) o=lget 7 H.t o:=by rw [get o (lt ho),if_neg hne]
   exact ⟨h1,h2.keep hk (λk hk0 e=>e▸hcell (e▸hk0)) (λk e=>⟨_,_,e▸hblk⟩) (iq hnone) e1⟩
 ·intro o wr n' dp' d' b' N' hg ho
  have hg:lget 7 (lset 7 H.t H.next (.ob true n dp d)) o=.ob wr n' dp' d':=hg
  rw [get o (lt ho)] at hg
  by_cases hne:o=H.next
  ·subst hne
   rw [if_pos rfl] at hg
   have:=new ho
   simp only [Prod.mk.injEq] at this
   obtain ⟨rfl,rfl⟩:=this
   cases hg
   exact ⟨cs,T,hblk,hcl,hnN,hdp,htr.mono (iq hnone)⟩
  ·rw [if_neg hne] at hg
   obtain ⟨cs',T',h1,h2,h3,h4,h5⟩:=h.ob o wr n' dp' d' b' N' hg (old ho hne)
   have hbb:b'≠b:=by
    rintro rfl
    exact hfree o _ _ _ _ N' hg (old ho hne)
   exact ⟨cs',T',hk.blk h1 hbb,h2,h3,h4,h5.mono (iq hnone)⟩
 ·intro o o' wr n' dp' d' wr' n'' dp'' d'' b' N' N'' hg hg' ho ho'
  have hg:lget 7 (lset 7 H.t H.next (.ob true n dp d)) o=.ob wr n' dp' d':=hg
  have hg':lget 7 (lset 7 H.t H.next (.ob true n dp d)) o'=.ob wr' n'' dp'' d'':=hg'
  rw [get o (lt ho)] at hg
  rw [get o' (lt ho')] at hg'
  by_cases hne:o=H.next
  ·by_cases hne':o'=H.next
   ·rw [hne,hne']
   ·exfalso
    subst hne
    have:=new ho
    simp only [Prod.mk.injEq] at this
    obtain ⟨rfl,rfl⟩:=this
    rw [if_neg hne'] at hg'
    exact hfree o' _ _ _ _ _ hg' (old ho' hne')
  ·by_cases hne':o'=H.next
   ·exfalso
    subst hne'
    have:=new ho'
    simp only [Prod.mk.injEq] at this
    obtain ⟨rfl,rfl⟩:=this
    rw [if_neg hne] at hg
    exact hfree o _ _ _ _ _ hg (old ho hne)
   ·rw [if_neg hne] at hg
    rw [if_neg hne'] at hg'
    exact h.inj o o' _ _ _ _ _ _ _ _ _ _ _ hg hg' (old ho hne) (old ho' hne')
theorem HR.addS {B:Bs} {x:Ob} {ob:Obj} (h:HR m B w H) (hn:H.next≤16383)
  (hx:(x=.mp∧∃ c,ob=.map #[] c)∨∃ q b' N' c s l,x=.it q∧m q=some (b',N')∧w.heap[b']?=some (.map #[] c)∧ob=.mapIter (some b') s #[] l):HR (mset m H.next (w.heap.size,0)) B (w.alloc ob) ⟨H.next+1,lset 7 H.t H.next x⟩:=by
 have hnone:m H.next=none:=h.unm _ (Nat.le_refl _)
 have hk:New w (w.alloc ob):=ke w ob
 have hxo:∀ wr n dp d,x≠.ob wr n dp d:=by
  rintro wr n dp d rfl
  rcases hx with ⟨h1,_⟩ | ⟨_,_,_,_,_,_,h1,_⟩<;>cases h1
 have get:∀ o,o<16384→lget 7 (lset 7 H.t H.next x) o=if o=H.next then x else lget 7 H.t o:=λo ho=>dZ 7 _ _ _ _ (by rw [←hlim];omega) (by rw [←hlim];exact ho)
 have lt:∀ {o p},mset m H.next (w.heap.size,0) o=some p→o<16384:=by
  intro o p ho
  unfold mset at ho
  split at ho
  ·omega
  ·have:=h.lt ho;have:=h.lim;omega
 have old:∀ {o p},mset m H.next (w.heap.size,0) o=some p→o≠H.next→m o=some p:=by
  intro o p ho hne
  unfold mset at ho
  rw [if_neg hne] at ho
  exact ho
 have ent:∀ {o wr n dp d p},lget 7 (lset 7 H.t H.next x) o=.ob wr n dp d→mset m H.next (w.heap.size,0) o=some p→o≠H.next∧lget 7 H.t o=.ob wr n dp d:=by
  intro o wr n dp d p hg ho
  rw [get o (lt ho)] at hg
  split at hg
  ·exact absurd hg (hxo _ _ _ _)
  ·rename_i hne;exact ⟨hne,hg⟩
 refine ⟨Nat.le_trans h.size hk.size,by show H.next+1≤16384;omega,?_,?_,?_,?_,?_⟩
 ·intro o ho
  have ho:H.next+1≤o:=ho
  unfold mset
  rw [if_neg (by omega)]
  exact h.unm o (by omega)
 ·intro o ho hlt
  have ho:H.next+1≤o:=ho
  show lget 7 (lset 7 H.t H.next x) o=.dead
  rw [get o hlt,if_neg (by omega)]
  exact h.dead o (by omega) hlt
 ·intro o b' N' ho
  by_cases hne:o=H.next
  ·subst hne
   unfold mset at ho
   rw [if_pos rfl] at ho
   simp only [Option.some.injEq,Prod.mk.injEq] at ho
   obtain ⟨rfl,rfl⟩:=ho
   have e1:lget 7 (lset 7 H.t H.next x) H.next=x:=by rw [get _ (by omega),if_pos rfl]
   have e2:(w.alloc ob).heap[w.heap.size]?=some ob:=World.alloc_heap_new w ob
   refine ⟨.inl h.size,?_⟩
   rcases hx with ⟨h1,c,h2⟩ | ⟨q,b',N',c,s,l,h1,h2,h3,h4⟩
   ·exact .inl ⟨e1.trans h1,c,e2.trans (by rw [h2])⟩
   ·exact .inr (.inl ⟨q,b',N',c,s,l,e1.trans h1,iq hnone _ _ h2,(hk.block b' (Array.getElem?_eq_some_iff.1 h3).1 id).trans h3,e2.trans (by rw [h4])⟩)
  ·obtain ⟨h1,h2⟩:=h.blk o b' N' (old ho hne)
   have e1:lget 7 (lset 7 H.t H.next x) o=lget 7 H.t o:=by rw [get o (lt ho),if_neg hne]
   exact ⟨h1,h2.keep hk (λ_ _ h=>h.elim) (λ_ h=>h.elim) (iq hnone) e1⟩
 ·intro o wr n' dp' d' b' N' hg ho
  obtain ⟨hne,hg'⟩:=ent hg ho
  obtain ⟨cs',T',h1,h2,h3,h4,h5⟩:=h.ob o wr n' dp' d' b' N' hg' (old ho hne)
  exact ⟨cs',T',New.blk hk h1,h2,h3,h4,h5.mono (iq hnone)⟩
 ·intro o o' wr n' dp' d' wr' n'' dp'' d'' b' N' N'' hg hg' ho ho'
  obtain ⟨hne,k1⟩:=ent hg ho
  obtain ⟨hne',k2⟩:=ent hg' ho'
  exact h.inj o o' _ _ _ _ _ _ _ _ _ _ _ k1 k2 (old ho hne) (old ho' hne')
theorem uP {b:Ob} {p:Nat×Nat} (h:H.next≤16383):Gh m (mset m H.next p) H ⟨H.next+1,lset 7 H.t H.next b⟩:=by
 refine ⟨Nat.le_succ _,λo ho hn=>⟨?_,?_⟩⟩
 ·unfold mset;rw [if_neg (by omega)];exact hn
 ·show lget 7 (lset 7 H.t H.next b) o=_
  rw [dZ 7 _ _ _ _ (by rw [←hlim];omega) (by rw [←hlim];omega),if_neg (by omega)]
theorem HR.put {B:Bs} {ob b N n dp n0 dp0:Nat} {wr:Bool} {d:Lv C dp} {d0:Lv C dp0} {cs:List Value} {T:TypeId} (h:HR m B w H) (hm:m ob=some (b,N)) (hg:lget 7 H.t ob=.ob wr n0 dp0 d0) (hk:Keep (λk=>k=b) w w') (hblk:Blk w' b cs T) (hcl:cs.length=N)
  (hnN:n≤N) (hdp:n≤4 ^ dp) (htr:TR m dp d 0 (cs.take n)):HR m B w' ⟨H.next,lset 7 H.t ob (.ob true n dp d)⟩:=by
 have hlt:ob<H.next:=h.lt hm
 have hl:=h.lim
 have get:∀ o,o<16384→lget 7 (lset 7 H.t ob (.ob true n dp d)) o=if o=ob then .ob true n dp d else lget 7 H.t o:=λo ho=>dZ 7 _ _ _ _ (by rw [←hlim];omega) (by rw [←hlim];exact ho)
 have lt:∀ {o p},m o=some p→o<16384:=λho=>by have:=h.lt ho;omega
 refine ⟨Nat.le_trans h.size hk.size,hl,h.unm,?_,?_,?_,?_⟩
 ·intro o ho hlt'
  have ho:H.next≤o:=ho
  show lget 7 (lset 7 H.t ob (.ob true n dp d)) o=.dead
  rw [get o hlt',if_neg (by omega)]
  exact h.dead o ho hlt'
 ·intro o b' N' ho
  obtain ⟨h1,h2⟩:=h.blk o b' N' ho
  obtain ⟨cs0,T0,hb0,_⟩:=h.ob _ _ _ _ _ _ _ hg hm
  refine ⟨h1,?_⟩
  by_cases hne:o=ob
  ·subst hne
   rw [hm] at ho
   simp only [Option.some.injEq,Prod.mk.injEq] at ho
   obtain ⟨rfl,rfl⟩:=ho
   have e1:lget 7 (lset 7 H.t o (.ob true n dp d)) o=.ob true n dp d:=by rw [get o (lt hm),if_pos rfl]
   exact .inr (.inr ⟨λe=>(by rw [e1] at e;cases e),λq e=>(by rw [e1] at e;cases e),_,_,hblk⟩)
  ·have e1:lget 7 (lset 7 H.t ob (.ob true n dp d)) o=lget 7 H.t o:=by rw [get o (lt ho),if_neg hne]
   exact h2.keep hk (λk _ e=>⟨cs0,T0,e▸hb0⟩) (λk e=>⟨_,_,e▸hblk⟩) (Le.refl m) e1
 ·intro o wr' n' dp' d' b' N' hg' ho
  have hg':lget 7 (lset 7 H.t ob (.ob true n dp d)) o=.ob wr' n' dp' d':=hg'
  rw [get o (lt ho)] at hg'
  by_cases hne:o=ob
  ·subst hne
   rw [if_pos rfl] at hg'
   cases hg'
   rw [hm] at ho
   simp only [Option.some.injEq,Prod.mk.injEq] at ho
   obtain ⟨rfl,rfl⟩:=ho
   exact ⟨cs,T,hblk,hcl,hnN,hdp,htr⟩
  ·rw [if_neg hne] at hg'
   obtain ⟨cs',T',h1,h2,h3,h4,h5⟩:=h.ob o wr' n' dp' d' b' N' hg' ho
   have hbb:b'≠b:=by
    rintro rfl
    exact hne (h.inj o ob _ _ _ _ _ _ _ _ _ _ _ hg' hg ho hm)
   exact ⟨cs',T',hk.blk h1 hbb,h2,h3,h4,h5⟩
 ·intro o o' wr1 n1 dp1 d1 wr2 n2 dp2 d2 b' N1 N2 hg1 hg2 ho ho'
  have key:∀ {o wr n' dp' d' p},lget 7 (lset 7 H.t ob (.ob true n dp d)) o=.ob wr n' dp' d'→m o=some p→∃ wr n dp d,lget 7 H.t o=.ob wr n dp d:=by
   intro o wr n' dp' d' p hg' ho
   rw [get o (lt ho)] at hg'
   by_cases hne:o=ob
   ·subst hne;exact ⟨_,_,_,_,hg⟩
   ·rw [if_neg hne] at hg';exact ⟨_,_,_,_,hg'⟩
  obtain ⟨_,_,_,_,k1⟩:=key hg1 ho
  obtain ⟨_,_,_,_,k2⟩:=key hg2 ho'
  exact h.inj o o' _ _ _ _ _ _ _ _ _ _ _ k1 k2 ho ho'
theorem Dt {ob:Nat} {b:Ob} {p:Nat×Nat} (h:HR m w0 w H) (hm:m ob=some p):Gh m m H ⟨H.next,lset 7 H.t ob b⟩:=by
 have hlt:=h.lt hm
 have hl:=h.lim
 refine ⟨Nat.le_refl _,λo ho hn=>⟨hn,?_⟩⟩
 show lget 7 (lset 7 H.t ob b) o=_
 rw [dZ 7 _ _ _ _ (by rw [←hlim];omega) (by rw [←hlim];omega),if_neg (by rintro rfl;rw [hm] at hn;cases hn)]
theorem HR.kill {B:Bs} {ob n dp:Nat} {wr:Bool} {d:Lv C dp} (h:HR m B w H) (hg:lget 7 H.t ob=.ob wr n dp d) (hl:ob<H.next):HR m B w ⟨H.next,lset 7 H.t ob .dead⟩:=by
 have hlim':=h.lim
 have get:∀ o,o<16384→lget 7 (lset 7 H.t ob .dead) o=if o=ob then .dead else lget 7 H.t o:=λo ho=>dZ 7 _ _ _ _ (by rw [←hlim];omega) (by rw [←hlim];exact ho)
 have key:∀ {o wr n' dp' d' p},lget 7 (lset 7 H.t ob .dead) o=.ob wr n' dp' d'→m o=some p→lget 7 H.t o=.ob wr n' dp' d':=by
  intro o wr n' dp' d' p hg' ho
  rw [get o (by have:=h.lt ho;omega)] at hg'
  split at hg'
  ·cases hg'
  ·exact hg'
 refine ⟨h.size,hlim',h.unm,?_,?_,?_,?_⟩
 ·intro o ho hlt'
  have ho:H.next≤o:=ho
  show lget 7 (lset 7 H.t ob .dead) o=.dead
  rw [get o hlt',if_neg (by omega)]
  exact h.dead o ho hlt'
 ·intro o b' N' ho
  obtain ⟨h1,h2⟩:=h.blk o b' N' ho
  have hlo:o<16384:=by have:=h.lt ho;omega
  refine ⟨h1,?_⟩
  by_cases hne:o=ob
  ·subst hne
   obtain ⟨cs,T,hb,_⟩:=h.ob _ _ _ _ _ _ _ hg ho
   have e1:lget 7 (lset 7 H.t o .dead) o=.dead:=by rw [get o hlo,if_pos rfl]
   exact .inr (.inr ⟨λe=>(by rw [e1] at e;cases e),λq e=>(by rw [e1] at e;cases e),cs,T,hb⟩)
  ·have e1:lget 7 (lset 7 H.t ob .dead) o=lget 7 H.t o:=by rw [get o hlo,if_neg hne]
   exact h2.keep (Keep.refl (λ_=>False) w) (λ_ _ h=>h.elim) (λ_ h=>h.elim) (Le.refl m) e1
 ·intro o wr' n' dp' d' b' N' hg' ho
  exact h.ob o wr' n' dp' d' b' N' (key hg' ho) ho
 ·intro o o' wr1 n1 dp1 d1 wr2 n2 dp2 d2 b' N1 N2 hg1 hg2 ho ho'
  exact h.inj o o' _ _ _ _ _ _ _ _ _ _ _ (key hg1 ho) (key hg2 ho') ho ho'
end
end Go.Mx
