import Derived.Test.YtgpmeaicjonenaaGreata01
import Derived.Laws.AppendOwn
import Derived.Laws.Tables
import Derived.Below
import Derived.Test.YtgpmeaicjonenaaGreatProg
set_option linter.unusedVariables false
namespace Go.Eng
open Go.RowKit
def Blk (w:World) (b:Nat) (cs:List Value) (T:TypeId):Prop:=w.heap[b]?=some (.cells cs.toArray T (0,0))
theorem Blk.lt {w:World} {b:Nat} {cs:List Value} {T:TypeId} (h:Blk w b cs T):b<w.heap.size:=(Array.getElem?_eq_some_iff.1 h).1
theorem Blk.cell {w:World} {b i:Nat} {cs:List Value} {T:TypeId} {v:Value} (h:Blk w b cs T) (hi:cs[i]?=some v):w.cell? ⟨b,i,none⟩=some v:=by
 unfold World.cell?
 simp only [show w.heap[(⟨b,i,none⟩:Addr).block]?=_ from h]
 simpa using hi
theorem Blk.frozen {w:World} {b i:Nat} {cs:List Value} {T:TypeId} (h:Blk w b cs T):w.frozen? ⟨b,i,none⟩=false:=by
 unfold World.frozen?
 simp only [show w.heap[(⟨b,i,none⟩:Addr).block]?=_ from h]
 simp
theorem Blk.uniq {w:World} {b:Nat} {cs cs':List Value} {T T':TypeId} (h:Blk w b cs T) (h':Blk w b cs' T'):cs=cs'∧T=T':=by
 unfold Blk at *
 rw [h] at h'
 simp at h'
 exact h'
theorem Blk.ne {w:World} {b b':Nat} {cs cs':List Value} {T T':TypeId} (h:Blk w b cs T) (h':Blk w b' cs' T') (hT:T≠T'):b≠b':=by
 rintro rfl
 exact hT (h.uniq h').2
theorem jK (w:World) (cs:List Value) (T:TypeId):Blk (w.alloc (.cells cs.toArray T)) w.heap.size cs T:=by
 unfold Blk
 show (w.heap.push _)[w.heap.size]?=_
 simp
theorem pf (w:World) (o:Obj) {k:Nat} (h:k<w.heap.size):(w.alloc o).heap[k]?=w.heap[k]?:=by
 show (w.heap.push o)[k]?=_
 rw [Array.getElem?_push,if_neg (by omega)]
theorem Blk.alloc {w:World} {b:Nat} {cs:List Value} {T:TypeId} (h:Blk w b cs T) (o:Obj):Blk (w.alloc o) b cs T:=by
 unfold Blk at *
 rw [pf _ _ (Blk.lt h)]
 exact h
theorem kv (w:World) (a:Addr) (v:Value) {k:Nat} (h:k≠a.block):(w.setCell a v).heap[k]?=w.heap[k]?:=by
 simp only [World.setCell,Array.getElem?_modify]
 rw [if_neg (Ne.symm h)]
theorem Blk.setCell {w:World} {b i:Nat} {cs:List Value} {T:TypeId} (h:Blk w b cs T) (v:Value):Blk (w.setCell ⟨b,i,none⟩ v) b (cs.set i v) T:=by
 unfold Blk at *
 simp only [World.setCell,Array.getElem?_modify,if_true]
 rw [h]
 simp
theorem Blk.setCell_ne {w:World} {b b' i:Nat} {cs:List Value} {T:TypeId} (h:Blk w b cs T) (hne:b≠b') (v:Value):Blk (w.setCell ⟨b',i,none⟩ v) b cs T:=by
 unfold Blk at *
 rw [kv _ _ _ (by simpa using hne)]
 exact h
def oB (cs:List Value) (i:Nat):List Value→List Value
 | []=>cs
 |v::vs=>oB (cs.set i v) (i+1) vs
theorem mq (b o i:Nat):(⟨b,o,none⟩:Addr).add i=⟨b,o+i,none⟩:=by
 unfold Addr.add
 split
 ·rename_i h;subst h;rfl
 ·rfl
theorem Blk.puts {b o:Nat} {T:TypeId}:∀ {vs:List Value} {w:World} {cs:List Value} {i:Nat},Blk w b cs T→Blk (puts w ⟨b,o,none⟩ i vs) b (oB cs (o+i) vs) T
 | [],_,_,_,h=>h
 |v::vs,w,cs,i,h=>by
  unfold Eng.puts oB
  rw [mq]
  have:=Blk.puts (o:=o) (vs:=vs) (i:=i+1) (h.setCell (i:=o+i) v)
  rw [Nat.add_assoc]
  exact this
theorem qO {b o:Nat}:∀ {vs:List Value} {w:World} {i k:Nat},k≠b→(puts w ⟨b,o,none⟩ i vs).heap[k]?=w.heap[k]?
 | [],_,_,_,_=>rfl
 |v::vs,w,i,k,h=>by
  unfold Eng.puts
  rw [qO h,mq,kv _ _ _ h]
theorem rG {b o:Nat}:∀ {vs:List Value} {w:World} {i:Nat},(puts w ⟨b,o,none⟩ i vs).heap.size=w.heap.size
 | [],_,_=>rfl
 |v::vs,w,i=>by
  unfold Eng.puts
  rw [rG,World.size_setCell]
theorem pi:∀ {vs cs:List Value} {i:Nat},(oB cs i vs).length=cs.length
 | [],_,_=>rfl
 |v::vs,cs,i=>by unfold oB;rw [pi];simp
theorem jL:∀ {vs cs:List Value} {i:Nat},i+vs.length≤cs.length→oB cs i vs=cs.take i++vs++cs.drop (i+vs.length)
 | [],cs,i,h=>by simp [oB]
 |v::vs,cs,i,h=>by
  unfold oB
  simp only [List.length_cons] at h ⊢
  rw [jL (by simp;omega)]
  apply List.ext_getElem?
  intro j
  simp only [List.getElem?_append,List.length_take,List.length_set,List.getElem?_take,List.getElem?_drop,List.getElem?_set,List.length_append,List.getElem?_cons,List.length_cons]
  have e1:min (i+1) cs.length=i+1:=by omega
  have e2:min i cs.length=i:=by omega
  rw [e1,e2]
  by_cases h1:j<i
  ·simp only [h1,show j<i+1 by omega,show j<i+1+vs.length by omega,show j<i+(vs.length+1) by omega,if_true,show ¬ i=j by omega,if_false]
  ·by_cases h2:j=i
   ·subst h2
    simp only [show j<j+1 by omega,show j<j+1+vs.length by omega,show j<j+(vs.length+1) by omega,if_true,Nat.lt_irrefl,if_false,Nat.sub_self]
    simp [show j<cs.length by omega]
   ·by_cases h3:j<i+1+vs.length
    ·simp only [h3,show j<i+(vs.length+1) by omega,h1,show ¬ j<i+1 by omega,if_true,if_false,show ¬ j - i=0 by omega]
     rw [show j - i - 1=j - (i+1) by omega]
    ·simp only [h3,show ¬ j<i+(vs.length+1) by omega,if_false,show ¬ i=i+1+vs.length+(j - (i+1+vs.length)) by omega]
     rw [show i+1+vs.length+(j - (i+1+vs.length))=i+(vs.length+1)+(j - (i+(vs.length+1))) by omega]
theorem cK {w:World} {b o:Nat} {cs:List Value} {T:TypeId} (h:Blk w b cs T):∀ {vs:List Value} {i:Nat},o+i+vs.length≤cs.length→(∀ v ∈ vs,single v=true)→wrAt w ⟨b,o,none⟩ i vs
 | [],_,_,_=>trivial
 |v::vs,i,hl,hs=>by
  simp only [List.length_cons] at hl
  have hlt:o+i<cs.length:=by omega
  refine ⟨⟨cs[o+i],?_⟩,?_,hs v (by simp),cK h (by omega) (λu hu=>hs u (by simp [hu]))⟩
  ·rw [mq];exact h.cell (by simp [hlt])
  ·rw [mq];exact h.frozen
theorem kr {w:World} {b o:Nat}:∀ {vs:List Value} {i:Nat},(∀ j v,vs[j]?=some v→w.cell? ⟨b,o+i+j,none⟩=some v)→aC w ⟨b,o,none⟩ i vs
 | [],_,_=>trivial
 |v::vs,i,h=>by
  refine ⟨?_,kr λj u hu=>?_⟩
  ·rw [mq];have:=h 0 v (by simp);simpa using this
  ·have:=h (j+1) u (by simpa using hu)
   rw [show o+(i+1)+j=o+i+(j+1) by omega]
   exact this
theorem aI {w:World} {b o:Nat} {cs vs:List Value} {T:TypeId} (h:Blk w b cs T) (hv:(cs.drop o).take vs.length=vs):aC w ⟨b,o,none⟩ 0 vs:=by
 refine kr λj v hj=>h.cell ?_
 have:((cs.drop o).take vs.length)[j]?=some v:=by rw [hv];exact hj
 rw [List.getElem?_take] at this
 split at this
 ·rw [List.getElem?_drop] at this;simpa using this
 ·cases this
theorem rj {rows:List (List Value)} {sz:Nat} (hs:∀ r ∈ rows,r.length=sz) {i k:Nat} {r:List Value} {v:Value} (hi:rows[i]?=some r) (hk:r[k]?=some v):rows.flatten[i * sz+k]?=some v:=by
 induction rows generalizing i with
 |nil=>simp at hi
 |cons q rows ih=>
  have hq:=hs q (by simp)
  cases i with
  |zero=>
   simp only [List.getElem?_cons_zero,Option.some.injEq] at hi
   subst hi
   have:k<q.length:=by
    rcases Nat.lt_or_ge k q.length with h | h
    ·exact h
    ·rw [List.getElem?_eq_none h] at hk;cases hk
   simp only [List.flatten_cons,Nat.zero_mul,Nat.zero_add]
   rw [List.getElem?_append_left this]
   exact hk
  |succ i=>
   simp only [List.getElem?_cons_succ] at hi
   simp only [List.flatten_cons]
   rw [List.getElem?_append_right (by rw [Nat.succ_mul];omega)]
   have:=ih (λr hr=>hs r (by simp [hr])) hi
   rw [show (i+1) * sz+k - q.length=i * sz+k by rw [Nat.succ_mul];omega]
   exact this
theorem ee {rows:List (List Value)} {sz:Nat} (hs:∀ r ∈ rows,r.length=sz):rows.flatten.length=rows.length * sz:=by
 induction rows with
 |nil=>simp
 |cons q rows ih=>
  simp only [List.flatten_cons,List.length_append,List.length_cons,hs q (by simp),ih (λr hr=>hs r (by simp [hr])),Nat.succ_mul]
  omega
theorem tU {rows:List (List Value)} {sz:Nat} (hs:∀ r ∈ rows,r.length=sz) {i k:Nat} {r:List Value} (v:Value) (hi:rows[i]?=some r) (hk:k<sz):rows.flatten.set (i * sz+k) v=(rows.set i (r.set k v)).flatten:=by
 induction rows generalizing i with
 |nil=>simp at hi
 |cons q rows ih=>
  have hq:=hs q (by simp)
  cases i with
  |zero=>
   simp only [List.getElem?_cons_zero,Option.some.injEq] at hi
   subst hi
   simp only [List.flatten_cons,Nat.zero_mul,Nat.zero_add,List.set_cons_zero]
   rw [List.set_append_left _ _ (by omega)]
  |succ i=>
   simp only [List.getElem?_cons_succ] at hi
   simp only [List.flatten_cons,List.set_cons_succ]
   rw [List.set_append_right _ _ (by rw [Nat.succ_mul];omega),←ih (λr hr=>hs r (by simp [hr])) hi]
   congr 2
   rw [Nat.succ_mul];omega
theorem rH {rows:List (List Value)} {sz:Nat} (hs:∀ r ∈ rows,r.length=sz) {i:Nat} (hi:i<rows.length) {vs:List Value} (hv:vs.length=sz):oB rows.flatten (i * sz) vs=(rows.set i vs).flatten:=by
 have hl:=ee hs
 have hb:i * sz+sz≤rows.length * sz:=by
  have:=Nat.mul_le_mul_right sz (show i+1≤rows.length from hi)
  rw [Nat.succ_mul] at this
  exact this
 rw [jL (by rw [hl,hv];exact hb)]
 clear hb
 induction rows generalizing i with
 |nil=>simp at hi
 |cons q rows ih=>
  have hq:=hs q (by simp)
  cases i with
  |zero=>
   simp only [List.flatten_cons,Nat.zero_mul,List.take_zero,List.nil_append,Nat.zero_add,List.set_cons_zero]
   rw [List.drop_append_of_le_length (by omega),List.drop_eq_nil_of_le (by omega),List.nil_append]
  |succ i=>
   simp only [List.length_cons] at hi
   have:=ih (λr hr=>hs r (by simp [hr])) (i:=i) (by omega) (ee λr hr=>hs r (by simp [hr]))
   simp only [List.flatten_cons,List.set_cons_succ]
   rw [←this,List.take_append,List.drop_append]
   rw [List.take_of_length_le (by rw [Nat.succ_mul];omega),List.drop_eq_nil_of_le (by rw [Nat.succ_mul];omega)]
   rw [show (i+1) * sz - q.length=i * sz by rw [Nat.succ_mul];omega,show (i+1) * sz+vs.length - q.length=i * sz+vs.length by rw [Nat.succ_mul];omega]
   simp
structure Keep (M:Nat→Prop) (w w':World):Prop where
 os:w'.os=w.os
 tape:w'.tape=w.tape
 output:w'.output=w.output
 size:w.heap.size≤w'.heap.size
 block:∀ k,k<w.heap.size→¬ M k→w'.heap[k]?=w.heap[k]?
abbrev New (w w':World):Prop:=Keep (λ_=>False) w w'
theorem Keep.refl (M:Nat→Prop) (w:World):Keep M w w:=⟨rfl,rfl,rfl,Nat.le_refl _,λ_ _ _=>rfl⟩
theorem Keep.trans {M M':Nat→Prop} {a b c:World} (h:Keep M a b) (k:Keep M' b c) (hM:∀ i,i<a.heap.size→M' i→M i):Keep M a c:=
 ⟨k.os.trans h.os,k.tape.trans h.tape,k.output.trans h.output,Nat.le_trans h.size k.size,λi hi hm=>
  (k.block i (Nat.lt_of_lt_of_le hi h.size) (λhm'=>hm (hM i hi hm'))).trans (h.block i hi hm)⟩
theorem Keep.mono {M M':Nat→Prop} {a b:World} (h:Keep M a b) (hM:∀ i,i<a.heap.size→M i→M' i):Keep M' a b:=
 ⟨h.os,h.tape,h.output,h.size,λi hi hm=>h.block i hi (λhm'=>hm (hM i hi hm'))⟩
theorem Keep.of_new {M:Nat→Prop} {a b:World} (h:New a b):Keep M a b:=h.mono λ_ _ hf=>hf.elim
theorem Keep.new {M:Nat→Prop} {a b c:World} (h:Keep M a b) (k:New b c):Keep M a c:=h.trans k λ_ _ hf=>hf.elim
theorem dP (w:World) (o:Obj):New w (w.alloc o):=⟨rfl,rfl,rfl,by simp,λk hk _=>pf _ _ hk⟩
theorem aU (w:World):New w w.drew:=⟨rfl,rfl,rfl,Nat.le_refl _,λ_ _ _=>rfl⟩
theorem Keep.alloc {M:Nat→Prop} {a w:World} (h:Keep M a w) (o:Obj):Keep M a (w.alloc o):=h.new (dP w o)
theorem Keep.drew {M:Nat→Prop} {a w:World} (h:Keep M a w):Keep M a w.drew:=h.new (aU w)
theorem aR (w:World) (b i:Nat) (v:Value):Keep (λk=>k=b) w (w.setCell ⟨b,i,none⟩ v):=
 ⟨rfl,rfl,rfl,by simp,λk _ hm=>kv _ _ _ hm⟩
theorem Keep.setCell {M:Nat→Prop} {a w:World} (h:Keep M a w) {b i:Nat} (hb:M b∨a.heap.size≤b) (v:Value):Keep M a (w.setCell ⟨b,i,none⟩ v):=
 h.trans (aR w b i v) λk hk hm=>by rcases hb with hb | hb;exact hm▸hb;omega
theorem tV {b o:Nat}:∀ {vs:List Value} {w:World} {i:Nat},(puts w ⟨b,o,none⟩ i vs).os=w.os∧(puts w ⟨b,o,none⟩ i vs).tape=w.tape∧(puts w ⟨b,o,none⟩ i vs).output=w.output
 | [],_,_=>⟨rfl,rfl,rfl⟩
 |v::vs,w,i=>by
  unfold Eng.puts
  have:=tV (b:=b) (o:=o) (vs:=vs) (w:=w.setCell ((⟨b,o,none⟩:Addr).add i) v) (i:=i+1)
  exact this
theorem dD (w:World) (b o i:Nat) (vs:List Value):Keep (λk=>k=b) w (puts w ⟨b,o,none⟩ i vs):=
 ⟨tV.1,tV.2.1,tV.2.2,by rw [rG];exact Nat.le_refl _,λk _ hm=>qO hm⟩
theorem Keep.puts {M:Nat→Prop} {a w:World} (h:Keep M a w) {b o i:Nat} (hb:M b∨a.heap.size≤b) (vs:List Value):Keep M a (puts w ⟨b,o,none⟩ i vs):=
 h.trans (dD w b o i vs) λk hk hm=>by rcases hb with hb | hb;exact hm▸hb;omega
theorem Keep.blk {M:Nat→Prop} {w w':World} (h:Keep M w w') {b:Nat} {cs:List Value} {T:TypeId} (hb:Blk w b cs T) (hm:¬ M b):Blk w' b cs T:=by
 unfold Blk at *
 rw [h.block b (Blk.lt hb) hm]
 exact hb
theorem New.blk {w w':World} (h:New w w') {b:Nat} {cs:List Value} {T:TypeId} (hb:Blk w b cs T):Blk w' b cs T:=Keep.blk h hb id
theorem Keep.below {M:Nat→Prop} {w w':World} {B:Nat} (h:Keep M w w') (hB:B≤w.heap.size) (hM:∀ k,k<B→¬ M k):Below B w w':=
 ⟨h.os,h.tape,h.output,h.size,λk hk=>h.block k (Nat.lt_of_lt_of_le hk hB) (hM k hk)⟩
theorem kU {w w':World} {row:Option Nat} (h:w.grownBy w' row):Keep (λk=>some k=row) w w':=⟨h.os,h.tape,h.output,h.size,λk hk hm=>h.block k hk hm⟩
def Rd (w:World) (a:Option Addr) (xs:List Value):Prop:=
 xs=[]∨∃ b o,a=some ⟨b,o,none⟩∧∀ j u,xs[j]?=some u→w.cell? ⟨b,o+j,none⟩=some u
theorem wC {w:World} {a:Addr} {v:Value} (h:w.cell? a=some v):a.block<w.heap.size:=by
 unfold World.cell? at h
 cases hb:w.heap[a.block]? with
 |none=>rw [hb] at h;cases h
 |some o=>exact (Array.getElem?_eq_some_iff.1 hb).1
theorem eG {M:Nat→Prop} {w w':World} (h:Keep M w w') {a:Addr} {v:Value} (hc:w.cell? a=some v) (hm:¬ M a.block):w'.cell? a=some v:=by
 rw [World.cell?_of_block (h.block _ (wC hc) hm)]
 exact hc
def Off (M:Nat→Prop):Option Addr→Prop
 |some a=>¬ M a.block
 |none=>True
theorem Rd.keep {M:Nat→Prop} {w w':World} (h:Keep M w w') {a:Option Addr} {xs:List Value} (hr:Rd w a xs) (hm:xs=[]∨Off M a):Rd w' a xs:=by
 rcases hr with rfl | ⟨b,o,rfl,hc⟩
 ·exact .inl rfl
 ·rcases hm with rfl | hm
  ·exact .inl rfl
  ·exact .inr ⟨b,o,rfl,λj u hu=>eG h (hc j u hu) hm⟩
theorem Rd.new {w w':World} (h:New w w') {a:Option Addr} {xs:List Value} (hr:Rd w a xs):Rd w' a xs:=by
 refine hr.keep h ?_
 cases a with
 |none=>exact .inr trivial
 |some a=>exact .inr id
theorem Rd.nil (w:World) (a:Option Addr):Rd w a []:=.inl rfl
theorem Rd.lt {w:World} {a:Addr} {xs:List Value} (hr:Rd w (some a) xs) (hx:xs≠[]):a.block<w.heap.size:=by
 rcases hr with rfl | ⟨b,o,he,hc⟩
 ·exact absurd rfl hx
 ·cases xs with
  |nil=>exact absurd rfl hx
  |cons v vs=>
   have:=wC (hc 0 v rfl)
   simp only [Option.some.injEq] at he
   rw [he]
   exact this
theorem eQ {w:World} {b:Nat} {cs xs:List Value} {T:TypeId} (h:Blk w b cs T) {o:Nat} (hx:(cs.drop o).take xs.length=xs):Rd w (some ⟨b,o,none⟩) xs:=by
 refine .inr ⟨b,o,rfl,λj u hu=>h.cell ?_⟩
 have:((cs.drop o).take xs.length)[j]?=some u:=by rw [hx];exact hu
 rw [List.getElem?_take] at this
 split at this
 ·rw [List.getElem?_drop] at this;exact this
 ·cases this
theorem Rd.take {w:World} {a:Option Addr} {xs:List Value} (h:Rd w a xs) (n:Nat):Rd w a (xs.take n):=by
 rcases h with rfl | ⟨b,o,rfl,hc⟩
 ·simp;exact .inl rfl
 ·refine .inr ⟨b,o,rfl,λj u hu=>?_⟩
  rw [List.getElem?_take] at hu
  split at hu
  ·exact hc j u hu
  ·cases hu
theorem Rd.drop {w:World} {b o:Nat} {xs:List Value} (h:Rd w (some ⟨b,o,none⟩) xs) (n:Nat):Rd w (some ⟨b,o+n,none⟩) (xs.drop n):=by
 rcases h with rfl | ⟨b',o',he,hc⟩
 ·simp;exact .inl rfl
 ·simp only [Option.some.injEq,Addr.mk.injEq,and_true] at he
  obtain ⟨rfl,rfl⟩:=he
  refine .inr ⟨b,o+n,rfl,λj u hu=>?_⟩
  rw [List.getElem?_drop] at hu
  rw [Nat.add_assoc]
  exact hc _ _ hu
theorem Rd.cell {w:World} {b o:Nat} {xs:List Value} (h:Rd w (some ⟨b,o,none⟩) xs) {j:Nat} {u:Value} (hu:xs[j]?=some u):w.cell? ⟨b,o+j,none⟩=some u:=by
 rcases h with rfl | ⟨b',o',he,hc⟩
 ·simp at hu
 ·simp only [Option.some.injEq,Addr.mk.injEq,and_true] at he
  obtain ⟨rfl,rfl⟩:=he
  exact hc j u hu
def Owns (w:World) (e sz:Nat) (a:Option Addr) (n cap:Nat) (xs:List Value):Prop:=
 xs.length=n * sz∧((a=none∧n=0∧cap=0)∨∃ g cur,a=some ⟨g,0,none⟩∧Blk w g cur e∧n≤cap∧cap≤maxLen∧cur.length=cap * sz∧cur.take (n * sz)=xs)
def isB (a:Option Addr) (k:Nat):Prop:=∃ o,a=some ⟨k,o,none⟩
theorem Owns.nil (w:World) (e sz:Nat):Owns w e sz none 0 0 []:=⟨by simp,.inl ⟨rfl,rfl,rfl⟩⟩
theorem Owns.keep {M:Nat→Prop} {w w':World} (h:Keep M w w') {e sz n cap:Nat} {a:Option Addr} {xs:List Value} (ho:Owns w e sz a n cap xs) (hm:∀ k,isB a k→¬ M k):Owns w' e sz a n cap xs:=by
 refine ⟨ho.1,?_⟩
 rcases ho.2 with hn | ⟨g,cur,rfl,hb,rest⟩
 ·exact .inl hn
 ·exact .inr ⟨g,cur,rfl,h.blk hb (hm g ⟨0,rfl⟩),rest⟩
theorem Owns.new {w w':World} (h:New w w') {e sz n cap:Nat} {a:Option Addr} {xs:List Value} (ho:Owns w e sz a n cap xs):Owns w' e sz a n cap xs:=ho.keep h λ_ _=>id
theorem Owns.rd {w:World} {e sz n cap:Nat} {a:Option Addr} {xs:List Value} (ho:Owns w e sz a n cap xs):Rd w a xs:=by
 rcases ho.2 with ⟨_,hn,_⟩ | ⟨g,cur,rfl,hb,_,_,_,ht⟩
 ·refine .inl (List.eq_nil_of_length_eq_zero ?_)
  rw [ho.1,hn];simp
 ·refine eQ hb ?_
  rw [List.drop_zero,ho.1]
  exact ht
theorem Owns.lt {w:World} {e sz n cap:Nat} {a:Option Addr} {xs:List Value} (ho:Owns w e sz a n cap xs) {k:Nat} (hk:isB a k):k<w.heap.size:=by
 obtain ⟨o,rfl⟩:=hk
 rcases ho.2 with ⟨h,_⟩ | ⟨g,cur,he,hb,_⟩
 ·cases h
 ·simp at he;rw [he.1];exact hb.lt
theorem Owns.le {w:World} {e sz n cap:Nat} {a:Option Addr} {xs:List Value} (ho:Owns w e sz a n cap xs):n≤cap:=by
 rcases ho.2 with ⟨_,hn,hc⟩ | ⟨g,cur,_,_,h,_⟩
 ·omega
 ·exact h
theorem pj {v:Value} (h:single v=true):v.oneCell'=true:=by
 cases v<;>simp [single] at h<;>rfl
theorem Owns.append {P:Program} {w:World} {t ty e:TypeId} {i:TypeInfo} {z:Value} (ht:P.underlying t=some (.slice e)) (hi:P.info? e=some i) (hz:i.zero=some z) (hzs:z.cells.size=i.size) (hsz:0<i.size)
  {a:Option Addr} {n cap:Nat} {xs:List Value} (ho:Owns w e i.size a n cap xs) {s:Option Addr} {m c:Nat} {news:List Value} (hl:news.length=m * i.size) (hs:Rd w s news) (h1:∀ u ∈ news,single u=true)
  (hb1:n+m≤140737488355328) (hb2:(n+m) * i.bytes≤140737488355328) :
  ∃ a' cap' w',(Builtin.append_ #[t,t] ty #[.slice a n cap,.slice s m c]).run P w=.ok (.slice a' (n+m) cap') w'∧Owns w' e i.size a' (n+m) cap' (xs++news)∧Keep (isB a) w w'∧
   (a'=a∨a'=some ⟨w.heap.size,0,none⟩):=by
 have hlen:(xs++news).length=(n+m) * i.size:=by rw [List.length_append,ho.1,hl,Nat.add_mul]
 have hmax:n+m≤maxLen:=by simp only [maxLen];omega
 have grown:∀ (old:Nat),old<n+m→
   Owns (w.drew.alloc (.cells (xs.toArray++news.toArray++Builtin.zeroCells z.cells (grownCap w (n+m) old e - (n+m))) e)) e i.size (some ⟨w.heap.size,0,none⟩) (n+m) (grownCap w (n+m) old e) (xs++news):=by
  intro old hold
  have hge:=grownCap_ge w (n+m) old e
  refine ⟨hlen,.inr ⟨w.heap.size,xs++news++(Builtin.zeroCells z.cells (grownCap w (n+m) old e - (n+m))).toList,rfl,?_,hge,grownCap_le_maxLen w (n+m) old e hmax,?_,?_⟩⟩
  ·have h2:=jK w.drew (xs++news++(Builtin.zeroCells z.cells (grownCap w (n+m) old e - (n+m))).toList) e
   have h3:(xs++news++(Builtin.zeroCells z.cells (grownCap w (n+m) old e - (n+m))).toList).toArray=xs.toArray++news.toArray++Builtin.zeroCells z.cells (grownCap w (n+m) old e - (n+m)):=by
    apply Array.ext'
    simp
   rw [h3] at h2
   exact h2
  ·rw [List.length_append,hlen,Array.length_toList,size_zeroCells,hzs,←Nat.add_mul]
   congr 1
   omega
  ·rw [←hlen]
   exact List.take_left
 have newW:∀ o,Keep (isB a) w (w.drew.alloc o):=λo=>Keep.of_new ((aU w).alloc o)
 by_cases hm:m=0
 ·subst hm
  have hn:news=[]:=List.eq_nil_of_length_eq_zero (by simpa using hl)
  subst hn
  refine ⟨a,cap,w,?_,by simpa using ho,Keep.refl _ _,.inl rfl⟩
  have hle:=ho.le
  have hle0:n+0≤cap:=by omega
  cases a with
  |none=>
   cases s with
   |none=>simp [Builtin.append_,run_underlying ht,sizeOf,typeInfo,hi,Builtin.lenOf,hle,Builtin.firstCells]
   |some s=>simp [Builtin.append_,run_underlying ht,sizeOf,typeInfo,hi,Builtin.lenOf,hle,Builtin.firstCells,loadCells,loadCellsFrom]
  |some a=>
   cases s with
   |none=>simp [Builtin.append_,run_underlying ht,sizeOf,typeInfo,hi,Builtin.lenOf,hle,Builtin.firstCells,storeCells]
   |some s=>simp [Builtin.append_,run_underlying ht,sizeOf,typeInfo,hi,Builtin.lenOf,hle,Builtin.firstCells,loadCells,loadCellsFrom,storeCells]
 ·have hne:news≠[]:=by
   intro hc
   have h0:m * i.size=0:=by rw [←hl,hc];rfl
   rcases Nat.mul_eq_zero.1 h0 with h | h<;>omega
  rcases hs with hc | ⟨sb,so,rfl,hcell⟩
  ·exact absurd hc hne
  have hnews:∀ j u,news[j]?=some u→w.cell? ((⟨sb,so,none⟩:Addr).add j)=some u:=λj u hu=>by rw [mq];exact hcell j u hu
  have h1':∀ u ∈ news,u.oneCell'=true:=λu hu=>pj (h1 u hu)
  rcases ho.2 with ⟨rfl,rfl,rfl⟩ | ⟨g,cur,rfl,hg,hnc,hcm,hcs,htake⟩
  ·have hx:xs=[]:=List.eq_nil_of_length_eq_zero (by simpa using ho.1)
   subst hx
   have hr:=run_append_nil (P:=P) w t ty e i z ht hi hz ⟨sb,so,none⟩ m c news hl hnews (by omega) (by omega) (by simp only [Nat.zero_add] at hb2;omega)
   have hgr:=grown 0 (by omega)
   simp only [Nat.zero_add,List.nil_append,Array.empty_append] at hgr ⊢
   exact ⟨_,_,_,hr,hgr,newW _,.inr rfl⟩
  ·by_cases hroom:n+m≤cap
   ·have hfit:n * i.size+news.length≤cur.toArray.size:=by
     rw [hl,List.size_toArray,hcs,←Nat.add_mul];exact Nat.mul_le_mul_right _ hroom
    have hr:=run_append_room (P:=P) w t ty e i ht hi g n cap cur.toArray hg ⟨sb,so,none⟩ m c news hl hnews h1' hroom hfit
    refine ⟨_,_,_,hr,⟨hlen,.inr ⟨g,_,rfl,setRow_heap w g cur.toArray _ e _ hg,hroom,hcm,?_,?_⟩⟩,⟨rfl,rfl,rfl,by simp,λk _ hk=>setRow_other w g k _ (λe=>hk ⟨0,by rw [e]⟩)⟩,.inl rfl⟩
    ·simp only [List.length_append,List.length_take,List.length_drop] at *
     simp at hfit <;> omega
    ·rw [htake,←hlen]
     exact List.take_left
   ·have holds:∀ j u,xs[j]?=some u→w.cell? ((⟨g,0,none⟩:Addr).add j)=some u:=λj u hu=>by
     rw [mq]
     exact ho.rd.cell hu
    have hr:=run_append_grow (P:=P) w t ty e i z ht hi hz ⟨g,0,none⟩ n cap xs ho.1 holds ⟨sb,so,none⟩ m c news hl hnews (by omega) (by omega) (growslice_fits (by omega) hb2)
    exact ⟨_,_,_,hr,grown cap (by omega),newW _,.inr rfl⟩
theorem Rd.row {w:World} {a:Option Addr} {rows:List (List Value)} {sz:Nat} (h:Rd w a rows.flatten) (hs:∀ r ∈ rows,r.length=sz) (hz:0<sz) {i:Nat} {r:List Value} (hi:rows[i]?=some r) :
  ∃ b o,a=some ⟨b,o,none⟩∧aC w ⟨b,o+i * sz,none⟩ 0 r∧∀ k v,r[k]?=some v→w.cell? ⟨b,o+i * sz+k,none⟩=some v:=by
 have hr:=hs r (List.mem_of_getElem? hi)
 rcases h with h | ⟨b,o,rfl,hc⟩
 ·have:=rj hs hi (k:=0) (v:=r[0]) (by simp [hr,hz])
  rw [h] at this
  simp at this
 ·have key:∀ k v,r[k]?=some v→w.cell? ⟨b,o+i * sz+k,none⟩=some v:=λk v hk=>by
   rw [Nat.add_assoc]
   exact hc _ _ (rj hs hi hk)
  exact ⟨b,o,rfl,kr λj v hj=>by simpa using key j v hj,key⟩
theorem gZ {cs vs:List Value} (h:vs.length=cs.length):oB cs 0 vs=vs:=by
 rw [jL (by omega)]
 simp [h]
theorem aO {u w1:World} {b1:Nat} {zs:Array Value} {T:TypeId} (hb:b1=u.heap.size) (hw:w1=u.alloc (.cells zs T)):Blk w1 b1 zs.toList T∧New u w1:=by
 subst hb hw
 exact ⟨by simpa using jK u zs.toList T,dP _ _⟩
theorem mb {u w1 w2:World} {b:Nat} {cs vs:List Value} {T:TypeId} (h:Blk w1 b cs T) (hl:vs.length=cs.length) (hn:New u w1) (hb:u.heap.size≤b) (hw:w2=puts w1 ⟨b,0,none⟩ 0 vs):Blk w2 b vs T∧New u w2:=by
 subst hw
 refine ⟨?_,hn.puts (.inr hb) _⟩
 have:=h.puts (o:=0) (i:=0) (vs:=vs)
 rw [gZ hl] at this
 exact this
end Go.Eng
namespace Go.Eng
theorem uX {b:Bool} {A B:Prop} (ht:b=true→A) (hf:b=false→B):(bif b then A else B):=by
 cases b
 ·exact hf rfl
 ·exact ht rfl
theorem aH {p:Prop} [Decidable p] {A B:Prop} (ht:p→A) (hf:¬ p→B):(bif decide p then A else B):=
 uX (λh=>ht (of_decide_eq_true h)) (λh=>hf (of_decide_eq_false h))
theorem bK {x y:Int} {A B:Prop} (ht:x=y→A) (hf:x≠y→B):(bif (x == y) then A else B):=
 uX (λh=>ht (by simpa using h)) (λh=>hf (by simpa using h))
theorem cU {x y:Int} {A B:Prop} (ht:x≠y→A) (hf:x=y→B):(bif (x != y) then A else B):=
 uX (λh=>ht (by simpa using h)) (λh=>hf (by simpa using h))
theorem dG {b:Bool} {A B:Prop} (hf:b=false→A) (ht:b=true→B):(bif (!b) then A else B):=by
 cases b
 ·exact hf rfl
 ·exact ht rfl
theorem gE {b:Bool} {A B:Prop} (hb:b=true) (h:A):(bif b then A else B):=by subst hb;exact h
theorem er {b:Bool} {A B:Prop} (hb:b=false) (h:B):(bif b then A else B):=by subst hb;exact h
theorem bE {b o len sz:Nat} {n:Int} {K:Addr→Prop} (h0:0≤n) (h1:n<len) (h:K ⟨b,o+n.toNat * sz,none⟩):idxS (some ⟨b,o,none⟩) len n sz K:=
 ⟨_,rfl,h0,h1,by rw [mq];exact h⟩
theorem zt {b o len sz:Nat} {n:Int} {K:Addr→Prop} (h0:0≤n) (h1:n<len) (h:K ⟨b,o+n.toNat * sz,none⟩):idxA ⟨b,o,none⟩ len n sz K:=
 ⟨h0,h1,by rw [mq];exact h⟩
theorem oC {b o len cap sz:Nat} {lo hi mx:Int} {K:Option Addr→Nat→Nat→Prop} (h0:0≤lo) (h1:lo≤hi) (h2:hi≤mx) (h3:mx≤cap) (h4:len≤cap)
  (h:∀ a,(a=some ⟨b,o+lo.toNat * sz,none⟩∨hi=lo∧a=some ⟨b,o,none⟩)→K a (hi.toNat - lo.toNat) (mx.toNat - lo.toNat)):sl3 (some ⟨b,o,none⟩) len cap lo hi mx sz K:=by
 refine ⟨h0,h1,h2,h3,h4,h _ ?_⟩
 split
 ·rename_i he;exact .inr ⟨by omega,rfl⟩
 ·refine .inl ?_
  simp only [Option.map_some,mq]
theorem w64 {x:Int} (h0:-9223372036854775808≤x) (h1:x<9223372036854775808):IntKind.i64.wrap x=x:=by
 simp only [IntKind.wrap,IntKind.bits,IntKind.signed];simp;omega
theorem wu64 {x:Int} (h0:0≤x) (h1:x<18446744073709551616):IntKind.u64.wrap x=x:=by
 simp only [IntKind.wrap,IntKind.bits,IntKind.signed];simp;omega
end Go.Eng
namespace Go.Proofs.YtgpmeaicjonenaaGreat
open Go.Proofs.Tryz
open Go.Eng
theorem mix:prog.follows .mixedOrders=true:=by kernel_rfl
abbrev Does (f:FuncId) (args:List Value) (w:World) (R:Value→World→Prop):Prop:=Calls prog f args.toArray w λe w'=>∃ v,e=.returned v∧R v w'
theorem does {f:FuncId} {fn:Func} {args:List Value} {w:World} {R:Value→World→Prop} (hf:prog.funcs[f]?=some fn) (h:fnW prog fn args R w):Does f args w R:=By mix hf h
theorem aF {f:FuncId} {args:Array Value} {w:World} {R:Value→World→Prop} {Q:Ending→World→Prop} (h:Calls prog f args w λe w'=>∃ v,e=.returned v∧R v w') (hq:∀ v w',R v w'→Q (.returned v) w'):Calls prog f args w Q:=
 h.mono λe w' ⟨v,he,hr⟩=>he▸hq v w' hr
theorem iF {T:TypeId} {z:Value} {n m:Nat} (h:(prog.info? T).map (λi=>(i.zero,i.size,i.bytes))=some (some z,n,m)):∃ i,prog.info? T=some i∧i.zero=some z∧i.size=n∧i.bytes=m:=by
 cases hi:prog.info? T with
 |none=>rw [hi] at h;cases h
 |some i=>rw [hi] at h;simp at h;exact ⟨i,rfl,h.1,h.2.1,h.2.2⟩
end Go.Proofs.YtgpmeaicjonenaaGreat
namespace Go.Proofs.YtgpmeaicjonenaaGreat
open Go.Proofs.Tryz
open Go.Eng
def I64 (x:Int):Prop:=-9223372036854775808≤x∧x<9223372036854775808
def U64 (x:Int):Prop:=0≤x∧x<18446744073709551616
theorem aN {α:Type} {l:List α} {i:Nat} {x:α} (h:l[i]?=some x):i<l.length:=(List.getElem?_eq_some_iff.1 h).1
def us (l:List Int):List Value:=l.map (Value.int .u64)
def is (l:List Int):List Value:=l.map (Value.int .i64)
theorem uY {l:List Int} {i:Nat} {x:Int} (h:l[i]?=some x):(us l)[i]?=some (.int .u64 x):=by simp [us,h]
theorem kV (l:List Int):(us l).length=l.length:=by simp [us]
theorem kw (l:List Int):∀ u ∈ us l,single u=true:=by
 intro u hu
 simp only [us,List.mem_map] at hu
 obtain ⟨x,_,rfl⟩:=hu
 rfl
theorem zu (l:List Int):∀ u ∈ is l,single u=true:=by
 intro u hu
 simp only [is,List.mem_map] at hu
 obtain ⟨x,_,rfl⟩:=hu
 rfl
theorem il {u:World} {b:Nat} {cs vs:List Value} {T:TypeId} {K:World→Prop} (hb:Blk u b cs T) (hl:vs.length=cs.length) (hs:∀ v ∈ vs,single v=true) (hk:∀ w',Blk w' b vs T→Keep (λk=>k=b) u w'→K w') :
  wrAt u ⟨b,0,none⟩ 0 vs∧∀ w',w'=puts u ⟨b,0,none⟩ 0 vs→K w':=by
 refine ⟨cK hb (by omega) hs,?_⟩
 rintro w' rfl
 refine hk _ ?_ (dD _ _ _ _ _)
 have h:=hb.puts (o:=0) (i:=0) (vs:=vs)
 rw [gZ hl] at h
 exact h
theorem gF {u:World} {zs vs:List Value} {T:TypeId} {K:Nat→World→Prop} (hl:vs.length=zs.length) (hs:∀ v ∈ vs,single v=true) (hk:∀ b w',b=u.heap.size→Blk w' b vs T→New u w'→K b w') :
  ∀ b1 w1,b1=u.heap.size→w1=u.alloc (.cells zs.toArray T)→wrAt w1 ⟨b1,0,none⟩ 0 vs∧∀ w2,w2=puts w1 ⟨b1,0,none⟩ 0 vs→K b1 w2:=by
 rintro b1 w1 hb1 hw1
 obtain ⟨hz,hn⟩:=aO hb1 hw1
 refine il hz (by simpa using hl) hs λw' hb' hk'=>hk b1 w' hb1 hb' (hn.trans hk' λk hlt e=>?_)
 omega
theorem pk {u z w3:World} {a:Option Addr} (hn:New u z) (hk:Keep (isB a) z w3) (ha:∀ k,isB a k→u.heap.size≤k):New u w3:=
 hn.trans hk λk hlt hb=>by have:=ha k hb;omega
theorem ez {α:Type} {cells:α→List Value} {sz:Nat} (hsz:∀ x,(cells x).length=sz) (h0:0<sz) {u:World} {a:Option Addr} {l:List α} (h:Rd u a (l.map cells).flatten) {i:Nat} {x:α} (hx:l[i]?=some x) {z:Int} (hz:z=i) {n:Nat} (hn:n=l.length) {K:Addr→Prop}
  (hk:∀ b o,aC u ⟨b,o,none⟩ 0 (cells x)→(∀ (q:Nat) (v:Value),(cells x)[q]?=some v→u.cell? ⟨b,o+q,none⟩=some v)→K ⟨b,o,none⟩):idxS a n z sz K:=by
 subst hz hn
 have hlt:=aN hx
 obtain ⟨b,o,rfl,h1,h2⟩:=h.row (sz:=sz) (λr hr=>by obtain ⟨y,_,rfl⟩:=List.mem_map.1 hr;exact hsz y) h0 (i:=i) (r:=cells x) (by simp [hx])
 exact bE (by omega) (by omega) (by simpa using hk b _ h1 h2)
theorem wD {α:Type} {cells:α→List Value} {sz:Nat} (hsz:∀ x,(cells x).length=sz) (h0:0<sz) {u:World} {a:Option Addr} {l:List α} (h:Rd u a (l.map cells).flatten) {i:Nat} {x:α} (hx:l[i]?=some x) {z:Int} (hz:z=i) {n:Nat} (hn:n=l.length) {K:Addr→Prop}
  (hk:∀ b o,(∀ y,New u y→∀ (q:Nat) (v:Value),(cells x)[q]?=some v→y.cell? ⟨b,o+q,none⟩=some v)→K ⟨b,o,none⟩):idxS a n z sz K:=by
 subst hz hn
 have hlt:=aN hx
 have hs:∀ r ∈ l.map cells,r.length=sz:=λr hr=>by obtain ⟨y,_,rfl⟩:=List.mem_map.1 hr;exact hsz y
 obtain ⟨b,o,rfl,h1,h2⟩:=h.row (sz:=sz) hs h0 (i:=i) (r:=cells x) (by simp [hx])
 refine bE (by omega) (by omega) ?_
 have:=hk b (o+i * sz) λy hy q v hv=>by
  obtain ⟨b',o',e,_,g2⟩:=(h.new hy).row (sz:=sz) hs h0 (i:=i) (r:=cells x) (by simp [hx])
  simp at e
  obtain ⟨rfl,rfl⟩:=e
  exact g2 q v hv
 simpa using this
theorem rI {x:Int} (h0:0≤x) (h1:x<18446744073709551616):IntKind.u64.wrap x=x:=by
 simp only [IntKind.wrap,IntKind.bits,IntKind.signed];simp;omega
theorem pm (n:Nat):BitVec.ofInt 64 (n:Int)=BitVec.ofNat 64 n:=by
 apply BitVec.eq_of_toInt_eq
 simp
theorem wE (a b:Nat) (ha:a<18446744073709551616) (hb:b<18446744073709551616):bor .u64 (a:Int) (b:Int)=((a ||| b:Nat):Int):=by
 have hab:a ||| b<2 ^ 64:=Nat.or_lt_two_pow (by omega) (by omega)
 unfold bor
 show IntKind.u64.wrap ((BitVec.ofInt 64 (a:Int) ||| BitVec.ofInt 64 (b:Int)).toNat:Int)=_
 rw [pm,pm,BitVec.toNat_or,BitVec.toNat_ofNat,BitVec.toNat_ofNat,Nat.mod_eq_of_lt (by omega),Nat.mod_eq_of_lt (by omega)]
 exact rI (by omega) (by omega)
theorem BB (a b:Nat) (ha:a<18446744073709551616) (hb:b<18446744073709551616):band .u64 (a:Int) (b:Int)=((a &&& b:Nat):Int):=by
 have hab:a &&& b<2 ^ 64:=Nat.and_lt_two_pow _ (by omega)
 unfold band
 show IntKind.u64.wrap ((BitVec.ofInt 64 (a:Int) &&& BitVec.ofInt 64 (b:Int)).toNat:Int)=_
 rw [pm,pm,BitVec.toNat_and,BitVec.toNat_ofNat,BitVec.toNat_ofNat,Nat.mod_eq_of_lt (by omega),Nat.mod_eq_of_lt (by omega)]
 exact rI (by omega) (by omega)
theorem CV (a b k:Nat) (hb:b<2 ^ k):a * 2 ^ k ||| b=a * 2 ^ k+b:=by
 rw [Nat.mul_comm,Nat.two_pow_add_eq_or_of_lt hb]
theorem CW {u:World} {b o:Nat} {cs:List Value} {T:TypeId} {v:Value} {K:World→Prop} (hb:Blk u b cs T) (ho:o<cs.length) (hk:∀ w',Blk w' b (cs.set o v) T→Keep (λk=>k=b) u w'→K w') :
  (∃ x,u.cell? ⟨b,o,none⟩=some x)∧u.frozen? ⟨b,o,none⟩=false∧∀ w',w'=u.setCell ⟨b,o,none⟩ v→K w':=
 ⟨⟨_,hb.cell (List.getElem?_eq_getElem ho)⟩,hb.frozen,λw' h=>by subst h;exact hk _ (hb.setCell v) (aR _ _ _ _)⟩
theorem BC {P:Program} {f:FuncId} {first captured args xs:Array Value} {w:World} {R:Ending→World→Prop} (ho:l9 P f=true) (hx:first++args++captured=xs) (h:Calls P f xs w R):sL P (.func (.func f) first captured) args w R:=by
 unfold sL
 simp only [ho]
 rw [hx]
 exact h
theorem nP {P:Program} {f:FuncId} {first captured args xs:Array Value} {w:World} {R:Ending→World→Prop} (ho:l9 P f=true) (hx:first++args++captured=xs) (h:Calls P f xs w R):nU P (.func (.func f) first captured) args w R:=by
 unfold nU
 exact BC ho hx h
theorem zv {w:Int} (h0:0≤w) (h1:w<18446744073709551616) (k:Nat) (hk:k<64):band .u64 w ((2 ^ k - 1:Nat):Int)=w % (2 ^ k:Nat):=by
 obtain ⟨n,rfl⟩:=Int.eq_ofNat_of_zero_le h0
 have:2 ^ k<2 ^ 64:=Nat.pow_lt_pow_right (by decide) hk
 rw [BB _ _ (by omega) (by omega),Nat.and_two_pow_sub_one_eq_mod]
 simp
theorem push_k {S e:TypeId} {i:TypeInfo} {z:Value} (ht:prog.underlying S=some (.slice e)) (hi:prog.info? e=some i) (hz:i.zero=some z) (hzs:z.cells.size=i.size) (hsz:0<i.size)
  {u:World} {a:Option Addr} {n cap:Nat} {xs:List Value} (ho:Owns u e i.size a n cap xs) {vs:List Value} (hl:vs.length=i.size) (hs:∀ v ∈ vs,single v=true) (hb1:n≤1000000000) (hb2:i.bytes≤1000) {K:Nat→Option Addr→Nat→Nat→World→Prop}
  (hk:∀ b ap cap' w3,b=u.heap.size→Owns w3 e i.size ap (n+1) cap' (xs++vs)→Keep (isB a) u w3→(∀ k,isB ap k→isB a k∨u.heap.size≤k)→K b ap (n+1) cap' w3) :
  ∀ b1 w2,b1=u.heap.size→w2=u.alloc (.cells vs.toArray e)→∃ (ap:Option Addr) (ap_len ap_cap:Nat),∃ w3,(Builtin.append_ #[S,S] S #[(.slice a n cap),(.slice (some ⟨b1,0,none⟩) 1 1)]).run prog w2=.ok (.slice ap ap_len ap_cap) w3∧K b1 ap ap_len ap_cap w3:=by
 rintro b1 w2 hb hw
 obtain ⟨hz2,hn2⟩:=aO hb hw
 have hbb:(n+1) * i.bytes≤1000000001 * 1000:=Nat.mul_le_mul (by omega) hb2
 obtain ⟨ap,cap',w7,hrun,hown7,hk7,hap⟩:=Owns.append (P:=prog) (t:=S) (ty:=S) ht hi hz hzs hsz (Owns.new hn2 ho)
  (s:=some ⟨b1,0,none⟩) (m:=1) (c:=1) (news:=vs) (by omega) (eQ hz2 (by simp)) hs (by omega) (by omega)
 refine ⟨ap,n+1,cap',w7,hrun,hk b1 ap cap' w7 hb hown7 ((Keep.of_new hn2).trans hk7 λ_ _ h=>h) λk hk=>?_⟩
 rcases hap with e | e
 ·exact .inl (e▸hk)
 ·obtain ⟨o,ho⟩:=hk
  rw [e] at ho
  simp at ho
  have:=hn2.size
  omega
theorem lD {M:Nat→Prop} {w:World} {a:Option Addr} {xs:List Value} (h:Rd w a xs) (ho:∀ k,isB a k→¬ M k):xs=[]∨Off M a:=by
 rcases h with h | ⟨b,o,rfl,_⟩
 ·exact .inl h
 ·exact .inr (ho b ⟨o,rfl⟩)
theorem Owns.setCell {w:World} {e sz n cap g:Nat} {xs:List Value} (h:Owns w e sz (some ⟨g,0,none⟩) n cap xs) {i:Nat} (hi:i<n * sz) (v:Value):Owns (w.setCell ⟨g,i,none⟩ v) e sz (some ⟨g,0,none⟩) n cap (xs.set i v):=by
 rcases h.2 with ⟨h0,_⟩ | ⟨g',cur,he,hb,hle,hc,hl,ht⟩
 ·cases h0
 ·simp only [Option.some.injEq,Addr.mk.injEq,and_true] at he
  subst he
  refine ⟨by simp [h.1],.inr ⟨g,cur.set i v,rfl,hb.setCell v,hle,hc,by simp [hl],?_⟩⟩
  rw [←ht,List.take_set]
end Go.Proofs.YtgpmeaicjonenaaGreat
