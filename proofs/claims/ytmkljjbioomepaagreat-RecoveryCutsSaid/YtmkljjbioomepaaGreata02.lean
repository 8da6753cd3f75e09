import Derived.Test.YtmkljjbioomepaaGreata01
import Derived.Laws.AppendOwn
import Derived.Laws.Tables
import Derived.Below
import Derived.Test.YtmkljjbioomepaaGreatProg
set_option linter.all false
namespace Go.b8
open Go.RowKit
def aF (w:av) (b:Nat) (cs:aH) (T:TypeId):Prop:=w.heap[b]?=some (.cells cs.toArray T (0,0))
theorem aF.lt {w:av} {b:Nat} {cs:aH} {T:TypeId} (h:aF w b cs T):b<w.heap.size:=(L_.1 h).1
theorem aF.cell {w:av} {b i:Nat} {cs:aH} {T:TypeId} {v:bx} (h:aF w b cs T) (aD:cs[i]?=some v):w.cell? ⟨b,i,none⟩=some v:=by unfold World.cell?;simp only [show w.heap[(⟨b,i,none⟩:bh).block]?=_ from h];simpa using aD
theorem aF.frozen {w:av} {b i:Nat} {cs:aH} {T:TypeId} (h:aF w b cs T):w.frozen? ⟨b,i,none⟩=false:=by unfold World.frozen?;simp only [show w.heap[(⟨b,i,none⟩:bh).block]?=_ from h];simp
theorem aF.uniq {w:av} {b:Nat} {cs mY:aH} {T er:TypeId} (h:aF w b cs T) (gH:aF w b mY er):cs=mY/\T=er:=by unfold aF at *;rw [h] at gH;simp at gH;exact gH
theorem aF.ne {w:av} {b b':Nat} {cs mY:aH} {T er:TypeId} (h:aF w b cs T) (gH:aF w b' mY er) (bq:T≠er):b≠b':=by rintro rfl;exact bq (h.uniq gH).2
theorem Cj (w:av) (cs:aH) (T:TypeId):aF (w.alloc (.cells cs.toArray T)) w.heap.size cs T:=by unfold aF;show (w.heap.push _)[w.heap.size]?=_;simp
theorem af0 (w:av) (o:Obj) {k:Nat} (h:k<w.heap.size):(w.alloc o).heap[k]?=w.heap[k]?:=by show (w.heap.push o)[k]?=_;rw [Array.getElem?_push,if_neg (by omega)]
theorem aF.alloc {w:av} {b:Nat} {cs:aH} {T:TypeId} (h:aF w b cs T) (o:Obj):aF (w.alloc o) b cs T:=by unfold aF at *;rw [af0 _ _ (aF.lt h)];exact h
theorem Vu (w:av) (a:bh) (v:bx) {k:Nat} (h:k≠a.block):(w.setCell a v).heap[k]?=w.heap[k]?:=by simp only [World.setCell,Q7];rw [if_neg (Ne.symm h)]
theorem aF.setCell {w:av} {b i:Nat} {cs:aH} {T:TypeId} (h:aF w b cs T) (v:bx):aF (w.setCell ⟨b,i,none⟩ v) b (cs.set i v) T:=by unfold aF at *;simp only [World.setCell,Q7,if_true];rw [h];simp
theorem aF.afz {w:av} {b b' i:Nat} {cs:aH} {T:TypeId} (h:aF w b cs T) (cj:b≠b') (v:bx):aF (w.setCell ⟨b',i,none⟩ v) b cs T:=by unfold aF at *;rw [Vu _ _ _ (by simpa using cj)];exact h
def y0 (cs:aH) (i:Nat):aH->aH
 | []=>cs
 |v::vs=>y0 (cs.set i v) (i+1) vs
theorem tO (b o i:Nat):(⟨b,o,none⟩:bh).add i=⟨b,o+i,none⟩:=by
 unfold Addr.add;split
 ·rename_i h;subst h;rfl
 ·rfl
theorem aF.dO {b o:Nat} {T:TypeId}:∀ {vs:aH} {w:av} {cs:aH} {i:Nat},aF w b cs T->aF (dO w ⟨b,o,none⟩ i vs) b (y0 cs (o+i) vs) T
 | [],_,_,_,h=>h
 |v::vs,w,cs,i,h=>by unfold b8.dO y0;rw [tO];have:=aF.dO (o:=o) (vs:=vs) (i:=i+1) (h.setCell (i:=o+i) v);rw [Ma];exact this
theorem agp {b o:Nat}:∀ {vs:aH} {w:av} {i k:Nat},k≠b->(dO w ⟨b,o,none⟩ i vs).heap[k]?=w.heap[k]?
 | [],_,_,_,_=>rfl
 |v::vs,w,i,k,h=>by unfold b8.dO;rw [agp h,tO,Vu _ _ _ h]
theorem WG {b o:Nat}:∀ {vs:aH} {w:av} {i:Nat},(dO w ⟨b,o,none⟩ i vs).heap.size=w.heap.size
 | [],_,_=>rfl
 |v::vs,w,i=>by unfold b8.dO;rw [WG,World.size_setCell]
theorem af1:∀ {vs cs:aH} {i:Nat},(y0 cs i vs).length=cs.length
 | [],_,_=>rfl
 |v::vs,cs,i=>by unfold y0;rw [af1];simp
theorem Ck:∀ {vs cs:aH} {i:Nat},i+vs.length<=cs.length->y0 cs i vs=cs.take i++vs++cs.drop (i+vs.length)
 | [],cs,i,h=>by simp [y0]
 |v::vs,cs,i,h=>by
  unfold y0;simp only [l8] at h ⊢;rw [Ck (by simp;omega)];apply rL;intro j;simp only [CY,o2,C0,A3,uf,oy,gp,List.getElem?_cons,l8];have bY:min (i+1) cs.length=i+1:=by omega
  have bg:min i cs.length=i:=by omega
  rw [bY,bg];by_cases af:j<i
  ·simp only [af,show j<i+1 by omega,show j<i+1+vs.length by omega,show j<i+(vs.length+1) by omega,if_true,show ¬ i=j by omega,if_false]
  ·by_cases al:j=i
   ·subst al;simp only [show j<j+1 by omega,show j<j+1+vs.length by omega,show j<j+(vs.length+1) by omega,if_true,Nat.lt_irrefl,if_false,xL];simp [show j<cs.length by omega]
   ·by_cases aL:j<i+1+vs.length
    ·simp only [aL,show j<i+(vs.length+1) by omega,af,show ¬ j<i+1 by omega,if_true,if_false,show ¬ j - i=0 by omega];rw [show j - i - 1=j - (i+1) by omega]
    ·simp only [aL,show ¬ j<i+(vs.length+1) by omega,if_false,show ¬ i=i+1+vs.length+(j - (i+1+vs.length)) by omega];rw [show i+1+vs.length+(j - (i+1+vs.length))=i+(vs.length+1)+(j - (i+(vs.length+1))) by omega]
theorem kA {w:av} {b o:Nat} {cs:aH} {T:TypeId} (h:aF w b cs T):∀ {vs:aH} {i:Nat},o+i+vs.length<=cs.length->(∀ v ∈ vs,single v=true)->ha w ⟨b,o,none⟩ i vs
 | [],_,_,_=>trivial
 |v::vs,i,au,aX=>by
  simp only [l8] at au;have aK:o+i<cs.length:=by omega
  refine ⟨⟨cs[o+i],?_⟩,?_,aX v (by simp),kA h (by omega) (λu hu=>aX u (by simp [hu]))⟩
  ·rw [tO];exact h.cell (by simp [aK])
  ·rw [tO];exact h.frozen
theorem td {w:av} {b o:Nat}:∀ {vs:aH} {i:Nat},(∀ j v,vs[j]?=some v->w.cell? ⟨b,o+i+j,none⟩=some v)->df w ⟨b,o,none⟩ i vs
 | [],_,_=>trivial
 |v::vs,i,h=>by
  refine ⟨?_,td λj u hu=>?_⟩
  ·rw [tO];have:=h 0 v (by simp);simpa using this
  ·have:=h (j+1) u (by simpa using hu);rw [show o+(i+1)+j=o+i+(j+1) by omega];exact this
theorem cD {w:av} {b o:Nat} {cs vs:aH} {T:TypeId} (h:aF w b cs T) (aw:(cs.drop o).take vs.length=vs):df w ⟨b,o,none⟩ 0 vs:=by
 refine td λj v c_=>h.cell ?_
 have:((cs.drop o).take vs.length)[j]?=some v:=by rw [aw];exact c_
 rw [A3] at this;split at this
 ·rw [uf] at this;simpa using this
 ·cases this
theorem QJ {rows:List aH} {sz:Nat} (aX:∀ r ∈ rows,r.length=sz) {i k:Nat} {r:aH} {v:bx} (aD:rows[i]?=some r) (J:r[k]?=some v):rows.flatten[i * sz+k]?=some v:=by
 induction rows generalizing i with
 |nil=>simp at aD
 |cons q rows c5=>
  have aM:=aX q (by simp);cases i with
  |zero=>
   simp only [FB,iX] at aD;subst aD;have:k<q.length:=by
    rcases A1 k q.length with h | h
    ·exact h
    ·rw [ug h] at J;cases J
   simp only [l7,Me,l6];rw [nA this];exact J
  |succ i=>simp only [zg] at aD;simp only [l7];rw [nB (by rw [nz];omega)];have:=c5 (λr aA=>aX r (by simp [aA])) aD;rw [show (i+1) * sz+k - q.length=i * sz+k by rw [nz];omega];exact this
theorem vP {rows:List aH} {sz:Nat} (aX:∀ r ∈ rows,r.length=sz):rows.flatten.length=rows.length * sz:=by
 induction rows with
 |nil=>simp
 |cons q rows c5=>simp only [l7,gp,l8,aX q (by simp),c5 (λr aA=>aX r (by simp [aA])),nz];omega
theorem Rd {rows:List aH} {sz:Nat} (aX:∀ r ∈ rows,r.length=sz) {i k:Nat} {r:aH} (v:bx) (aD:rows[i]?=some r) (J:k<sz):rows.flatten.set (i * sz+k) v=(rows.set i (r.set k v)).flatten:=by
 induction rows generalizing i with
 |nil=>simp at aD
 |cons q rows c5=>
  have aM:=aX q (by simp);cases i with
  |zero=>simp only [FB,iX] at aD;subst aD;simp only [l7,Me,l6,Q0];rw [List.set_append_left _ _ (by omega)]
  |succ i=>simp only [zg] at aD;simp only [l7,WP];rw [WO _ _ (by rw [nz];omega),<-c5 (λr aA=>aX r (by simp [aA])) aD];congr 2;rw [nz];omega
theorem agB {rows:List aH} {sz:Nat} (aX:∀ r ∈ rows,r.length=sz) {i:Nat} (aD:i<rows.length) {vs:aH} (aw:vs.length=sz):y0 rows.flatten (i * sz) vs=(rows.set i vs).flatten:=by
 have au:=vP aX;have ak:i * sz+sz<=rows.length * sz:=by have:=Ib sz (show i+1<=rows.length from aD);rw [nz] at this;exact this
 rw [Ck (by rw [au,aw];exact ak)];clear ak;induction rows generalizing i with
 |nil=>simp at aD
 |cons q rows c5=>
  have aM:=aX q (by simp);cases i with
  |zero=>simp only [l7,Me,List.take_zero,xN,l6,Q0];rw [List.drop_append_of_le_length (by omega),WS (by omega),xN]
  |succ i=>simp only [l8] at aD;have:=c5 (λr aA=>aX r (by simp [aA])) (i:=i) (by omega) (vP λr aA=>aX r (by simp [aA]));simp only [l7,WP];rw [<-this,List.take_append,List.drop_append];rw [ny (by rw [nz];omega),WS (by rw [nz];omega)];rw [show (i+1) * sz - q.length=i * sz by rw [nz];omega,show (i+1) * sz+vs.length - q.length=i * sz+vs.length by rw [nz];omega];simp
structure ay (M:bB) (w w':av):Prop where
 os:w'.os=w.os
 tape:w'.tape=w.tape
 output:w'.output=w.output
 size:w.heap.size<=w'.heap.size
 block:∀ k,k<w.heap.size->¬ M k->w'.heap[k]?=w.heap[k]?
abbrev ai (w w':av):Prop:=ay (λ_=>False) w w'
theorem ay.refl (M:bB) (w:av):ay M w w:=⟨rfl,rfl,rfl,eJ _,λ_ _ _=>rfl⟩
theorem ay.trans {M M':bB} {a b c:av} (h:ay M a b) (k:ay M' b c) (c1:∀ i,i<a.heap.size->M' i->M i):ay M a c:=
 ⟨k.os.trans h.os,k.tape.trans h.tape,k.output.trans h.output,ud h.size k.size,λi aD hm=>
  (k.block i (ks aD h.size) (λg4=>hm (c1 i aD g4))).trans (h.block i aD hm)⟩
theorem ay.mono {M M':bB} {a b:av} (h:ay M a b) (c1:∀ i,i<a.heap.size->M i->M' i):ay M' a b:=
 ⟨h.os,h.tape,h.output,h.size,λi aD hm=>h.block i aD (λg4=>hm (c1 i aD g4))⟩
theorem ay.db {M:bB} {a b:av} (h:ai a b):ay M a b:=h.mono λ_ _ aJ=>aJ.elim
theorem ay.new {M:bB} {a b c:av} (h:ay M a b) (k:ai b c):ay M a c:=h.trans k λ_ _ aJ=>aJ.elim
theorem mE (w:av) (o:Obj):ai w (w.alloc o):=⟨rfl,rfl,rfl,by simp,λk J _=>af0 _ _ J⟩
theorem eh (w:av):ai w w.drew:=⟨rfl,rfl,rfl,eJ _,λ_ _ _=>rfl⟩
theorem ay.alloc {M:bB} {a w:av} (h:ay M a w) (o:Obj):ay M a (w.alloc o):=h.new (mE w o)
theorem ay.drew {M:bB} {a w:av} (h:ay M a w):ay M a w.drew:=h.new (eh w)
theorem iu (w:av) (b i:Nat) (v:bx):ay (λk=>k=b) w (w.setCell ⟨b,i,none⟩ v):=
 ⟨rfl,rfl,rfl,by simp,λk _ hm=>Vu _ _ _ hm⟩
theorem ay.setCell {M:bB} {a w:av} (h:ay M a w) {b i:Nat} (ak:M b\/a.heap.size<=b) (v:bx):ay M a (w.setCell ⟨b,i,none⟩ v):=
 h.trans (iu w b i v) λk J hm=>by rcases ak with ak | ak;exact hm▸ak;omega
theorem Mw {b o:Nat}:∀ {vs:aH} {w:av} {i:Nat},(dO w ⟨b,o,none⟩ i vs).os=w.os/\(dO w ⟨b,o,none⟩ i vs).tape=w.tape/\(dO w ⟨b,o,none⟩ i vs).output=w.output
 | [],_,_=>⟨rfl,rfl,rfl⟩
 |v::vs,w,i=>by unfold b8.dO;have:=Mw (b:=b) (o:=o) (vs:=vs) (w:=w.setCell ((⟨b,o,none⟩:bh).add i) v) (i:=i+1);exact this
theorem nI (w:av) (b o i:Nat) (vs:aH):ay (λk=>k=b) w (dO w ⟨b,o,none⟩ i vs):=
 ⟨Mw.1,Mw.2.1,Mw.2.2,by rw [WG];exact eJ _,λk _ hm=>agp hm⟩
theorem ay.dO {M:bB} {a w:av} (h:ay M a w) {b o i:Nat} (ak:M b\/a.heap.size<=b) (vs:aH):ay M a (dO w ⟨b,o,none⟩ i vs):=
 h.trans (nI w b o i vs) λk J hm=>by rcases ak with ak | ak;exact hm▸ak;omega
theorem ay.an {M:bB} {w w':av} (h:ay M w w') {b:Nat} {cs:aH} {T:TypeId} (ak:aF w b cs T) (hm:¬ M b):aF w' b cs T:=by unfold aF at *;rw [h.block b (aF.lt ak) hm];exact ak
theorem ai.an {w w':av} (h:ai w w') {b:Nat} {cs:aH} {T:TypeId} (ak:aF w b cs T):aF w' b cs T:=ay.an h ak id
theorem ay.below {M:bB} {w w':av} {B:Nat} (h:ay M w w') (hy:B<=w.heap.size) (c1:∀ k,k<B->¬ M k):Below B w w':=
 ⟨h.os,h.tape,h.output,h.size,λk J=>h.block k (ks J hy) (c1 k J)⟩
theorem Hi {w w':av} {row:Option Nat} (h:w.grownBy w' row):ay (λk=>some k=row) w w':=⟨h.os,h.tape,h.output,h.size,λk J hm=>h.block k J hm⟩
def bW (w:av) (a:ax) (xs:aH):Prop:=
 xs=[]\/∃ b o,a=some ⟨b,o,none⟩/\∀ j u,xs[j]?=some u->w.cell? ⟨b,o+j,none⟩=some u
theorem Mx {w:av} {a:bh} {v:bx} (h:w.cell? a=some v):a.block<w.heap.size:=by
 unfold World.cell? at h;cases ak:w.heap[a.block]? with
 |none=>rw [ak] at h;cases h
 |some o=>exact (L_.1 ak).1
theorem qn {M:bB} {w w':av} (h:ay M w w') {a:bh} {v:bx} (ab:w.cell? a=some v) (hm:¬ M a.block):w'.cell? a=some v:=by rw [World.cell?_of_block (h.block _ (Mx ab) hm)];exact ab
def kR (M:bB):ax->Prop
 |some a=>¬ M a.block
 |none=>True
theorem bW.aO {M:bB} {w w':av} (h:ay M w w') {a:ax} {xs:aH} (aA:bW w a xs) (hm:xs=[]\/kR M a):bW w' a xs:=by
 rcases aA with rfl | ⟨b,o,rfl,ab⟩
 ·exact .inl rfl
 ·rcases hm with rfl | hm
  ·exact .inl rfl
  ·exact .inr ⟨b,o,rfl,λj u hu=>qn h (ab j u hu) hm⟩
theorem bW.new {w w':av} (h:ai w w') {a:ax} {xs:aH} (aA:bW w a xs):bW w' a xs:=by
 refine aA.aO h ?_;cases a with
 |none=>exact .inr trivial
 |some a=>exact .inr id
theorem bW.nil (w:av) (a:ax):bW w a []:=.inl rfl
theorem bW.lt {w:av} {a:bh} {xs:aH} (aA:bW w (some a) xs) (ao:xs≠[]):a.block<w.heap.size:=by
 rcases aA with rfl | ⟨b,o,he,ab⟩
 ·exact absurd rfl ao
 ·cases xs with
  |nil=>exact absurd rfl ao
  |cons v vs=>have:=Mx (ab 0 v rfl);simp only [iX] at he;rw [he];exact this
theorem jk {w:av} {b:Nat} {cs xs:aH} {T:TypeId} (h:aF w b cs T) {o:Nat} (ao:(cs.drop o).take xs.length=xs):bW w (some ⟨b,o,none⟩) xs:=by
 refine .inr ⟨b,o,rfl,λj u hu=>h.cell ?_⟩;have:((cs.drop o).take xs.length)[j]?=some u:=by rw [ao];exact hu
 rw [A3] at this;split at this
 ·rw [uf] at this;exact this
 ·cases this
theorem bW.take {w:av} {a:ax} {xs:aH} (h:bW w a xs) (n:Nat):bW w a (xs.take n):=by
 rcases h with rfl | ⟨b,o,rfl,ab⟩
 ·simp;exact .inl rfl
 ·refine .inr ⟨b,o,rfl,λj u hu=>?_⟩;rw [A3] at hu;split at hu
  ·exact ab j u hu
  ·cases hu
theorem bW.drop {w:av} {b o:Nat} {xs:aH} (h:bW w (some ⟨b,o,none⟩) xs) (n:Nat):bW w (some ⟨b,o+n,none⟩) (xs.drop n):=by
 rcases h with rfl | ⟨b',gk,he,ab⟩
 ·simp;exact .inl rfl
 ·simp only [iX,Addr.mk.injEq,and_true] at he;obtain ⟨rfl,rfl⟩:=he;refine .inr ⟨b,o+n,rfl,λj u hu=>?_⟩;rw [uf] at hu;rw [Ma];exact ab _ _ hu
theorem bW.cell {w:av} {b o:Nat} {xs:aH} (h:bW w (some ⟨b,o,none⟩) xs) {j:Nat} {u:bx} (hu:xs[j]?=some u):w.cell? ⟨b,o+j,none⟩=some u:=by
 rcases h with rfl | ⟨b',gk,he,ab⟩
 ·simp at hu
 ·simp only [iX,Addr.mk.injEq,and_true] at he;obtain ⟨rfl,rfl⟩:=he;exact ab j u hu
def bu (w:av) (e sz:Nat) (a:ax) (n cap:Nat) (xs:aH):Prop:=
 xs.length=n * sz/\((a=none/\n=0/\cap=0)\/∃ g cur,a=some ⟨g,0,none⟩/\aF w g cur e/\n<=cap/\cap<=maxLen/\cur.length=cap * sz/\cur.take (n * sz)=xs)
def a7 (a:ax) (k:Nat):Prop:=∃ o,a=some ⟨k,o,none⟩
theorem bu.nil (w:av) (e sz:Nat):bu w e sz none 0 0 []:=⟨by simp,.inl ⟨rfl,rfl,rfl⟩⟩
theorem bu.aO {M:bB} {w w':av} (h:ay M w w') {e sz n cap:Nat} {a:ax} {xs:aH} (aq:bu w e sz a n cap xs) (hm:∀ k,a7 a k->¬ M k):bu w' e sz a n cap xs:=by
 refine ⟨aq.1,?_⟩;rcases aq.2 with aj | ⟨g,cur,rfl,ak,rest⟩
 ·exact .inl aj
 ·exact .inr ⟨g,cur,rfl,h.an ak (hm g ⟨0,rfl⟩),rest⟩
theorem bu.new {w w':av} (h:ai w w') {e sz n cap:Nat} {a:ax} {xs:aH} (aq:bu w e sz a n cap xs):bu w' e sz a n cap xs:=aq.aO h λ_ _=>id
theorem bu.rd {w:av} {e sz n cap:Nat} {a:ax} {xs:aH} (aq:bu w e sz a n cap xs):bW w a xs:=by
 rcases aq.2 with ⟨_,aj,_⟩ | ⟨g,cur,rfl,ak,_,_,_,aZ⟩
 ·refine .inl (jR ?_);rw [aq.1,aj];simp
 ·refine jk ak ?_;rw [Mg,aq.1];exact aZ
theorem bu.lt {w:av} {e sz n cap:Nat} {a:ax} {xs:aH} (aq:bu w e sz a n cap xs) {k:Nat} (J:a7 a k):k<w.heap.size:=by
 obtain ⟨o,rfl⟩:=J;rcases aq.2 with ⟨h,_⟩ | ⟨g,cur,he,ak,_⟩
 ·cases h
 ·simp at he;rw [he.1];exact ak.lt
theorem bu.le {w:av} {e sz n cap:Nat} {a:ax} {xs:aH} (aq:bu w e sz a n cap xs):n<=cap:=by
 rcases aq.2 with ⟨_,aj,ab⟩ | ⟨g,cur,_,_,h,_⟩
 ·omega
 ·exact h
theorem af2 {v:bx} (h:single v=true):v.oneCell'=true:=by cases v<;>simp [single] at h<;>rfl
theorem bu.append {P:Program} {w:av} {t ty e:TypeId} {i:TypeInfo} {z:bx} (aZ:P.underlying t=some (.slice e)) (aD:P.info? e=some i) (aE:i.zero=some z) (sv:z.cells.size=i.size) (cr:0<i.size)
  {a:ax} {n cap:Nat} {xs:aH} (aq:bu w e i.size a n cap xs) {s:ax} {m c:Nat} {news:aH} (au:news.length=m * i.size) (aX:bW w s news) (af:∀ u ∈ news,single u=true)
  (bA:n+m<=140737488355328) (cv:(n+m) * i.bytes<=140737488355328) :
  ∃ cB bU w',(Builtin.append_ #[t,t] ty #[.slice a n cap,.slice s m c]).run P w=.ok (.slice cB (n+m) bU) w'/\bu w' e i.size cB (n+m) bU (xs++news)/\ay (a7 a) w w'/\
   (cB=a\/cB=some ⟨w.heap.size,0,none⟩):=by
 have hlen:(xs++news).length=(n+m) * i.size:=by rw [gp,aq.1,au,Fx]
 have ar7:n+m<=maxLen:=by simp only [maxLen];omega
 have grown:∀ (old:Nat),old<n+m->
   bu (w.drew.alloc (.cells (xs.toArray++news.toArray++Builtin.zeroCells z.cells (grownCap w (n+m) old e - (n+m))) e)) e i.size (some ⟨w.heap.size,0,none⟩) (n+m) (grownCap w (n+m) old e) (xs++news):=by
  intro old hold;have hQ:=grownCap_ge w (n+m) old e;refine ⟨hlen,.inr ⟨w.heap.size,xs++news++(Builtin.zeroCells z.cells (grownCap w (n+m) old e - (n+m))).toList,rfl,?_,hQ,grownCap_le_maxLen w (n+m) old e ar7,?_,?_⟩⟩
  ·have al:=Cj w.drew (xs++news++(Builtin.zeroCells z.cells (grownCap w (n+m) old e - (n+m))).toList) e;have aL:(xs++news++(Builtin.zeroCells z.cells (grownCap w (n+m) old e - (n+m))).toList).toArray=xs.toArray++news.toArray++Builtin.zeroCells z.cells (grownCap w (n+m) old e - (n+m)):=by apply Array.ext';simp
   rw [aL] at al;exact al
  ·rw [gp,hlen,Array.length_toList,size_zeroCells,sv,<-Fx];congr 1;omega
  ·rw [<-hlen];exact List.take_left
 have aex:∀ o,ay (a7 a) w (w.drew.alloc o):=λo=>ay.db ((eh w).alloc o)
 by_cases hm:m=0
 ·subst hm;have aj:news=[]:=jR (by simpa using au);subst aj;refine ⟨a,cap,w,?_,by simpa using aq,ay.refl _ _,.inl rfl⟩;have hle:=aq.le;have aDW:n+0<=cap:=by omega
  cases a with
  |none=>
   cases s with
   |none=>simp [Builtin.append_,run_underlying aZ,sizeOf,typeInfo,aD,Builtin.lenOf,hle,Builtin.firstCells]
   |some s=>simp [Builtin.append_,run_underlying aZ,sizeOf,typeInfo,aD,Builtin.lenOf,hle,Builtin.firstCells,loadCells,loadCellsFrom]
  |some a=>
   cases s with
   |none=>simp [Builtin.append_,run_underlying aZ,sizeOf,typeInfo,aD,Builtin.lenOf,hle,Builtin.firstCells,storeCells]
   |some s=>simp [Builtin.append_,run_underlying aZ,sizeOf,typeInfo,aD,Builtin.lenOf,hle,Builtin.firstCells,loadCells,loadCellsFrom,storeCells]
 ·have cj:news≠[]:=by
   intro ab;have aN:m * i.size=0:=by rw [<-au,ab];rfl
   rcases Nat.mul_eq_zero.1 aN with h | h<;>omega
  rcases aX with ab | ⟨sb,so,rfl,jl⟩
  ·exact absurd ab cj
  have Eg:∀ j u,news[j]?=some u->w.cell? ((⟨sb,so,none⟩:bh).add j)=some u:=λj u hu=>by rw [tO];exact jl j u hu
  have yf:∀ u ∈ news,u.oneCell'=true:=λu hu=>af2 (af u hu)
  rcases aq.2 with ⟨rfl,rfl,rfl⟩ | ⟨g,cur,rfl,a',BY,BM,dG,Af⟩
  ·have ao:xs=[]:=jR (by simpa using aq.1);subst ao;have aA:=run_append_nil (P:=P) w t ty e i z aZ aD aE ⟨sb,so,none⟩ m c news au Eg (by omega) (by omega) (by simp only [l6] at cv;omega);have OG:=grown 0 (by omega);simp only [l6,xN,Array.empty_append] at OG ⊢;exact ⟨_,_,_,aA,OG,aex _,.inr rfl⟩
  ·by_cases Eo:n+m<=cap
   ·have gv:n * i.size+news.length<=cur.toArray.size:=by rw [au,List.size_toArray,dG,<-Fx];exact Ib _ Eo
    have aA:=run_append_room (P:=P) w t ty e i aZ aD g n cap cur.toArray a' ⟨sb,so,none⟩ m c news au Eg yf Eo gv;refine ⟨_,_,_,aA,⟨hlen,.inr ⟨g,_,rfl,setRow_heap w g cur.toArray _ e _ a',Eo,BM,?_,?_⟩⟩,⟨rfl,rfl,rfl,by simp,λk _ J=>setRow_other w g k _ (λe=>J ⟨0,by rw [e]⟩)⟩,.inl rfl⟩
    ·simp only [gp,o2,vq] at *;simp at gv <;> omega
    ·rw [Af,<-hlen];exact List.take_left
   ·have holds:∀ j u,xs[j]?=some u->w.cell? ((⟨g,0,none⟩:bh).add j)=some u:=λj u hu=>by rw [tO];exact aq.rd.cell hu
    have aA:=run_append_grow (P:=P) w t ty e i z aZ aD aE ⟨g,0,none⟩ n cap xs aq.1 holds ⟨sb,so,none⟩ m c news au Eg (by omega) (by omega) (growslice_fits (by omega) cv);exact ⟨_,_,_,aA,grown cap (by omega),aex _,.inr rfl⟩
theorem bW.row {w:av} {a:ax} {rows:List aH} {sz:Nat} (h:bW w a rows.flatten) (aX:∀ r ∈ rows,r.length=sz) (aE:0<sz) {i:Nat} {r:aH} (aD:rows[i]?=some r) :
  ∃ b o,a=some ⟨b,o,none⟩/\df w ⟨b,o+i * sz,none⟩ 0 r/\∀ k v,r[k]?=some v->w.cell? ⟨b,o+i * sz+k,none⟩=some v:=by
 have aA:=aX r (dn aD);rcases h with h | ⟨b,o,rfl,ab⟩
 ·have:=QJ aX aD (k:=0) (v:=r[0]) (by simp [aA,aE]);rw [h] at this;simp at this
 ·have key:∀ k v,r[k]?=some v->w.cell? ⟨b,o+i * sz+k,none⟩=some v:=λk v J=>by rw [Ma];exact ab _ _ (QJ aX aD J)
  exact ⟨b,o,rfl,td λj v c_=>by simpa using key j v c_,key⟩
theorem Cf {cs vs:aH} (h:vs.length=cs.length):y0 cs 0 vs=vs:=by rw [Ck (by omega)];simp [h]
theorem b4 {u w1:av} {b1:Nat} {zs:Array bx} {T:TypeId} (ak:b1=u.heap.size) (hw:w1=u.alloc (.cells zs T)):aF w1 b1 zs.toList T/\ai u w1:=by subst ak hw;exact ⟨by simpa using Cj u zs.toList T,mE _ _⟩
theorem Av {u w1 aS:av} {b:Nat} {cs vs:aH} {T:TypeId} (h:aF w1 b cs T) (au:vs.length=cs.length) (aj:ai u w1) (ak:u.heap.size<=b) (hw:aS=dO w1 ⟨b,0,none⟩ 0 vs):aF aS b vs T/\ai u aS:=by subst hw;refine ⟨?_,aj.dO (.inr ak) _⟩;have:=h.dO (o:=0) (i:=0) (vs:=vs);rw [Cf au] at this;exact this
end Go.b8
namespace Go.b8
theorem kk {b:Bool} {A B:Prop} (aZ:b=true->A) (aJ:b=false->B):(bif b then A else B):=by
 cases b
 ·exact aJ rfl
 ·exact aZ rfl
theorem bL {p:Prop} [Decidable p] {A B:Prop} (aZ:p->A) (aJ:¬ p->B):(bif decide p then A else B):=
 kk (λh=>aZ (of_decide_eq_true h)) (λh=>aJ (of_decide_eq_false h))
theorem gX {x y:Int} {A B:Prop} (aZ:x=y->A) (aJ:x≠y->B):(bif (x == y) then A else B):=
 kk (λh=>aZ (by simpa using h)) (λh=>aJ (by simpa using h))
theorem fX {x y:Int} {A B:Prop} (aZ:x≠y->A) (aJ:x=y->B):(bif (x != y) then A else B):=
 kk (λh=>aZ (by simpa using h)) (λh=>aJ (by simpa using h))
theorem ht {b:Bool} {A B:Prop} (aJ:b=false->A) (aZ:b=true->B):(bif (!b) then A else B):=by
 cases b
 ·exact aJ rfl
 ·exact aZ rfl
theorem g8 {b:Bool} {A B:Prop} (ak:b=true) (h:A):(bif b then A else B):=by subst ak;exact h
theorem eX {b:Bool} {A B:Prop} (ak:b=false) (h:B):(bif b then A else B):=by subst ak;exact h
theorem hc {b o len sz:Nat} {n:Int} {K:bh->Prop} (aN:0<=n) (af:n<len) (h:K ⟨b,o+n.toNat * sz,none⟩):cb (some ⟨b,o,none⟩) len n sz K:=
 ⟨_,rfl,aN,af,by rw [tO];exact h⟩
theorem yR {b o len sz:Nat} {n:Int} {K:bh->Prop} (aN:0<=n) (af:n<len) (h:K ⟨b,o+n.toNat * sz,none⟩):tE ⟨b,o,none⟩ len n sz K:=
 ⟨aN,af,by rw [tO];exact h⟩
theorem sB {b o len cap sz:Nat} {mP aD nV:Int} {K:ax->Nat->bB} (aN:0<=mP) (af:mP<=aD) (al:aD<=nV) (aL:nV<=cap) (ca:len<=cap)
  (h:∀ a,(a=some ⟨b,o+mP.toNat * sz,none⟩\/aD=mP/\a=some ⟨b,o,none⟩)->K a (aD.toNat - mP.toNat) (nV.toNat - mP.toNat)):ns (some ⟨b,o,none⟩) len cap mP aD nV sz K:=by
 refine ⟨aN,af,al,aL,ca,h _ ?_⟩;split
 ·rename_i he;exact .inr ⟨by omega,rfl⟩
 ·refine .inl ?_;simp only [xM,tO]
theorem cn {x:Int} (aN:-9223372036854775808<=x) (af:x<9223372036854775808):IntKind.i64.wrap x=x:=by simp only [IntKind.wrap,IntKind.bits,IntKind.signed];simp;omega
theorem rJ {x:Int} (aN:0<=x) (af:x<18446744073709551616):IntKind.u64.wrap x=x:=by simp only [IntKind.wrap,IntKind.bits,IntKind.signed];simp;omega
end Go.b8
namespace Go.Proofs.YtmkljjbioomepaaGreat
open Go.Proofs.Tryz Go.b8
section
theorem mix:prog.follows .mixedOrders=true:=by kernel_rfl
abbrev bK (f:FuncId) (args:aH) (w:av) (R:dW):Prop:=Calls prog f args.toArray w λe w'=>∃ v,e=.returned v/\R v w'
theorem bO {f:FuncId} {fn:Func} {args:aH} {w:av} {R:dW} (aJ:prog.funcs[f]?=some fn) (h:bS prog fn args R w):bK f args w R:=ajm mix aJ h
theorem aR {f:FuncId} {args:Array bx} {w:av} {R:dW} {Q:Ending->aV} (h:Calls prog f args w λe w'=>∃ v,e=.returned v/\R v w') (aM:∀ v w',R v w'->Q (.returned v) w'):Calls prog f args w Q:=
 h.mono λe w' ⟨v,he,aA⟩=>he▸aM v w' aA
theorem j5 {T:TypeId} {z:bx} {n m:Nat} (h:(prog.info? T).map (λi=>(i.zero,i.size,i.bytes))=some (some z,n,m)):∃ i,prog.info? T=some i/\i.zero=some z/\i.size=n/\i.bytes=m:=by
 cases aD:prog.info? T with
 |none=>rw [aD] at h;cases h
 |some i=>rw [aD] at h;simp at h;exact ⟨i,rfl,h.1,h.2.1,h.2.2⟩
end
section
def gF (x:Int):Prop:=-9223372036854775808<=x/\x<9223372036854775808
def dp (x:Int):Prop:=0<=x/\x<18446744073709551616
theorem dy {α:Type} {l:List α} {i:Nat} {x:α} (h:l[i]?=some x):i<l.length:=(uh.1 h).1
def us (l:bR):aH:=l.map (Value.int .u64)
def is (l:bR):aH:=l.map (Value.int .i64)
theorem It {l:bR} {i:Nat} {x:Int} (h:l[i]?=some x):(us l)[i]?=some (.int .u64 x):=by simp [us,h]
theorem m9 (l:bR):(us l).length=l.length:=by simp [us]
theorem Cl (l:bR):∀ u ∈ us l,single u=true:=by intro u hu;simp only [us,eQ] at hu;obtain ⟨x,_,rfl⟩:=hu;rfl
theorem GT (l:bR):∀ u ∈ is l,single u=true:=by intro u hu;simp only [is,eQ] at hu;obtain ⟨x,_,rfl⟩:=hu;rfl
theorem gL {u:av} {b:Nat} {cs vs:aH} {T:TypeId} {K:aV} (ak:aF u b cs T) (au:vs.length=cs.length) (aX:∀ v ∈ vs,single v=true) (J:∀ w',aF w' b vs T->ay (λk=>k=b) u w'->K w') :
  ha u ⟨b,0,none⟩ 0 vs/\∀ w',w'=dO u ⟨b,0,none⟩ 0 vs->K w':=by
 refine ⟨kA ak (by omega) aX,?_⟩;rintro w' rfl;refine J _ ?_ (nI _ _ _ _ _);have h:=ak.dO (o:=0) (i:=0) (vs:=vs);rw [Cf au] at h;exact h
theorem g0 {u:av} {zs vs:aH} {T:TypeId} {K:Nat->aV} (au:vs.length=zs.length) (aX:∀ v ∈ vs,single v=true) (J:∀ b w',b=u.heap.size->aF w' b vs T->ai u w'->K b w') :
  ∀ b1 w1,b1=u.heap.size->w1=u.alloc (.cells zs.toArray T)->ha w1 ⟨b1,0,none⟩ 0 vs/\∀ aS,aS=dO w1 ⟨b1,0,none⟩ 0 vs->K b1 aS:=by
 rintro b1 w1 bA br;obtain ⟨aE,aj⟩:=b4 bA br;refine gL aE (by simpa using au) aX λw' pg dQ=>J b1 w' bA pg (aj.trans dQ λk aK e=>?_)
 omega
theorem Hr {u z aY:av} {a:ax} (aj:ai u z) (J:ay (a7 a) z aY) (bc:∀ k,a7 a k->u.heap.size<=k):ai u aY:=
 aj.trans J λk aK ak=>by have:=bc k ak;omega
theorem hq {α:Type} {cells:α->aH} {sz:Nat} (cr:∀ x,(cells x).length=sz) (aN:0<sz) {u:av} {a:ax} {l:List α} (h:bW u a (l.map cells).flatten) {i:Nat} {x:α} (ao:l[i]?=some x) {z:Int} (aE:z=i) {n:Nat} (aj:n=l.length) {K:bh->Prop}
  (J:∀ b o,df u ⟨b,o,none⟩ 0 (cells x)->(∀ (q:Nat) (v:bx),(cells x)[q]?=some v->u.cell? ⟨b,o+q,none⟩=some v)->K ⟨b,o,none⟩):cb a n z sz K:=by
 subst aE aj;have aK:=dy ao;obtain ⟨b,o,rfl,af,al⟩:=h.row (sz:=sz) (λr aA=>by obtain ⟨y,_,rfl⟩:=eQ.1 aA;exact cr y) aN (i:=i) (r:=cells x) (by simp [ao]);exact hc (by omega) (by omega) (by simpa using J b _ af al)
theorem pw {α:Type} {cells:α->aH} {sz:Nat} (cr:∀ x,(cells x).length=sz) (aN:0<sz) {u:av} {a:ax} {l:List α} (h:bW u a (l.map cells).flatten) {i:Nat} {x:α} (ao:l[i]?=some x) {z:Int} (aE:z=i) {n:Nat} (aj:n=l.length) {K:bh->Prop}
  (J:∀ b o,(∀ y,ai u y->∀ (q:Nat) (v:bx),(cells x)[q]?=some v->y.cell? ⟨b,o+q,none⟩=some v)->K ⟨b,o,none⟩):cb a n z sz K:=by
 subst aE aj;have aK:=dy ao;have aX:∀ r ∈ l.map cells,r.length=sz:=λr aA=>by obtain ⟨y,_,rfl⟩:=eQ.1 aA;exact cr y
 obtain ⟨b,o,rfl,af,al⟩:=h.row (sz:=sz) aX aN (i:=i) (r:=cells x) (by simp [ao]);refine hc (by omega) (by omega) ?_;have:=J b (o+i * sz) λy az q v aw=>by obtain ⟨b',gk,e,_,bI⟩:=(h.new az).row (sz:=sz) aX aN (i:=i) (r:=cells x) (by simp [ao]);simp at e;obtain ⟨rfl,rfl⟩:=e;exact bI q v aw
 simpa using this
theorem qJ {x:Int} (aN:0<=x) (af:x<18446744073709551616):IntKind.u64.wrap x=x:=by simp only [IntKind.wrap,IntKind.bits,IntKind.signed];simp;omega
theorem QA (n:Nat):BitVec.ofInt 64 (n:Int)=BitVec.ofNat 64 n:=by apply BitVec.eq_of_toInt_eq;simp
theorem L6 (a b:Nat) (bc:a<18446744073709551616) (ak:b<18446744073709551616):pI .u64 (a:Int) (b:Int)=((a ||| b:Nat):Int):=by have zU:a ||| b<2 ^ 64:=Nat.or_lt_two_pow (by omega) (by omega);unfold pI;show IntKind.u64.wrap ((BitVec.ofInt 64 (a:Int) ||| BitVec.ofInt 64 (b:Int)).toNat:Int)=_;rw [QA,QA,BitVec.toNat_or,BitVec.toNat_ofNat,BitVec.toNat_ofNat,Ia (by omega),Ia (by omega)];exact qJ (by omega) (by omega)
theorem ajn (a b:Nat) (bc:a<18446744073709551616) (ak:b<18446744073709551616):jC .u64 (a:Int) (b:Int)=((a &&& b:Nat):Int):=by have zU:a &&& b<2 ^ 64:=Nat.and_lt_two_pow _ (by omega);unfold jC;show IntKind.u64.wrap ((BitVec.ofInt 64 (a:Int) &&& BitVec.ofInt 64 (b:Int)).toNat:Int)=_;rw [QA,QA,BitVec.toNat_and,BitVec.toNat_ofNat,BitVec.toNat_ofNat,Ia (by omega),Ia (by omega)];exact qJ (by omega) (by omega)
theorem MQ (a b k:Nat) (ak:b<2 ^ k):a * 2 ^ k ||| b=a * 2 ^ k+b:=by rw [Mc,Nat.two_pow_add_eq_or_of_lt ak]
theorem FU {u:av} {b o:Nat} {cs:aH} {T:TypeId} {v:bx} {K:aV} (ak:aF u b cs T) (aq:o<cs.length) (J:∀ w',aF w' b (cs.set o v) T->ay (λk=>k=b) u w'->K w') :
  (∃ x,u.cell? ⟨b,o,none⟩=some x)/\u.frozen? ⟨b,o,none⟩=false/\∀ w',w'=u.setCell ⟨b,o,none⟩ v->K w':=
 ⟨⟨_,ak.cell (cp aq)⟩,ak.frozen,λw' h=>by subst h;exact J _ (ak.setCell v) (iu _ _ _ _)⟩
theorem ajo {P:Program} {f:FuncId} {first captured args xs:Array bx} {w:av} {R:Ending->aV} (aq:oq P f=true) (ao:first++args++captured=xs) (h:Calls P f xs w R):xI P (.func (.func f) first captured) args w R:=by unfold xI;simp only [aq];rw [ao];exact h
theorem EW {P:Program} {f:FuncId} {first captured args xs:Array bx} {w:av} {R:Ending->aV} (aq:oq P f=true) (ao:first++args++captured=xs) (h:Calls P f xs w R):px P (.func (.func f) first captured) args w R:=by unfold px;exact ajo aq ao h
theorem WH {w:Int} (aN:0<=w) (af:w<18446744073709551616) (k:Nat) (J:k<64):jC .u64 w ((2 ^ k - 1:Nat):Int)=w % (2 ^ k:Nat):=by obtain ⟨n,rfl⟩:=CU aN;have:2 ^ k<2 ^ 64:=Nat.pow_lt_pow_right (by decide) J;rw [ajn _ _ (by omega) (by omega),Nat.and_two_pow_sub_one_eq_mod];simp
theorem As {S e:TypeId} {i:TypeInfo} {z:bx} (aZ:prog.underlying S=some (.slice e)) (aD:prog.info? e=some i) (aE:i.zero=some z) (sv:z.cells.size=i.size) (cr:0<i.size)
  {u:av} {a:ax} {n cap:Nat} {xs:aH} (aq:bu u e i.size a n cap xs) {vs:aH} (au:vs.length=i.size) (aX:∀ v ∈ vs,single v=true) (bA:n<=1000000000) (cv:i.bytes<=1000) {K:Nat->ax->Nat->Nat->aV}
  (J:∀ b ap bU aY,b=u.heap.size->bu aY e i.size ap (n+1) bU (xs++vs)->ay (a7 a) u aY->(∀ k,a7 ap k->a7 a k\/u.heap.size<=k)->K b ap (n+1) bU aY) :
  ∀ b1 aS,b1=u.heap.size->aS=u.alloc (.cells vs.toArray e)->∃ (ap:ax) (h_ h9:Nat),∃ aY,(Builtin.append_ #[S,S] S #[(.slice a n cap),(.slice (some ⟨b1,0,none⟩) 1 1)]).run prog aS=.ok (.slice ap h_ h9) aY/\K b1 ap h_ h9 aY:=by
 rintro b1 aS ak hw;obtain ⟨bP,a5⟩:=b4 ak hw;have hI:(n+1) * i.bytes<=1000000001 * 1000:=CW (by omega) cv;obtain ⟨ap,bU,cR,fV,nP,eD,fC⟩:=bu.append (P:=prog) (t:=S) (ty:=S) aZ aD aE sv cr (bu.new a5 aq)
  (s:=some ⟨b1,0,none⟩) (m:=1) (c:=1) (news:=vs) (by omega) (jk bP (by simp)) aX (by omega) (by omega)
 refine ⟨ap,n+1,bU,cR,fV,J b1 ap bU cR ak nP ((ay.db a5).trans eD λ_ _ h=>h) λk J=>?_⟩;rcases fC with e | e
 ·exact .inl (e▸J)
 ·obtain ⟨o,aq⟩:=J;rw [e] at aq;simp at aq;have:=a5.size;omega
theorem mK {M:bB} {w:av} {a:ax} {xs:aH} (h:bW w a xs) (aq:∀ k,a7 a k->¬ M k):xs=[]\/kR M a:=by
 rcases h with h | ⟨b,o,rfl,_⟩
 ·exact .inl h
 ·exact .inr (aq b ⟨o,rfl⟩)
theorem bu.setCell {w:av} {e sz n cap g:Nat} {xs:aH} (h:bu w e sz (some ⟨g,0,none⟩) n cap xs) {i:Nat} (aD:i<n * sz) (v:bx):bu (w.setCell ⟨g,i,none⟩ v) e sz (some ⟨g,0,none⟩) n cap (xs.set i v):=by
 rcases h.2 with ⟨aN,_⟩ | ⟨cU,cur,he,ak,hle,ab,au,aZ⟩
 ·cases aN
 ·simp only [iX,Addr.mk.injEq,and_true] at he;subst he;refine ⟨by simp [h.1],.inr ⟨g,cur.set i v,rfl,ak.setCell v,hle,ab,by simp [au],?_⟩⟩;rw [<-aZ,List.take_set]
end
section
abbrev jp (a:bh):bx:=.pointer (some a)
abbrev cz (a:bh) (k:Nat):bx:=.pointer (some ⟨a.block,a.off+k,none⟩)
abbrev I (x:Int):bx:=.int .i64 x
abbrev eZ (x:Nat):bx:=.int .i64 x
abbrev ah (x:Int):bx:=.int .u64 x
abbrev U (x:Bool):bx:=.bool x
abbrev ad (a:ax) (n c:Nat):bx:=.slice a n c
abbrev bC:bx:=.slice none 0 0
abbrev aW (j:aH) (n:Nat):bx:=j.getD n undef
abbrev aB:=aH
abbrev ae (b k:Nat):bh:=⟨b,k,none⟩
abbrev cX (a:bh) (k:Nat):bh:=⟨a.block,a.off+k,none⟩
abbrev b7 (b:Nat):ax:=some ⟨b,0,none⟩
abbrev bM (b:Nat):bx:=.pointer (some ⟨b,0,none⟩)
abbrev ba (f:Func) (p:eI) (R:dW):Exit->aH->aV:=bk (λenv w=>W prog (sub (b6 f) p) env (ga prog f R) w) (ga prog f R)
abbrev sb (f:Func) (p:eI):Code:=sub (b6 f) p
abbrev e0 (f:Func) (p:eI):Code:=.loop (sub (b6 f) p)
abbrev c3 (f:Func) (R:dW):Exit->aH->aV:=ga prog f R
abbrev bb (w:av) (l:Array bx) (T:TypeId) (K:Nat->aV):Prop:=∀ b w1,b=w.heap.size->w1=w.alloc (.cells l T)->K b w1
abbrev dP (w:av) (K:av->(aV)->Prop):Prop:=∀ w1,w1=w.drew->∃ S:aV,S w1/\K w1 S
abbrev ev (w:av) (a:bh) (v:bx) (K:aV):Prop:=(∃ u,w.cell? a=some u)/\w.frozen? a=false/\∀ w1,w1=w.setCell a v->K w1
abbrev bJ (w:av) (a:bh) (n:Nat) (l:aH) (K:aV):Prop:=ha w a n l/\∀ w1,w1=dO w a n l->K w1
abbrev fk (T:TypeId) (x y:bx) (w:av) (K:ax->Nat->Nat->aV):Prop:=∃ (a:ax) (n c:Nat),∃ w1,(Builtin.append_ #[T,T] T #[x,y]).run prog w=.ok (.slice a n c) w1/\K a n c w1
end
end Go.Proofs.YtmkljjbioomepaaGreat
