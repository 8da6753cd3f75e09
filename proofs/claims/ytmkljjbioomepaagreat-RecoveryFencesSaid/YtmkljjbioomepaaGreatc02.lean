import Derived.Test.YtmkljjbioomepaaGreatc01
import Derived.Laws.AppendOwn
import Derived.Laws.Tables
import Derived.Below
import Derived.Test.YtmkljjbioomepaaGreatProg
set_option linter.all false
namespace Go.br
open Go.RowKit
def av (w:ak) (b:Nat) (cs:ax) (T:TypeId):Prop:=w.heap[b]?=some (.cells cs.toArray T (0,0))
theorem av.lt {w:ak} {b:Nat} {cs:ax} {T:TypeId} (h:av w b cs T):b<w.heap.size:=(uQ.1 h).1
theorem av.cell {w:ak} {b i:Nat} {cs:ax} {T:TypeId} {v:a4} (h:av w b cs T) (a:cs[i]?=some v):w.cell? ⟨b,i,none⟩=some v:=by unfold World.cell?;simp only [show w.heap[(⟨b,i,none⟩:aU).block]?=_ from h];simpa using a
theorem av.frozen {w:ak} {b i:Nat} {cs:ax} {T:TypeId} (h:av w b cs T):w.frozen? ⟨b,i,none⟩=false:=by unfold World.frozen?;simp only [show w.heap[(⟨b,i,none⟩:aU).block]?=_ from h];simp
theorem av.uniq {w:ak} {b:Nat} {cs a:ax} {T d:TypeId} (h:av w b cs T) (c:av w b a d):cs=a/\T=d:=by unfold av at *;rw [h] at c;simp at c;exact c
theorem av.ne {w:ak} {b b':Nat} {cs a:ax} {T c:TypeId} (h:av w b cs T) (d:av w b' a c) (e:T≠c):b≠b':=by rintro rfl;exact e (h.uniq d).2
theorem pv (w:ak) (cs:ax) (T:TypeId):av (w.alloc (.cells cs.toArray T)) w.heap.size cs T:=by unfold av;show (w.heap.push _)[w.heap.size]?=_;simp
theorem GK (w:ak) (o:Obj) {k:Nat} (h:k<w.heap.size):(w.alloc o).heap[k]?=w.heap[k]?:=by show (w.heap.push o)[k]?=_;rw [Array.getElem?_push,if_neg (by omega)]
theorem av.alloc {w:ak} {b:Nat} {cs:ax} {T:TypeId} (h:av w b cs T) (o:Obj):av (w.alloc o) b cs T:=by unfold av at *;rw [GK _ _ (av.lt h)];exact h
theorem zY (w:ak) (a:aU) (v:a4) {k:Nat} (h:k≠a.block):(w.setCell a v).heap[k]?=w.heap[k]?:=by simp only [World.setCell,x_];rw [if_neg (Ne.symm h)]
theorem av.setCell {w:ak} {b i:Nat} {cs:ax} {T:TypeId} (h:av w b cs T) (v:a4):av (w.setCell ⟨b,i,none⟩ v) b (cs.set i v) T:=by unfold av at *;simp only [World.setCell,x_,if_true];rw [h];simp
theorem av.Gl {w:ak} {b b' i:Nat} {cs:ax} {T:TypeId} (h:av w b cs T) (a:b≠b') (v:a4):av (w.setCell ⟨b',i,none⟩ v) b cs T:=by unfold av at *;rw [zY _ _ _ (by simpa using a)];exact h
def nA (cs:ax) (i:Nat):ax->ax
 | []=>cs
 |v::vs=>nA (cs.set i v) (i+1) vs
theorem k3 (b o i:Nat):(⟨b,o,none⟩:aU).add i=⟨b,o+i,none⟩:=by
 unfold Addr.add;split
 ·rename_i h;subst h;rfl
 ·rfl
theorem av.ct {b o:Nat} {T:TypeId}:∀ {vs:ax} {w:ak} {cs:ax} {i:Nat},av w b cs T->av (ct w ⟨b,o,none⟩ i vs) b (nA cs (o+i) vs) T
 | [],_,_,_,h=>h
 |v::vs,w,cs,i,h=>by unfold br.ct nA;rw [k3];have:=av.ct (o:=o) (vs:=vs) (i:=i+1) (h.setCell (i:=o+i) v);rw [uR];exact this
theorem GX {b o:Nat}:∀ {vs:ax} {w:ak} {i k:Nat},k≠b->(ct w ⟨b,o,none⟩ i vs).heap[k]?=w.heap[k]?
 | [],_,_,_,_=>rfl
 |v::vs,w,i,k,h=>by unfold br.ct;rw [GX h,k3,zY _ _ _ h]
theorem AH {b o:Nat}:∀ {vs:ax} {w:ak} {i:Nat},(ct w ⟨b,o,none⟩ i vs).heap.size=w.heap.size
 | [],_,_=>rfl
 |v::vs,w,i=>by unfold br.ct;rw [AH,World.size_setCell]
theorem GL:∀ {vs cs:ax} {i:Nat},(nA cs i vs).length=cs.length
 | [],_,_=>rfl
 |v::vs,cs,i=>by unfold nA;rw [GL];simp
theorem pq:∀ {vs cs:ax} {i:Nat},i+vs.length<=cs.length->nA cs i vs=cs.take i++vs++cs.drop (i+vs.length)
 | [],cs,i,h=>by simp [nA]
 |v::vs,cs,i,h=>by
  unfold nA;simp only [hh] at h ⊢;rw [pq (by simp;omega)];apply j';intro j;simp only [p3,iG,p5,oN,lo,ik,dH,List.getElem?_cons,hh];have c:min (i+1) cs.length=i+1:=by omega
  have d:min i cs.length=i:=by omega
  rw [c,d];by_cases a:j<i
  ·simp only [a,show j<i+1 by omega,show j<i+1+vs.length by omega,show j<i+(vs.length+1) by omega,if_true,show ¬ i=j by omega,if_false]
  ·by_cases e:j=i
   ·subst e;simp only [show j<j+1 by omega,show j<j+1+vs.length by omega,show j<j+(vs.length+1) by omega,if_true,Nat.lt_irrefl,if_false,mU];simp [show j<cs.length by omega]
   ·by_cases b:j<i+1+vs.length
    ·simp only [b,show j<i+(vs.length+1) by omega,a,show ¬ j<i+1 by omega,if_true,if_false,show ¬ j - i=0 by omega];rw [show j - i - 1=j - (i+1) by omega]
    ·simp only [b,show ¬ j<i+(vs.length+1) by omega,if_false,show ¬ i=i+1+vs.length+(j - (i+1+vs.length)) by omega];rw [show i+1+vs.length+(j - (i+1+vs.length))=i+(vs.length+1)+(j - (i+(vs.length+1))) by omega]
theorem f7 {w:ak} {b o:Nat} {cs:ax} {T:TypeId} (h:av w b cs T):∀ {vs:ax} {i:Nat},o+i+vs.length<=cs.length->(∀ v ∈ vs,single v=true)->eh w ⟨b,o,none⟩ i vs
 | [],_,_,_=>trivial
 |v::vs,i,d,c=>by
  simp only [hh] at d;have a:o+i<cs.length:=by omega
  refine ⟨⟨cs[o+i],?_⟩,?_,c v (by simp),f7 h (by omega) (λu hu=>c u (by simp [hu]))⟩
  ·rw [k3];exact h.cell (by simp [a])
  ·rw [k3];exact h.frozen
theorem kR {w:ak} {b o:Nat}:∀ {vs:ax} {i:Nat},(∀ j v,vs[j]?=some v->w.cell? ⟨b,o+i+j,none⟩=some v)->b6 w ⟨b,o,none⟩ i vs
 | [],_,_=>trivial
 |v::vs,i,h=>by
  refine ⟨?_,kR λj u hu=>?_⟩
  ·rw [k3];have:=h 0 v (by simp);simpa using this
  ·have:=h (j+1) u (by simpa using hu);rw [show o+(i+1)+j=o+i+(j+1) by omega];exact this
theorem bK {w:ak} {b o:Nat} {cs vs:ax} {T:TypeId} (h:av w b cs T) (an:(cs.drop o).take vs.length=vs):b6 w ⟨b,o,none⟩ 0 vs:=by
 refine kR λj v a=>h.cell ?_
 have:((cs.drop o).take vs.length)[j]?=some v:=by rw [an];exact a
 rw [oN] at this;split at this
 ·rw [lo] at this;simpa using this
 ·cases this
theorem xQ {rows:List ax} {sz:Nat} (c:∀ r ∈ rows,r.length=sz) {i k:Nat} {r:ax} {v:a4} (a:rows[i]?=some r) (b:r[k]?=some v):rows.flatten[i * sz+k]?=some v:=by
 induction rows generalizing i with
 |nil=>simp at a
 |cons q rows e=>
  have f:=c q (by simp);cases i with
  |zero=>
   simp only [rf,e8] at a;subst a;have:k<q.length:=by
    rcases oL k q.length with h | h
    ·exact h
    ·rw [lp h] at b;cases b
   simp only [gR,uV,g3];rw [hP this];exact b
  |succ i=>simp only [nO] at a;simp only [gR];rw [hQ (by rw [h5];omega)];have:=e (λr d=>c r (by simp [d])) a;rw [show (i+1) * sz+k - q.length=i * sz+k by rw [h5];omega];exact this
theorem mf {rows:List ax} {sz:Nat} (a:∀ r ∈ rows,r.length=sz):rows.flatten.length=rows.length * sz:=by
 induction rows with
 |nil=>simp
 |cons q rows c=>simp only [gR,dH,hh,a q (by simp),c (λr b=>a r (by simp [b])),h5];omega
theorem yg {rows:List ax} {sz:Nat} (b:∀ r ∈ rows,r.length=sz) {i k:Nat} {r:ax} (v:a4) (a:rows[i]?=some r) (e:k<sz):rows.flatten.set (i * sz+k) v=(rows.set i (r.set k v)).flatten:=by
 induction rows generalizing i with
 |nil=>simp at a
 |cons q rows d=>
  have f:=b q (by simp);cases i with
  |zero=>simp only [rf,e8] at a;subst a;simp only [gR,uV,g3,x3];rw [List.set_append_left _ _ (by omega)]
  |succ i=>simp only [nO] at a;simp only [gR,AP];rw [AO _ _ (by rw [h5];omega),<-d (λr c=>b r (by simp [c])) a];congr 2;rw [h5];omega
theorem G9 {rows:List ax} {sz:Nat} (a:∀ r ∈ rows,r.length=sz) {i:Nat} (b:i<rows.length) {vs:ax} (an:vs.length=sz):nA rows.flatten (i * sz) vs=(rows.set i vs).flatten:=by
 have e:=mf a;have d:i * sz+sz<=rows.length * sz:=by have:=sV sz (show i+1<=rows.length from b);rw [h5] at this;exact this
 rw [pq (by rw [e,an];exact d)];clear d;induction rows generalizing i with
 |nil=>simp at b
 |cons q rows f=>
  have g:=a q (by simp);cases i with
  |zero=>simp only [gR,uV,List.take_zero,oQ,g3,x3];rw [List.drop_append_of_le_length (by omega),AS (by omega),oQ]
  |succ i=>simp only [hh] at b;have:=f (λr c=>a r (by simp [c])) (i:=i) (by omega) (mf λr c=>a r (by simp [c]));simp only [gR,AP];rw [<-this,List.take_append,List.drop_append];rw [hO (by rw [h5];omega),AS (by rw [h5];omega)];rw [show (i+1) * sz - q.length=i * sz by rw [h5];omega,show (i+1) * sz+vs.length - q.length=i * sz+vs.length by rw [h5];omega];simp
structure ao (M:a5) (w w':ak):Prop where
 os:w'.os=w.os
 tape:w'.tape=w.tape
 output:w'.output=w.output
 size:w.heap.size<=w'.heap.size
 block:∀ k,k<w.heap.size->¬ M k->w'.heap[k]?=w.heap[k]?
abbrev ai (w w':ak):Prop:=ao (λ_=>False) w w'
theorem ao.refl (M:a5) (w:ak):ao M w w:=⟨rfl,rfl,rfl,cO _,λ_ _ _=>rfl⟩
theorem ao.trans {M M':a5} {a b c:ak} (h:ao M a b) (k:ao M' b c) (f:∀ i,i<a.heap.size->M' i->M i):ao M a c:=
 ⟨k.os.trans h.os,k.tape.trans h.tape,k.output.trans h.output,ll h.size k.size,λi d hm=>
  (k.block i (fX d h.size) (λe=>hm (f i d e))).trans (h.block i d hm)⟩
theorem ao.mono {M M':a5} {a b:ak} (h:ao M a b) (e:∀ i,i<a.heap.size->M i->M' i):ao M' a b:=
 ⟨h.os,h.tape,h.output,h.size,λi d hm=>h.block i d (λc=>hm (e i d c))⟩
theorem ao.b3 {M:a5} {a b:ak} (h:ai a b):ao M a b:=h.mono λ_ _ c=>c.elim
theorem ao.new {M:a5} {a b c:ak} (h:ao M a b) (k:ai b c):ao M a c:=h.trans k λ_ _ d=>d.elim
theorem hk (w:ak) (o:Obj):ai w (w.alloc o):=⟨rfl,rfl,rfl,by simp,λk a _=>GK _ _ a⟩
theorem cD (w:ak):ai w w.drew:=⟨rfl,rfl,rfl,cO _,λ_ _ _=>rfl⟩
theorem ao.alloc {M:a5} {a w:ak} (h:ao M a w) (o:Obj):ao M a (w.alloc o):=h.new (hk w o)
theorem ao.drew {M:a5} {a w:ak} (h:ao M a w):ao M a w.drew:=h.new (cD w)
theorem eV (w:ak) (b i:Nat) (v:a4):ao (λk=>k=b) w (w.setCell ⟨b,i,none⟩ v):=
 ⟨rfl,rfl,rfl,by simp,λk _ hm=>zY _ _ _ hm⟩
theorem ao.setCell {M:a5} {a w:ak} (h:ao M a w) {b i:Nat} (c:M b\/a.heap.size<=b) (v:a4):ao M a (w.setCell ⟨b,i,none⟩ v):=
 h.trans (eV w b i v) λk d hm=>by rcases c with c | c;exact hm▸c;omega
theorem va {b o:Nat}:∀ {vs:ax} {w:ak} {i:Nat},(ct w ⟨b,o,none⟩ i vs).os=w.os/\(ct w ⟨b,o,none⟩ i vs).tape=w.tape/\(ct w ⟨b,o,none⟩ i vs).output=w.output
 | [],_,_=>⟨rfl,rfl,rfl⟩
 |v::vs,w,i=>by unfold br.ct;have:=va (b:=b) (o:=o) (vs:=vs) (w:=w.setCell ((⟨b,o,none⟩:aU).add i) v) (i:=i+1);exact this
theorem hT (w:ak) (b o i:Nat) (vs:ax):ao (λk=>k=b) w (ct w ⟨b,o,none⟩ i vs):=
 ⟨va.1,va.2.1,va.2.2,by rw [AH];exact cO _,λk _ hm=>GX hm⟩
theorem ao.ct {M:a5} {a w:ak} (h:ao M a w) {b o i:Nat} (c:M b\/a.heap.size<=b) (vs:ax):ao M a (ct w ⟨b,o,none⟩ i vs):=
 h.trans (hT w b o i vs) λk d hm=>by rcases c with c | c;exact hm▸c;omega
theorem ao.aj {M:a5} {w w':ak} (h:ao M w w') {b:Nat} {cs:ax} {T:TypeId} (a:av w b cs T) (hm:¬ M b):av w' b cs T:=by unfold av at *;rw [h.block b (av.lt a) hm];exact a
theorem ai.aj {w w':ak} (h:ai w w') {b:Nat} {cs:ax} {T:TypeId} (a:av w b cs T):av w' b cs T:=ao.aj h a id
theorem ao.below {M:a5} {w w':ak} {B:Nat} (h:ao M w w') (b:B<=w.heap.size) (c:∀ k,k<B->¬ M k):Below B w w':=
 ⟨h.os,h.tape,h.output,h.size,λk a=>h.block k (fX a b) (c k a)⟩
theorem r5 {w w':ak} {row:Option Nat} (h:w.grownBy w' row):ao (λk=>some k=row) w w':=⟨h.os,h.tape,h.output,h.size,λk a hm=>h.block k a hm⟩
def bh (w:ak) (a:al) (xs:ax):Prop:=
 xs=[]\/∃ b o,a=some ⟨b,o,none⟩/\∀ j u,xs[j]?=some u->w.cell? ⟨b,o+j,none⟩=some u
theorem vb {w:ak} {a:aU} {v:a4} (h:w.cell? a=some v):a.block<w.heap.size:=by
 unfold World.cell? at h;cases b:w.heap[a.block]? with
 |none=>rw [b] at h;cases h
 |some o=>exact (uQ.1 b).1
theorem jy {M:a5} {w w':ak} (h:ao M w w') {a:aU} {v:a4} (b:w.cell? a=some v) (hm:¬ M a.block):w'.cell? a=some v:=by rw [World.cell?_of_block (h.block _ (vb b) hm)];exact b
def gd (M:a5):al->Prop
 |some a=>¬ M a.block
 |none=>True
theorem bh.az {M:a5} {w w':ak} (h:ao M w w') {a:al} {xs:ax} (d:bh w a xs) (hm:xs=[]\/gd M a):bh w' a xs:=by
 rcases d with rfl | ⟨b,o,rfl,c⟩
 ·exact .inl rfl
 ·rcases hm with rfl | hm
  ·exact .inl rfl
  ·exact .inr ⟨b,o,rfl,λj u hu=>jy h (c j u hu) hm⟩
theorem bh.new {w w':ak} (h:ai w w') {a:al} {xs:ax} (b:bh w a xs):bh w' a xs:=by
 refine b.az h ?_;cases a with
 |none=>exact .inr trivial
 |some a=>exact .inr id
theorem bh.nil (w:ak) (a:al):bh w a []:=.inl rfl
theorem bh.lt {w:ak} {a:aU} {xs:ax} (e:bh w (some a) xs) (c:xs≠[]):a.block<w.heap.size:=by
 rcases e with rfl | ⟨b,o,he,d⟩
 ·exact absurd rfl c
 ·cases xs with
  |nil=>exact absurd rfl c
  |cons v vs=>have:=vb (d 0 v rfl);simp only [e8] at he;rw [he];exact this
theorem fk {w:ak} {b:Nat} {cs xs:ax} {T:TypeId} (h:av w b cs T) {o:Nat} (a:(cs.drop o).take xs.length=xs):bh w (some ⟨b,o,none⟩) xs:=by
 refine .inr ⟨b,o,rfl,λj u hu=>h.cell ?_⟩;have:((cs.drop o).take xs.length)[j]?=some u:=by rw [a];exact hu
 rw [oN] at this;split at this
 ·rw [lo] at this;exact this
 ·cases this
theorem bh.take {w:ak} {a:al} {xs:ax} (h:bh w a xs) (n:Nat):bh w a (xs.take n):=by
 rcases h with rfl | ⟨b,o,rfl,c⟩
 ·simp;exact .inl rfl
 ·refine .inr ⟨b,o,rfl,λj u hu=>?_⟩;rw [oN] at hu;split at hu
  ·exact c j u hu
  ·cases hu
theorem bh.drop {w:ak} {b o:Nat} {xs:ax} (h:bh w (some ⟨b,o,none⟩) xs) (n:Nat):bh w (some ⟨b,o+n,none⟩) (xs.drop n):=by
 rcases h with rfl | ⟨b',c,he,a⟩
 ·simp;exact .inl rfl
 ·simp only [e8,Addr.mk.injEq,and_true] at he;obtain ⟨rfl,rfl⟩:=he;refine .inr ⟨b,o+n,rfl,λj u hu=>?_⟩;rw [lo] at hu;rw [uR];exact a _ _ hu
theorem bh.cell {w:ak} {b o:Nat} {xs:ax} (h:bh w (some ⟨b,o,none⟩) xs) {j:Nat} {u:a4} (hu:xs[j]?=some u):w.cell? ⟨b,o+j,none⟩=some u:=by
 rcases h with rfl | ⟨b',c,he,a⟩
 ·simp at hu
 ·simp only [e8,Addr.mk.injEq,and_true] at he;obtain ⟨rfl,rfl⟩:=he;exact a j u hu
def a2 (w:ak) (e sz:Nat) (a:al) (n cap:Nat) (xs:ax):Prop:=
 xs.length=n * sz/\((a=none/\n=0/\cap=0)\/∃ g cur,a=some ⟨g,0,none⟩/\av w g cur e/\n<=cap/\cap<=maxLen/\cur.length=cap * sz/\cur.take (n * sz)=xs)
def aK (a:al) (k:Nat):Prop:=∃ o,a=some ⟨k,o,none⟩
theorem a2.nil (w:ak) (e sz:Nat):a2 w e sz none 0 0 []:=⟨by simp,.inl ⟨rfl,rfl,rfl⟩⟩
theorem a2.az {M:a5} {w w':ak} (h:ao M w w') {e sz n cap:Nat} {a:al} {xs:ax} (b:a2 w e sz a n cap xs) (hm:∀ k,aK a k->¬ M k):a2 w' e sz a n cap xs:=by
 refine ⟨b.1,?_⟩;rcases b.2 with d | ⟨g,cur,rfl,c,rest⟩
 ·exact .inl d
 ·exact .inr ⟨g,cur,rfl,h.aj c (hm g ⟨0,rfl⟩),rest⟩
theorem a2.new {w w':ak} (h:ai w w') {e sz n cap:Nat} {a:al} {xs:ax} (b:a2 w e sz a n cap xs):a2 w' e sz a n cap xs:=b.az h λ_ _=>id
theorem a2.rd {w:ak} {e sz n cap:Nat} {a:al} {xs:ax} (b:a2 w e sz a n cap xs):bh w a xs:=by
 rcases b.2 with ⟨_,d,_⟩ | ⟨g,cur,rfl,c,_,_,_,f⟩
 ·refine .inl (fB ?_);rw [b.1,d];simp
 ·refine fk c ?_;rw [sW,b.1];exact f
theorem a2.lt {w:ak} {e sz n cap:Nat} {a:al} {xs:ax} (d:a2 w e sz a n cap xs) {k:Nat} (c:aK a k):k<w.heap.size:=by
 obtain ⟨o,rfl⟩:=c;rcases d.2 with ⟨h,_⟩ | ⟨g,cur,he,b,_⟩
 ·cases h
 ·simp at he;rw [he.1];exact b.lt
theorem a2.le {w:ak} {e sz n cap:Nat} {a:al} {xs:ax} (b:a2 w e sz a n cap xs):n<=cap:=by
 rcases b.2 with ⟨_,d,c⟩ | ⟨g,cur,_,_,h,_⟩
 ·omega
 ·exact h
theorem GM {v:a4} (h:single v=true):v.oneCell'=true:=by cases v<;>simp [single] at h<;>rfl
theorem a2.append {P:Program} {w:ak} {t ty e:TypeId} {i:TypeInfo} {z:a4} (A:P.underlying t=some (.slice e)) (r:P.info? e=some i) (au:i.zero=some z) (N:z.cells.size=i.size) (Vr:0<i.size)
  {a:al} {n cap:Nat} {xs:ax} (y:a2 w e i.size a n cap xs) {s:al} {m c:Nat} {news:ax} (x:news.length=m * i.size) (Z:bh w s news) (T:∀ u ∈ news,single u=true)
  (V:n+m<=140737488355328) (C:(n+m) * i.bytes<=140737488355328) :
  ∃ G f w',(Builtin.append_ #[t,t] ty #[.slice a n cap,.slice s m c]).run P w=.ok (.slice G (n+m) f) w'/\a2 w' e i.size G (n+m) f (xs++news)/\ao (aK a) w w'/\
   (G=a\/G=some ⟨w.heap.size,0,none⟩):=by
 have hlen:(xs++news).length=(n+m) * i.size:=by rw [dH,y.1,x,ra]
 have E:n+m<=maxLen:=by simp only [maxLen];omega
 have grown:∀ (old:Nat),old<n+m->
   a2 (w.drew.alloc (.cells (xs.toArray++news.toArray++Builtin.zeroCells z.cells (grownCap w (n+m) old e - (n+m))) e)) e i.size (some ⟨w.heap.size,0,none⟩) (n+m) (grownCap w (n+m) old e) (xs++news):=by
  intro old hold;have L:=grownCap_ge w (n+m) old e;refine ⟨hlen,.inr ⟨w.heap.size,xs++news++(Builtin.zeroCells z.cells (grownCap w (n+m) old e - (n+m))).toList,rfl,?_,L,grownCap_le_maxLen w (n+m) old e E,?_,?_⟩⟩
  ·have O:=pv w.drew (xs++news++(Builtin.zeroCells z.cells (grownCap w (n+m) old e - (n+m))).toList) e;have U:(xs++news++(Builtin.zeroCells z.cells (grownCap w (n+m) old e - (n+m))).toList).toArray=xs.toArray++news.toArray++Builtin.zeroCells z.cells (grownCap w (n+m) old e - (n+m)):=by apply Array.ext';simp
   rw [U] at O;exact O
  ·rw [dH,hlen,Array.length_toList,size_zeroCells,N,<-ra];congr 1;omega
  ·rw [<-hlen];exact List.take_left
 have p:∀ o,ao (aK a) w (w.drew.alloc o):=λo=>ao.b3 ((cD w).alloc o)
 by_cases hm:m=0
 ·subst hm;have X:news=[]:=fB (by simpa using x);subst X;refine ⟨a,cap,w,?_,by simpa using y,ao.refl _ _,.inl rfl⟩;have hle:=y.le;have R:n+0<=cap:=by omega
  cases a with
  |none=>
   cases s with
   |none=>simp [Builtin.append_,run_underlying A,sizeOf,typeInfo,r,Builtin.lenOf,hle,Builtin.firstCells]
   |some s=>simp [Builtin.append_,run_underlying A,sizeOf,typeInfo,r,Builtin.lenOf,hle,Builtin.firstCells,loadCells,loadCellsFrom]
  |some a=>
   cases s with
   |none=>simp [Builtin.append_,run_underlying A,sizeOf,typeInfo,r,Builtin.lenOf,hle,Builtin.firstCells,storeCells]
   |some s=>simp [Builtin.append_,run_underlying A,sizeOf,typeInfo,r,Builtin.lenOf,hle,Builtin.firstCells,loadCells,loadCellsFrom,storeCells]
 ·have M:news≠[]:=by
   intro I;have S:m * i.size=0:=by rw [<-x,I];rfl
   rcases Nat.mul_eq_zero.1 S with h | h<;>omega
  rcases Z with I | ⟨sb,so,rfl,q⟩
  ·exact absurd I M
  have b:∀ j u,news[j]?=some u->w.cell? ((⟨sb,so,none⟩:aU).add j)=some u:=λj u hu=>by rw [k3];exact q j u hu
  have H:∀ u ∈ news,u.oneCell'=true:=λu hu=>GM (T u hu)
  rcases y.2 with ⟨rfl,rfl,rfl⟩ | ⟨g,cur,rfl,Q,Y,J,K,B⟩
  ·have Vs:xs=[]:=fB (by simpa using y.1);subst Vs;have F:=run_append_nil (P:=P) w t ty e i z A r au ⟨sb,so,none⟩ m c news x b (by omega) (by omega) (by simp only [g3] at C;omega);have D:=grown 0 (by omega);simp only [g3,oQ,Array.empty_append] at D ⊢;exact ⟨_,_,_,F,D,p _,.inr rfl⟩
  ·by_cases d:n+m<=cap
   ·have l:n * i.size+news.length<=cur.toArray.size:=by rw [x,List.size_toArray,K,<-ra];exact sV _ d
    have F:=run_append_room (P:=P) w t ty e i A r g n cap cur.toArray Q ⟨sb,so,none⟩ m c news x b H d l;refine ⟨_,_,_,F,⟨hlen,.inr ⟨g,_,rfl,setRow_heap w g cur.toArray _ e _ Q,d,J,?_,?_⟩⟩,⟨rfl,rfl,rfl,by simp,λk _ W=>setRow_other w g k _ (λe=>W ⟨0,by rw [e]⟩)⟩,.inl rfl⟩
    ·simp only [dH,iG,lZ] at *;simp at l <;> omega
    ·rw [B,<-hlen];exact List.take_left
   ·have holds:∀ j u,xs[j]?=some u->w.cell? ((⟨g,0,none⟩:aU).add j)=some u:=λj u hu=>by rw [k3];exact y.rd.cell hu
    have F:=run_append_grow (P:=P) w t ty e i z A r au ⟨g,0,none⟩ n cap xs y.1 holds ⟨sb,so,none⟩ m c news x b (by omega) (by omega) (growslice_fits (by omega) C);exact ⟨_,_,_,F,grown cap (by omega),p _,.inr rfl⟩
theorem bh.row {w:ak} {a:al} {rows:List ax} {sz:Nat} (h:bh w a rows.flatten) (d:∀ r ∈ rows,r.length=sz) (au:0<sz) {i:Nat} {r:ax} (c:rows[i]?=some r) :
  ∃ b o,a=some ⟨b,o,none⟩/\b6 w ⟨b,o+i * sz,none⟩ 0 r/\∀ k v,r[k]?=some v->w.cell? ⟨b,o+i * sz+k,none⟩=some v:=by
 have l:=d r (cg c);rcases h with h | ⟨b,o,rfl,e⟩
 ·have:=xQ d c (k:=0) (v:=r[0]) (by simp [l,au]);rw [h] at this;simp at this
 ·have key:∀ k v,r[k]?=some v->w.cell? ⟨b,o+i * sz+k,none⟩=some v:=λk v g=>by rw [uR];exact e _ _ (xQ d c g)
  exact ⟨b,o,rfl,kR λj v f=>by simpa using key j v f,key⟩
theorem pn {cs vs:ax} (h:vs.length=cs.length):nA cs 0 vs=vs:=by rw [pq (by omega)];simp [h]
theorem bl {u w1:ak} {b1:Nat} {zs:Array a4} {T:TypeId} (a:b1=u.heap.size) (hw:w1=u.alloc (.cells zs T)):av w1 b1 zs.toList T/\ai u w1:=by subst a hw;exact ⟨by simpa using pv u zs.toList T,hk _ _⟩
theorem ow {u w1 a:ak} {b:Nat} {cs vs:ax} {T:TypeId} (h:av w1 b cs T) (d:vs.length=cs.length) (e:ai u w1) (c:u.heap.size<=b) (hw:a=ct w1 ⟨b,0,none⟩ 0 vs):av a b vs T/\ai u a:=by subst hw;refine ⟨?_,e.ct (.inr c) _⟩;have:=h.ct (o:=0) (i:=0) (vs:=vs);rw [pn d] at this;exact this
end Go.br
namespace Go.br
theorem fS {b:Bool} {A B:Prop} (c:b=true->A) (a:b=false->B):(bif b then A else B):=by
 cases b
 ·exact a rfl
 ·exact c rfl
theorem a' {p:Prop} [Decidable p] {A B:Prop} (b:p->A) (a:¬ p->B):(bif decide p then A else B):=
 fS (λh=>b (of_decide_eq_true h)) (λh=>a (of_decide_eq_false h))
theorem dJ {x y:Int} {A B:Prop} (b:x=y->A) (a:x≠y->B):(bif (x == y) then A else B):=
 fS (λh=>b (by simpa using h)) (λh=>a (by simpa using h))
theorem dw {x y:Int} {A B:Prop} (b:x≠y->A) (a:x=y->B):(bif (x != y) then A else B):=
 fS (λh=>b (by simpa using h)) (λh=>a (by simpa using h))
theorem er {b:Bool} {A B:Prop} (a:b=false->A) (c:b=true->B):(bif (!b) then A else B):=by
 cases b
 ·exact a rfl
 ·exact c rfl
theorem eB {b:Bool} {A B:Prop} (a:b=true) (h:A):(bif b then A else B):=by subst a;exact h
theorem cR {b:Bool} {A B:Prop} (a:b=false) (h:B):(bif b then A else B):=by subst a;exact h
theorem ed {b o len sz:Nat} {n:Int} {K:aU->Prop} (a:0<=n) (c:n<len) (h:K ⟨b,o+n.toNat * sz,none⟩):bk (some ⟨b,o,none⟩) len n sz K:=
 ⟨_,rfl,a,c,by rw [k3];exact h⟩
theorem ns {b o len sz:Nat} {n:Int} {K:aU->Prop} (a:0<=n) (c:n<len) (h:K ⟨b,o+n.toNat * sz,none⟩):kT ⟨b,o,none⟩ len n sz K:=
 ⟨a,c,by rw [k3];exact h⟩
theorem kt {b o len cap sz:Nat} {c d e:Int} {K:al->Nat->a5} (f:0<=c) (g:c<=d) (i:d<=e) (j:e<=cap) (k:len<=cap)
  (h:∀ a,(a=some ⟨b,o+c.toNat * sz,none⟩\/d=c/\a=some ⟨b,o,none⟩)->K a (d.toNat - c.toNat) (e.toNat - c.toNat)):hM (some ⟨b,o,none⟩) len cap c d e sz K:=by
 refine ⟨f,g,i,j,k,h _ ?_⟩;split
 ·rename_i he;exact .inr ⟨by omega,rfl⟩
 ·refine .inl ?_;simp only [mV,k3]
theorem bC {x:Int} (a:-9223372036854775808<=x) (b:x<9223372036854775808):IntKind.i64.wrap x=x:=by simp only [IntKind.wrap,IntKind.bits,IntKind.signed];simp;omega
theorem j8 {x:Int} (a:0<=x) (b:x<18446744073709551616):IntKind.u64.wrap x=x:=by simp only [IntKind.wrap,IntKind.bits,IntKind.signed];simp;omega
end Go.br
namespace Go.Proofs.YtmkljjbioomepaaGreat
open Go.Proofs.Tryz Go.br
section
theorem mix:prog.follows .mixedOrders=true:=by kernel_rfl
abbrev a_ (f:FuncId) (args:ax) (w:ak) (R:cA):Prop:=Calls prog f args.toArray w λe w'=>∃ v,e=.returned v/\R v w'
theorem bc {f:FuncId} {fn:Func} {args:ax} {w:ak} {R:cA} (a:prog.funcs[f]?=some fn) (h:bf prog fn args R w):a_ f args w R:=Kc mix a h
theorem aC {f:FuncId} {args:Array a4} {w:ak} {R:cA} {Q:Ending->aE} (h:Calls prog f args w λe w'=>∃ v,e=.returned v/\R v w') (a:∀ v w',R v w'->Q (.returned v) w'):Calls prog f args w Q:=
 h.mono λe w' ⟨v,he,b⟩=>he▸a v w' b
theorem fL {T:TypeId} {z:a4} {n m:Nat} (h:(prog.info? T).map (λi=>(i.zero,i.size,i.bytes))=some (some z,n,m)):∃ i,prog.info? T=some i/\i.zero=some z/\i.size=n/\i.bytes=m:=by
 cases a:prog.info? T with
 |none=>rw [a] at h;cases h
 |some i=>rw [a] at h;simp at h;exact ⟨i,rfl,h.1,h.2.1,h.2.2⟩
end
section
def ec (x:Int):Prop:=-9223372036854775808<=x/\x<9223372036854775808
def b8 (x:Int):Prop:=0<=x/\x<18446744073709551616
theorem ch {α:Type} {l:List α} {i:Nat} {x:α} (h:l[i]?=some x):i<l.length:=(lq.1 h).1
def us (l:bb):ax:=l.map (Value.int .u64)
def is (l:bb):ax:=l.map (Value.int .i64)
theorem s_ {l:bb} {i:Nat} {x:Int} (h:l[i]?=some x):(us l)[i]?=some (.int .u64 x):=by simp [us,h]
theorem hC (l:bb):(us l).length=l.length:=by simp [us]
theorem pr (l:bb):∀ u ∈ us l,single u=true:=by intro u hu;simp only [us,cW] at hu;obtain ⟨x,_,rfl⟩:=hu;rfl
theorem Jy (l:bb):∀ u ∈ is l,single u=true:=by intro u hu;simp only [is,cW] at hu;obtain ⟨x,_,rfl⟩:=hu;rfl
theorem dO {u:ak} {b:Nat} {cs vs:ax} {T:TypeId} {K:aE} (a:av u b cs T) (d:vs.length=cs.length) (e:∀ v ∈ vs,single v=true) (c:∀ w',av w' b vs T->ao (λk=>k=b) u w'->K w') :
  eh u ⟨b,0,none⟩ 0 vs/\∀ w',w'=ct u ⟨b,0,none⟩ 0 vs->K w':=by
 refine ⟨f7 a (by omega) e,?_⟩;rintro w' rfl;refine c _ ?_ (hT _ _ _ _ _);have h:=a.ct (o:=0) (i:=0) (vs:=vs);rw [pn d] at h;exact h
theorem ea {u:ak} {zs vs:ax} {T:TypeId} {K:Nat->aE} (i:vs.length=zs.length) (n:∀ v ∈ vs,single v=true) (h:∀ b w',b=u.heap.size->av w' b vs T->ai u w'->K b w') :
  ∀ b1 w1,b1=u.heap.size->w1=u.alloc (.cells zs.toArray T)->eh w1 ⟨b1,0,none⟩ 0 vs/\∀ g,g=ct w1 ⟨b1,0,none⟩ 0 vs->K b1 g:=by
 rintro b1 w1 a f;obtain ⟨au,l⟩:=bl a f;refine dO au (by simpa using i) n λw' c d=>h b1 w' a c (l.trans d λk j e=>?_)
 omega
theorem r' {u z b:ak} {a:al} (g:ai u z) (e:ao (aK a) z b) (c:∀ k,aK a k->u.heap.size<=k):ai u b:=
 g.trans e λk f d=>by have:=c k d;omega
theorem eo {α:Type} {cells:α->ax} {sz:Nat} (c:∀ x,(cells x).length=sz) (e:0<sz) {u:ak} {a:al} {l:List α} (h:bh u a (l.map cells).flatten) {i:Nat} {x:α} (d:l[i]?=some x) {z:Int} (au:z=i) {n:Nat} (p:n=l.length) {K:aU->Prop}
  (j:∀ b o,b6 u ⟨b,o,none⟩ 0 (cells x)->(∀ (q:Nat) (v:a4),(cells x)[q]?=some v->u.cell? ⟨b,o+q,none⟩=some v)->K ⟨b,o,none⟩):bk a n z sz K:=by
 subst au p;have k:=ch d;obtain ⟨b,o,rfl,f,g⟩:=h.row (sz:=sz) (λr s=>by obtain ⟨y,_,rfl⟩:=cW.1 s;exact c y) e (i:=i) (r:=cells x) (by simp [d]);exact ed (by omega) (by omega) (by simpa using j b _ f g)
theorem iR {α:Type} {cells:α->ax} {sz:Nat} (c:∀ x,(cells x).length=sz) (f:0<sz) {u:ak} {a:al} {l:List α} (h:bh u a (l.map cells).flatten) {i:Nat} {x:α} (d:l[i]?=some x) {z:Int} (au:z=i) {n:Nat} (s:n=l.length) {K:aU->Prop}
  (k:∀ b o,(∀ y,ai u y->∀ (q:Nat) (v:a4),(cells x)[q]?=some v->y.cell? ⟨b,o+q,none⟩=some v)->K ⟨b,o,none⟩):bk a n z sz K:=by
 subst au s;have p:=ch d;have g:∀ r ∈ l.map cells,r.length=sz:=λr t=>by obtain ⟨y,_,rfl⟩:=cW.1 t;exact c y
 obtain ⟨b,o,rfl,A,B⟩:=h.row (sz:=sz) g f (i:=i) (r:=cells x) (by simp [d]);refine ed (by omega) (by omega) ?_;have:=k b (o+i * sz) λy w q v an=>by obtain ⟨b',C,e,_,j⟩:=(h.new w).row (sz:=sz) g f (i:=i) (r:=cells x) (by simp [d]);simp at e;obtain ⟨rfl,rfl⟩:=e;exact j q v an
 simpa using this
theorem jH {x:Int} (a:0<=x) (b:x<18446744073709551616):IntKind.u64.wrap x=x:=by simp only [IntKind.wrap,IntKind.bits,IntKind.signed];simp;omega
theorem xK (n:Nat):BitVec.ofInt 64 (n:Int)=BitVec.ofNat 64 n:=by apply BitVec.eq_of_toInt_eq;simp
theorem uN (a b:Nat) (d:a<18446744073709551616) (e:b<18446744073709551616):je .u64 (a:Int) (b:Int)=((a ||| b:Nat):Int):=by have c:a ||| b<2 ^ 64:=Nat.or_lt_two_pow (by omega) (by omega);unfold je;show IntKind.u64.wrap ((BitVec.ofInt 64 (a:Int) ||| BitVec.ofInt 64 (b:Int)).toNat:Int)=_;rw [xK,xK,BitVec.toNat_or,BitVec.toNat_ofNat,BitVec.toNat_ofNat,sU (by omega),sU (by omega)];exact jH (by omega) (by omega)
theorem Kd (a b:Nat) (d:a<18446744073709551616) (e:b<18446744073709551616):fq .u64 (a:Int) (b:Int)=((a &&& b:Nat):Int):=by have c:a &&& b<2 ^ 64:=Nat.and_lt_two_pow _ (by omega);unfold fq;show IntKind.u64.wrap ((BitVec.ofInt 64 (a:Int) &&& BitVec.ofInt 64 (b:Int)).toNat:Int)=_;rw [xK,xK,BitVec.toNat_and,BitVec.toNat_ofNat,BitVec.toNat_ofNat,sU (by omega),sU (by omega)];exact jH (by omega) (by omega)
theorem vz (a b k:Nat) (c:b<2 ^ k):a * 2 ^ k ||| b=a * 2 ^ k+b:=by rw [uT,Nat.two_pow_add_eq_or_of_lt c]
theorem rp {u:ak} {b o:Nat} {cs:ax} {T:TypeId} {v:a4} {K:aE} (a:av u b cs T) (d:o<cs.length) (c:∀ w',av w' b (cs.set o v) T->ao (λk=>k=b) u w'->K w') :
  (∃ x,u.cell? ⟨b,o,none⟩=some x)/\u.frozen? ⟨b,o,none⟩=false/\∀ w',w'=u.setCell ⟨b,o,none⟩ v->K w':=
 ⟨⟨_,a.cell (bF d)⟩,a.frozen,λw' h=>by subst h;exact c _ (a.setCell v) (eV _ _ _ _)⟩
theorem Ke {P:Program} {f:FuncId} {first captured args xs:Array a4} {w:ak} {R:Ending->aE} (a:ic P f=true) (b:first++args++captured=xs) (h:Calls P f xs w R):mL P (.func (.func f) first captured) args w R:=by unfold mL;simp only [a];rw [b];exact h
theorem qU {P:Program} {f:FuncId} {first captured args xs:Array a4} {w:ak} {R:Ending->aE} (a:ic P f=true) (b:first++args++captured=xs) (h:Calls P f xs w R):iS P (.func (.func f) first captured) args w R:=by unfold iS;exact Ke a b h
theorem AI {w:Int} (a:0<=w) (c:w<18446744073709551616) (k:Nat) (b:k<64):fq .u64 w ((2 ^ k - 1:Nat):Int)=w % (2 ^ k:Nat):=by obtain ⟨n,rfl⟩:=pZ a;have:2 ^ k<2 ^ 64:=Nat.pow_lt_pow_right (by decide) b;rw [Kd _ _ (by omega) (by omega),Nat.and_two_pow_sub_one_eq_mod];simp
theorem ou {S e:TypeId} {i:TypeInfo} {z:a4} (M:prog.underlying S=some (.slice e)) (J:prog.info? e=some i) (au:i.zero=some z) (D:z.cells.size=i.size) (B:0<i.size)
  {u:ak} {a:al} {n cap:Nat} {xs:ax} (w:a2 u e i.size a n cap xs) {vs:ax} (N:vs.length=i.size) (L:∀ v ∈ vs,single v=true) (H:n<=1000000000) (y:i.bytes<=1000) {K:Nat->al->Nat->Nat->aE}
  (r:∀ b ap d p,b=u.heap.size->a2 p e i.size ap (n+1) d (xs++vs)->ao (aK a) u p->(∀ k,aK ap k->aK a k\/u.heap.size<=k)->K b ap (n+1) d p) :
  ∀ b1 E,b1=u.heap.size->E=u.alloc (.cells vs.toArray e)->∃ (ap:al) (g f:Nat),∃ p,(Builtin.append_ #[S,S] S #[(.slice a n cap),(.slice (some ⟨b1,0,none⟩) 1 1)]).run prog E=.ok (.slice ap g f) p/\K b1 ap g f p:=by
 rintro b1 E F hw;obtain ⟨C,j⟩:=bl F hw;have I:(n+1) * i.bytes<=1000000001 * 1000:=p1 (by omega) y;obtain ⟨ap,d,G,q,l,A,x⟩:=a2.append (P:=prog) (t:=S) (ty:=S) M J au D B (a2.new j w)
  (s:=some ⟨b1,0,none⟩) (m:=1) (c:=1) (news:=vs) (by omega) (fk C (by simp)) L (by omega) (by omega)
 refine ⟨ap,n+1,d,G,q,r b1 ap d G F l ((ao.b3 j).trans A λ_ _ h=>h) λk r=>?_⟩;rcases x with e | e
 ·exact .inl (e▸r)
 ·obtain ⟨o,w⟩:=r;rw [e] at w;simp at w;have:=j.size;omega
theorem g9 {M:a5} {w:ak} {a:al} {xs:ax} (h:bh w a xs) (c:∀ k,aK a k->¬ M k):xs=[]\/gd M a:=by
 rcases h with h | ⟨b,o,rfl,_⟩
 ·exact .inl h
 ·exact .inr (c b ⟨o,rfl⟩)
theorem a2.setCell {w:ak} {e sz n cap g:Nat} {xs:ax} (h:a2 w e sz (some ⟨g,0,none⟩) n cap xs) {i:Nat} (j:i<n * sz) (v:a4):a2 (w.setCell ⟨g,i,none⟩ v) e sz (some ⟨g,0,none⟩) n cap (xs.set i v):=by
 rcases h.2 with ⟨a,_⟩ | ⟨bU,cur,he,b,hle,c,d,f⟩
 ·cases a
 ·simp only [e8,Addr.mk.injEq,and_true] at he;subst he;refine ⟨by simp [h.1],.inr ⟨g,cur.set i v,rfl,b.setCell v,hle,c,by simp [d],?_⟩⟩;rw [<-f,List.take_set]
end
section
abbrev jp (a:aU):a4:=.pointer (some a)
abbrev bI (a:aU) (k:Nat):a4:=.pointer (some ⟨a.block,a.off+k,none⟩)
abbrev ab (x:Int):a4:=.int .i64 x
abbrev c9 (x:Nat):a4:=.int .i64 x
abbrev ah (x:Int):a4:=.int .u64 x
abbrev ad (x:Bool):a4:=.bool x
abbrev ae (a:al) (n c:Nat):a4:=.slice a n c
abbrev a6:a4:=.slice none 0 0
abbrev aF (j:ax) (n:Nat):a4:=j.getD n undef
abbrev aq:=ax
abbrev af (b k:Nat):aU:=⟨b,k,none⟩
abbrev bM (a:aU) (k:Nat):aU:=⟨a.block,a.off+k,none⟩
abbrev bm (b:Nat):al:=some ⟨b,0,none⟩
abbrev a9 (b:Nat):a4:=.pointer (some ⟨b,0,none⟩)
abbrev aQ (f:Func) (p:cQ) (R:cA):Exit->ax->aE:=aV (λenv w=>W prog (sub (bo f) p) env (dB prog f R) w) (dB prog f R)
abbrev sb (f:Func) (p:cQ):Code:=sub (bo f) p
abbrev c0 (f:Func) (p:cQ):Code:=.loop (sub (bo f) p)
abbrev b0 (f:Func) (R:cA):Exit->ax->aE:=dB prog f R
abbrev aR (w:ak) (l:Array a4) (T:TypeId) (K:Nat->aE):Prop:=∀ b w1,b=w.heap.size->w1=w.alloc (.cells l T)->K b w1
abbrev cq (w:ak) (K:ak->(aE)->Prop):Prop:=∀ w1,w1=w.drew->∃ S:aE,S w1/\K w1 S
abbrev cH (w:ak) (a:aU) (v:a4) (K:aE):Prop:=(∃ u,w.cell? a=some u)/\w.frozen? a=false/\∀ w1,w1=w.setCell a v->K w1
abbrev a8 (w:ak) (a:aU) (n:Nat) (l:ax) (K:aE):Prop:=eh w a n l/\∀ w1,w1=ct w a n l->K w1
abbrev c6 (T:TypeId) (x y:a4) (w:ak) (K:al->Nat->Nat->aE):Prop:=∃ (a:al) (n c:Nat),∃ w1,(Builtin.append_ #[T,T] T #[x,y]).run prog w=.ok (.slice a n c) w1/\K a n c w1
end
end Go.Proofs.YtmkljjbioomepaaGreat
