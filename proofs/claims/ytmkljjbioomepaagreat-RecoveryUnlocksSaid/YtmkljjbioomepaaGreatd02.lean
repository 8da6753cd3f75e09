import Derived.Test.YtmkljjbioomepaaGreatd01
import Derived.Laws.AppendOwn
import Derived.Laws.Tables
import Derived.Below
import Derived.Test.YtmkljjbioomepaaGreatProg
set_option linter.all false
namespace Go.bs
open Go.RowKit
def av (w:ak) (b:Nat) (cs:ax) (T:TypeId):Prop:=w.heap[b]?=some (.cells cs.toArray T (0,0))
theorem av.lt {w:ak} {b:Nat} {cs:ax} {T:TypeId} (h:av w b cs T):b<w.heap.size:=(vl.1 h).1
theorem av.cell {w:ak} {b i:Nat} {cs:ax} {T:TypeId} {v:a4} (h:av w b cs T) (a:cs[i]?=some v):w.cell? ⟨b,i,none⟩=some v:=by unfold World.cell?;simp only [show w.heap[(⟨b,i,none⟩:aX).block]?=_ from h];simpa using a
theorem av.frozen {w:ak} {b i:Nat} {cs:ax} {T:TypeId} (h:av w b cs T):w.frozen? ⟨b,i,none⟩=false:=by unfold World.frozen?;simp only [show w.heap[(⟨b,i,none⟩:aX).block]?=_ from h];simp
theorem av.uniq {w:ak} {b:Nat} {cs a:ax} {T d:TypeId} (h:av w b cs T) (c:av w b a d):cs=a/\T=d:=by unfold av at *;rw [h] at c;simp at c;exact c
theorem av.ne {w:ak} {b b':Nat} {cs a:ax} {T c:TypeId} (h:av w b cs T) (d:av w b' a c) (e:T≠c):b≠b':=by rintro rfl;exact e (h.uniq d).2
theorem pA (w:ak) (cs:ax) (T:TypeId):av (w.alloc (.cells cs.toArray T)) w.heap.size cs T:=by unfold av;show (w.heap.push _)[w.heap.size]?=_;simp
theorem HD (w:ak) (o:Obj) {k:Nat} (h:k<w.heap.size):(w.alloc o).heap[k]?=w.heap[k]?:=by show (w.heap.push o)[k]?=_;rw [Array.getElem?_push,if_neg (by omega)]
theorem av.alloc {w:ak} {b:Nat} {cs:ax} {T:TypeId} (h:av w b cs T) (o:Obj):av (w.alloc o) b cs T:=by unfold av at *;rw [HD _ _ (av.lt h)];exact h
theorem AH (w:ak) (a:aX) (v:a4) {k:Nat} (h:k≠a.block):(w.setCell a v).heap[k]?=w.heap[k]?:=by simp only [World.setCell,yL];rw [if_neg (Ne.symm h)]
theorem av.setCell {w:ak} {b i:Nat} {cs:ax} {T:TypeId} (h:av w b cs T) (v:a4):av (w.setCell ⟨b,i,none⟩ v) b (cs.set i v) T:=by unfold av at *;simp only [World.setCell,yL,if_true];rw [h];simp
theorem av.Hd {w:ak} {b b' i:Nat} {cs:ax} {T:TypeId} (h:av w b cs T) (a:b≠b') (v:a4):av (w.setCell ⟨b',i,none⟩ v) b cs T:=by unfold av at *;rw [AH _ _ _ (by simpa using a)];exact h
def ul (cs:ax) (i:Nat):ax->ax
 | []=>cs
 |v::vs=>ul (cs.set i v) (i+1) vs
theorem ll (b o i:Nat):(⟨b,o,none⟩:aX).add i=⟨b,o+i,none⟩:=by
 unfold Addr.add;split
 ·rename_i h;subst h;rfl
 ·rfl
theorem av.cu {b o:Nat} {T:TypeId}:∀ {vs:ax} {w:ak} {cs:ax} {i:Nat},av w b cs T->av (cu w ⟨b,o,none⟩ i vs) b (ul cs (o+i) vs) T
 | [],_,_,_,h=>h
 |v::vs,w,cs,i,h=>by unfold bs.cu ul;rw [ll];have:=av.cu (o:=o) (vs:=vs) (i:=i+1) (h.setCell (i:=o+i) v);rw [vn];exact this
theorem HL {b o:Nat}:∀ {vs:ax} {w:ak} {i k:Nat},k≠b->(cu w ⟨b,o,none⟩ i vs).heap[k]?=w.heap[k]?
 | [],_,_,_,_=>rfl
 |v::vs,w,i,k,h=>by unfold bs.cu;rw [HL h,ll,AH _ _ _ h]
theorem Bl {b o:Nat}:∀ {vs:ax} {w:ak} {i:Nat},(cu w ⟨b,o,none⟩ i vs).heap.size=w.heap.size
 | [],_,_=>rfl
 |v::vs,w,i=>by unfold bs.cu;rw [Bl,World.size_setCell]
theorem HE:∀ {vs cs:ax} {i:Nat},(ul cs i vs).length=cs.length
 | [],_,_=>rfl
 |v::vs,cs,i=>by unfold ul;rw [HE];simp
theorem pB:∀ {vs cs:ax} {i:Nat},i+vs.length<=cs.length->ul cs i vs=cs.take i++vs++cs.drop (i+vs.length)
 | [],cs,i,h=>by simp [ul]
 |v::vs,cs,i,h=>by
  unfold ul;simp only [hh] at h ⊢;rw [pB (by simp;omega)];apply jK;intro j;simp only [qb,iG,o0,m4,kv,im,dy,List.getElem?_cons,hh];have c:min (i+1) cs.length=i+1:=by omega
  have d:min i cs.length=i:=by omega
  rw [c,d];by_cases a:j<i
  ·simp only [a,show j<i+1 by omega,show j<i+1+vs.length by omega,show j<i+(vs.length+1) by omega,if_true,show ¬ i=j by omega,if_false]
  ·by_cases e:j=i
   ·subst e;simp only [show j<j+1 by omega,show j<j+1+vs.length by omega,show j<j+(vs.length+1) by omega,if_true,Nat.lt_irrefl,if_false,m3];simp [show j<cs.length by omega]
   ·by_cases b:j<i+1+vs.length
    ·simp only [b,show j<i+(vs.length+1) by omega,a,show ¬ j<i+1 by omega,if_true,if_false,show ¬ j - i=0 by omega];rw [show j - i - 1=j - (i+1) by omega]
    ·simp only [b,show ¬ j<i+(vs.length+1) by omega,if_false,show ¬ i=i+1+vs.length+(j - (i+1+vs.length)) by omega];rw [show i+1+vs.length+(j - (i+1+vs.length))=i+(vs.length+1)+(j - (i+(vs.length+1))) by omega]
theorem gq {w:ak} {b o:Nat} {cs:ax} {T:TypeId} (h:av w b cs T):∀ {vs:ax} {i:Nat},o+i+vs.length<=cs.length->(∀ v ∈ vs,single v=true)->eh w ⟨b,o,none⟩ i vs
 | [],_,_,_=>trivial
 |v::vs,i,d,c=>by
  simp only [hh] at d;have a:o+i<cs.length:=by omega
  refine ⟨⟨cs[o+i],?_⟩,?_,c v (by simp),gq h (by omega) (λu hu=>c u (by simp [hu]))⟩
  ·rw [ll];exact h.cell (by simp [a])
  ·rw [ll];exact h.frozen
theorem k8 {w:ak} {b o:Nat}:∀ {vs:ax} {i:Nat},(∀ j v,vs[j]?=some v->w.cell? ⟨b,o+i+j,none⟩=some v)->cf w ⟨b,o,none⟩ i vs
 | [],_,_=>trivial
 |v::vs,i,h=>by
  refine ⟨?_,k8 λj u hu=>?_⟩
  ·rw [ll];have:=h 0 v (by simp);simpa using this
  ·have:=h (j+1) u (by simpa using hu);rw [show o+(i+1)+j=o+i+(j+1) by omega];exact this
theorem bO {w:ak} {b o:Nat} {cs vs:ax} {T:TypeId} (h:av w b cs T) (al:(cs.drop o).take vs.length=vs):cf w ⟨b,o,none⟩ 0 vs:=by
 refine k8 λj v a=>h.cell ?_
 have:((cs.drop o).take vs.length)[j]?=some v:=by rw [al];exact a
 rw [m4] at this;split at this
 ·rw [kv] at this;simpa using this
 ·cases this
theorem yu {rows:List ax} {sz:Nat} (c:∀ r ∈ rows,r.length=sz) {i k:Nat} {r:ax} {v:a4} (a:rows[i]?=some r) (b:r[k]?=some v):rows.flatten[i * sz+k]?=some v:=by
 induction rows generalizing i with
 |nil=>simp at a
 |cons q rows e=>
  have f:=c q (by simp);cases i with
  |zero=>
   simp only [rz,fg] at a;subst a;have:k<q.length:=by
    rcases oY k q.length with h | h
    ·exact h
    ·rw [iF h] at b;cases b
   simp only [hg,vu,gM];rw [h3 this];exact b
  |succ i=>simp only [n4] at a;simp only [hg];rw [h4 (by rw [h2];omega)];have:=e (λr d=>c r (by simp [d])) a;rw [show (i+1) * sz+k - q.length=i * sz+k by rw [h2];omega];exact this
theorem mx {rows:List ax} {sz:Nat} (a:∀ r ∈ rows,r.length=sz):rows.flatten.length=rows.length * sz:=by
 induction rows with
 |nil=>simp
 |cons q rows c=>simp only [hg,dy,hh,a q (by simp),c (λr b=>a r (by simp [b])),h2];omega
theorem y1 {rows:List ax} {sz:Nat} (b:∀ r ∈ rows,r.length=sz) {i k:Nat} {r:ax} (v:a4) (a:rows[i]?=some r) (e:k<sz):rows.flatten.set (i * sz+k) v=(rows.set i (r.set k v)).flatten:=by
 induction rows generalizing i with
 |nil=>simp at a
 |cons q rows d=>
  have f:=b q (by simp);cases i with
  |zero=>simp only [rz,fg] at a;subst a;simp only [hg,vu,gM,yG];rw [List.set_append_left _ _ (by omega)]
  |succ i=>simp only [n4] at a;simp only [hg,BC];rw [BB _ _ (by rw [h2];omega),<-d (λr c=>b r (by simp [c])) a];congr 2;rw [h2];omega
theorem HU {rows:List ax} {sz:Nat} (a:∀ r ∈ rows,r.length=sz) {i:Nat} (b:i<rows.length) {vs:ax} (al:vs.length=sz):ul rows.flatten (i * sz) vs=(rows.set i vs).flatten:=by
 have e:=mx a;have d:i * sz+sz<=rows.length * sz:=by have:=tj sz (show i+1<=rows.length from b);rw [h2] at this;exact this
 rw [pB (by rw [e,al];exact d)];clear d;induction rows generalizing i with
 |nil=>simp at b
 |cons q rows f=>
  have g:=a q (by simp);cases i with
  |zero=>simp only [hg,vu,List.take_zero,m2,gM,yG];rw [List.drop_append_of_le_length (by omega),BF (by omega),m2]
  |succ i=>simp only [hh] at b;have:=f (λr c=>a r (by simp [c])) (i:=i) (by omega) (mx λr c=>a r (by simp [c]));simp only [hg,BC];rw [<-this,List.take_append,List.drop_append];rw [h1 (by rw [h2];omega),BF (by rw [h2];omega)];rw [show (i+1) * sz - q.length=i * sz by rw [h2];omega,show (i+1) * sz+vs.length - q.length=i * sz+vs.length by rw [h2];omega];simp
structure ao (M:a6) (w w':ak):Prop where
 os:w'.os=w.os
 tape:w'.tape=w.tape
 output:w'.output=w.output
 size:w.heap.size<=w'.heap.size
 block:∀ k,k<w.heap.size->¬ M k->w'.heap[k]?=w.heap[k]?
abbrev ai (w w':ak):Prop:=ao (λ_=>False) w w'
theorem ao.refl (M:a6) (w:ak):ao M w w:=⟨rfl,rfl,rfl,cY _,λ_ _ _=>rfl⟩
theorem ao.trans {M M':a6} {a b c:ak} (h:ao M a b) (k:ao M' b c) (f:∀ i,i<a.heap.size->M' i->M i):ao M a c:=
 ⟨k.os.trans h.os,k.tape.trans h.tape,k.output.trans h.output,lE h.size k.size,λi d hm=>
  (k.block i (gi d h.size) (λe=>hm (f i d e))).trans (h.block i d hm)⟩
theorem ao.mono {M M':a6} {a b:ak} (h:ao M a b) (e:∀ i,i<a.heap.size->M i->M' i):ao M' a b:=
 ⟨h.os,h.tape,h.output,h.size,λi d hm=>h.block i d (λc=>hm (e i d c))⟩
theorem ao.b9 {M:a6} {a b:ak} (h:ai a b):ao M a b:=h.mono λ_ _ c=>c.elim
theorem ao.new {M:a6} {a b c:ak} (h:ao M a b) (k:ai b c):ao M a c:=h.trans k λ_ _ d=>d.elim
theorem hy (w:ak) (o:Obj):ai w (w.alloc o):=⟨rfl,rfl,rfl,by simp,λk a _=>HD _ _ a⟩
theorem cK (w:ak):ai w w.drew:=⟨rfl,rfl,rfl,cY _,λ_ _ _=>rfl⟩
theorem ao.alloc {M:a6} {a w:ak} (h:ao M a w) (o:Obj):ao M a (w.alloc o):=h.new (hy w o)
theorem ao.drew {M:a6} {a w:ak} (h:ao M a w):ao M a w.drew:=h.new (cK w)
theorem eX (w:ak) (b i:Nat) (v:a4):ao (λk=>k=b) w (w.setCell ⟨b,i,none⟩ v):=
 ⟨rfl,rfl,rfl,by simp,λk _ hm=>AH _ _ _ hm⟩
theorem ao.setCell {M:a6} {a w:ak} (h:ao M a w) {b i:Nat} (c:M b\/a.heap.size<=b) (v:a4):ao M a (w.setCell ⟨b,i,none⟩ v):=
 h.trans (eX w b i v) λk d hm=>by rcases c with c | c;exact hm▸c;omega
theorem vT {b o:Nat}:∀ {vs:ax} {w:ak} {i:Nat},(cu w ⟨b,o,none⟩ i vs).os=w.os/\(cu w ⟨b,o,none⟩ i vs).tape=w.tape/\(cu w ⟨b,o,none⟩ i vs).output=w.output
 | [],_,_=>⟨rfl,rfl,rfl⟩
 |v::vs,w,i=>by unfold bs.cu;have:=vT (b:=b) (o:=o) (vs:=vs) (w:=w.setCell ((⟨b,o,none⟩:aX).add i) v) (i:=i+1);exact this
theorem h7 (w:ak) (b o i:Nat) (vs:ax):ao (λk=>k=b) w (cu w ⟨b,o,none⟩ i vs):=
 ⟨vT.1,vT.2.1,vT.2.2,by rw [Bl];exact cY _,λk _ hm=>HL hm⟩
theorem ao.cu {M:a6} {a w:ak} (h:ao M a w) {b o i:Nat} (c:M b\/a.heap.size<=b) (vs:ax):ao M a (cu w ⟨b,o,none⟩ i vs):=
 h.trans (h7 w b o i vs) λk d hm=>by rcases c with c | c;exact hm▸c;omega
theorem ao.aj {M:a6} {w w':ak} (h:ao M w w') {b:Nat} {cs:ax} {T:TypeId} (a:av w b cs T) (hm:¬ M b):av w' b cs T:=by unfold av at *;rw [h.block b (av.lt a) hm];exact a
theorem ai.aj {w w':ak} (h:ai w w') {b:Nat} {cs:ax} {T:TypeId} (a:av w b cs T):av w' b cs T:=ao.aj h a id
theorem ao.below {M:a6} {w w':ak} {B:Nat} (h:ao M w w') (b:B<=w.heap.size) (c:∀ k,k<B->¬ M k):Below B w w':=
 ⟨h.os,h.tape,h.output,h.size,λk a=>h.block k (gi a b) (c k a)⟩
theorem sx {w w':ak} {row:Option Nat} (h:w.grownBy w' row):ao (λk=>some k=row) w w':=⟨h.os,h.tape,h.output,h.size,λk a hm=>h.block k a hm⟩
def bk (w:ak) (a:an) (xs:ax):Prop:=
 xs=[]\/∃ b o,a=some ⟨b,o,none⟩/\∀ j u,xs[j]?=some u->w.cell? ⟨b,o+j,none⟩=some u
theorem vU {w:ak} {a:aX} {v:a4} (h:w.cell? a=some v):a.block<w.heap.size:=by
 unfold World.cell? at h;cases b:w.heap[a.block]? with
 |none=>rw [b] at h;cases h
 |some o=>exact (vl.1 b).1
theorem jQ {M:a6} {w w':ak} (h:ao M w w') {a:aX} {v:a4} (b:w.cell? a=some v) (hm:¬ M a.block):w'.cell? a=some v:=by rw [World.cell?_of_block (h.block _ (vU b) hm)];exact b
def gA (M:a6):an->Prop
 |some a=>¬ M a.block
 |none=>True
theorem bk.aA {M:a6} {w w':ak} (h:ao M w w') {a:an} {xs:ax} (d:bk w a xs) (hm:xs=[]\/gA M a):bk w' a xs:=by
 rcases d with rfl | ⟨b,o,rfl,c⟩
 ·exact .inl rfl
 ·rcases hm with rfl | hm
  ·exact .inl rfl
  ·exact .inr ⟨b,o,rfl,λj u hu=>jQ h (c j u hu) hm⟩
theorem bk.new {w w':ak} (h:ai w w') {a:an} {xs:ax} (b:bk w a xs):bk w' a xs:=by
 refine b.aA h ?_;cases a with
 |none=>exact .inr trivial
 |some a=>exact .inr id
theorem bk.nil (w:ak) (a:an):bk w a []:=.inl rfl
theorem bk.lt {w:ak} {a:aX} {xs:ax} (e:bk w (some a) xs) (c:xs≠[]):a.block<w.heap.size:=by
 rcases e with rfl | ⟨b,o,he,d⟩
 ·exact absurd rfl c
 ·cases xs with
  |nil=>exact absurd rfl c
  |cons v vs=>have:=vU (d 0 v rfl);simp only [fg] at he;rw [he];exact this
theorem fu {w:ak} {b:Nat} {cs xs:ax} {T:TypeId} (h:av w b cs T) {o:Nat} (a:(cs.drop o).take xs.length=xs):bk w (some ⟨b,o,none⟩) xs:=by
 refine .inr ⟨b,o,rfl,λj u hu=>h.cell ?_⟩;have:((cs.drop o).take xs.length)[j]?=some u:=by rw [a];exact hu
 rw [m4] at this;split at this
 ·rw [kv] at this;exact this
 ·cases this
theorem bk.take {w:ak} {a:an} {xs:ax} (h:bk w a xs) (n:Nat):bk w a (xs.take n):=by
 rcases h with rfl | ⟨b,o,rfl,c⟩
 ·simp;exact .inl rfl
 ·refine .inr ⟨b,o,rfl,λj u hu=>?_⟩;rw [m4] at hu;split at hu
  ·exact c j u hu
  ·cases hu
theorem bk.drop {w:ak} {b o:Nat} {xs:ax} (h:bk w (some ⟨b,o,none⟩) xs) (n:Nat):bk w (some ⟨b,o+n,none⟩) (xs.drop n):=by
 rcases h with rfl | ⟨b',c,he,a⟩
 ·simp;exact .inl rfl
 ·simp only [fg,Addr.mk.injEq,and_true] at he;obtain ⟨rfl,rfl⟩:=he;refine .inr ⟨b,o+n,rfl,λj u hu=>?_⟩;rw [kv] at hu;rw [vn];exact a _ _ hu
theorem bk.cell {w:ak} {b o:Nat} {xs:ax} (h:bk w (some ⟨b,o,none⟩) xs) {j:Nat} {u:a4} (hu:xs[j]?=some u):w.cell? ⟨b,o+j,none⟩=some u:=by
 rcases h with rfl | ⟨b',c,he,a⟩
 ·simp at hu
 ·simp only [fg,Addr.mk.injEq,and_true] at he;obtain ⟨rfl,rfl⟩:=he;exact a j u hu
def a1 (w:ak) (e sz:Nat) (a:an) (n cap:Nat) (xs:ax):Prop:=
 xs.length=n * sz/\((a=none/\n=0/\cap=0)\/∃ g cur,a=some ⟨g,0,none⟩/\av w g cur e/\n<=cap/\cap<=maxLen/\cur.length=cap * sz/\cur.take (n * sz)=xs)
def aL (a:an) (k:Nat):Prop:=∃ o,a=some ⟨k,o,none⟩
theorem a1.nil (w:ak) (e sz:Nat):a1 w e sz none 0 0 []:=⟨by simp,.inl ⟨rfl,rfl,rfl⟩⟩
theorem a1.aA {M:a6} {w w':ak} (h:ao M w w') {e sz n cap:Nat} {a:an} {xs:ax} (b:a1 w e sz a n cap xs) (hm:∀ k,aL a k->¬ M k):a1 w' e sz a n cap xs:=by
 refine ⟨b.1,?_⟩;rcases b.2 with d | ⟨g,cur,rfl,c,rest⟩
 ·exact .inl d
 ·exact .inr ⟨g,cur,rfl,h.aj c (hm g ⟨0,rfl⟩),rest⟩
theorem a1.new {w w':ak} (h:ai w w') {e sz n cap:Nat} {a:an} {xs:ax} (b:a1 w e sz a n cap xs):a1 w' e sz a n cap xs:=b.aA h λ_ _=>id
theorem a1.rd {w:ak} {e sz n cap:Nat} {a:an} {xs:ax} (b:a1 w e sz a n cap xs):bk w a xs:=by
 rcases b.2 with ⟨_,d,_⟩ | ⟨g,cur,rfl,c,_,_,_,f⟩
 ·refine .inl (fF ?_);rw [b.1,d];simp
 ·refine fu c ?_;rw [vx,b.1];exact f
theorem a1.lt {w:ak} {e sz n cap:Nat} {a:an} {xs:ax} (d:a1 w e sz a n cap xs) {k:Nat} (c:aL a k):k<w.heap.size:=by
 obtain ⟨o,rfl⟩:=c;rcases d.2 with ⟨h,_⟩ | ⟨g,cur,he,b,_⟩
 ·cases h
 ·simp at he;rw [he.1];exact b.lt
theorem a1.le {w:ak} {e sz n cap:Nat} {a:an} {xs:ax} (b:a1 w e sz a n cap xs):n<=cap:=by
 rcases b.2 with ⟨_,d,c⟩ | ⟨g,cur,_,_,h,_⟩
 ·omega
 ·exact h
theorem HF {v:a4} (h:single v=true):v.oneCell'=true:=by cases v<;>simp [single] at h<;>rfl
theorem a1.append {P:Program} {w:ak} {t ty e:TypeId} {i:TypeInfo} {z:a4} (A:P.underlying t=some (.slice e)) (r:P.info? e=some i) (au:i.zero=some z) (N:z.cells.size=i.size) (Xv:0<i.size)
  {a:an} {n cap:Nat} {xs:ax} (y:a1 w e i.size a n cap xs) {s:an} {m c:Nat} {news:ax} (x:news.length=m * i.size) (Z:bk w s news) (T:∀ u ∈ news,single u=true)
  (V:n+m<=140737488355328) (C:(n+m) * i.bytes<=140737488355328) :
  ∃ G f w',(Builtin.append_ #[t,t] ty #[.slice a n cap,.slice s m c]).run P w=.ok (.slice G (n+m) f) w'/\a1 w' e i.size G (n+m) f (xs++news)/\ao (aL a) w w'/\
   (G=a\/G=some ⟨w.heap.size,0,none⟩):=by
 have hlen:(xs++news).length=(n+m) * i.size:=by rw [dy,y.1,x,rr]
 have E:n+m<=maxLen:=by simp only [maxLen];omega
 have grown:∀ (old:Nat),old<n+m->
   a1 (w.drew.alloc (.cells (xs.toArray++news.toArray++Builtin.zeroCells z.cells (grownCap w (n+m) old e - (n+m))) e)) e i.size (some ⟨w.heap.size,0,none⟩) (n+m) (grownCap w (n+m) old e) (xs++news):=by
  intro old hold;have L:=grownCap_ge w (n+m) old e;refine ⟨hlen,.inr ⟨w.heap.size,xs++news++(Builtin.zeroCells z.cells (grownCap w (n+m) old e - (n+m))).toList,rfl,?_,L,grownCap_le_maxLen w (n+m) old e E,?_,?_⟩⟩
  ·have O:=pA w.drew (xs++news++(Builtin.zeroCells z.cells (grownCap w (n+m) old e - (n+m))).toList) e;have U:(xs++news++(Builtin.zeroCells z.cells (grownCap w (n+m) old e - (n+m))).toList).toArray=xs.toArray++news.toArray++Builtin.zeroCells z.cells (grownCap w (n+m) old e - (n+m)):=by apply Array.ext';simp
   rw [U] at O;exact O
  ·rw [dy,hlen,Array.length_toList,size_zeroCells,N,<-rr];congr 1;omega
  ·rw [<-hlen];exact List.take_left
 have p:∀ o,ao (aL a) w (w.drew.alloc o):=λo=>ao.b9 ((cK w).alloc o)
 by_cases hm:m=0
 ·subst hm;have X:news=[]:=fF (by simpa using x);subst X;refine ⟨a,cap,w,?_,by simpa using y,ao.refl _ _,.inl rfl⟩;have hle:=y.le;have R:n+0<=cap:=by omega
  cases a with
  |none=>
   cases s with
   |none=>simp [Builtin.append_,run_underlying A,sizeOf,typeInfo,r,Builtin.lenOf,hle,Builtin.firstCells]
   |some s=>simp [Builtin.append_,run_underlying A,sizeOf,typeInfo,r,Builtin.lenOf,hle,Builtin.firstCells,loadCells,loadCellsFrom]
  |some a=>
   cases s with
   |none=>simp [Builtin.append_,run_underlying A,sizeOf,typeInfo,r,Builtin.lenOf,hle,Builtin.firstCells,storeCells]
   |some s=>simp [Builtin.append_,run_underlying A,sizeOf,typeInfo,r,Builtin.lenOf,hle,Builtin.firstCells,loadCells,loadCellsFrom,storeCells]
 ·have M:news≠[]:=by
   intro I;have S:m * i.size=0:=by rw [<-x,I];rfl
   rcases Nat.mul_eq_zero.1 S with h | h<;>omega
  rcases Z with I | ⟨sb,so,rfl,q⟩
  ·exact absurd I M
  have b:∀ j u,news[j]?=some u->w.cell? ((⟨sb,so,none⟩:aX).add j)=some u:=λj u hu=>by rw [ll];exact q j u hu
  have H:∀ u ∈ news,u.oneCell'=true:=λu hu=>HF (T u hu)
  rcases y.2 with ⟨rfl,rfl,rfl⟩ | ⟨g,cur,rfl,Q,Y,J,K,B⟩
  ·have Xw:xs=[]:=fF (by simpa using y.1);subst Xw;have F:=run_append_nil (P:=P) w t ty e i z A r au ⟨sb,so,none⟩ m c news x b (by omega) (by omega) (by simp only [gM] at C;omega);have D:=grown 0 (by omega);simp only [gM,m2,Array.empty_append] at D ⊢;exact ⟨_,_,_,F,D,p _,.inr rfl⟩
  ·by_cases d:n+m<=cap
   ·have l:n * i.size+news.length<=cur.toArray.size:=by rw [x,List.size_toArray,K,<-rr];exact tj _ d
    have F:=run_append_room (P:=P) w t ty e i A r g n cap cur.toArray Q ⟨sb,so,none⟩ m c news x b H d l;refine ⟨_,_,_,F,⟨hlen,.inr ⟨g,_,rfl,setRow_heap w g cur.toArray _ e _ Q,d,J,?_,?_⟩⟩,⟨rfl,rfl,rfl,by simp,λk _ W=>setRow_other w g k _ (λe=>W ⟨0,by rw [e]⟩)⟩,.inl rfl⟩
    ·simp only [dy,iG,lH] at *;simp at l <;> omega
    ·rw [B,<-hlen];exact List.take_left
   ·have holds:∀ j u,xs[j]?=some u->w.cell? ((⟨g,0,none⟩:aX).add j)=some u:=λj u hu=>by rw [ll];exact y.rd.cell hu
    have F:=run_append_grow (P:=P) w t ty e i z A r au ⟨g,0,none⟩ n cap xs y.1 holds ⟨sb,so,none⟩ m c news x b (by omega) (by omega) (growslice_fits (by omega) C);exact ⟨_,_,_,F,grown cap (by omega),p _,.inr rfl⟩
theorem bk.row {w:ak} {a:an} {rows:List ax} {sz:Nat} (h:bk w a rows.flatten) (d:∀ r ∈ rows,r.length=sz) (au:0<sz) {i:Nat} {r:ax} (c:rows[i]?=some r) :
  ∃ b o,a=some ⟨b,o,none⟩/\cf w ⟨b,o+i * sz,none⟩ 0 r/\∀ k v,r[k]?=some v->w.cell? ⟨b,o+i * sz+k,none⟩=some v:=by
 have l:=d r (b5 c);rcases h with h | ⟨b,o,rfl,e⟩
 ·have:=yu d c (k:=0) (v:=r[0]) (by simp [l,au]);rw [h] at this;simp at this
 ·have key:∀ k v,r[k]?=some v->w.cell? ⟨b,o+i * sz+k,none⟩=some v:=λk v g=>by rw [vn];exact e _ _ (yu d c g)
  exact ⟨b,o,rfl,k8 λj v f=>by simpa using key j v f,key⟩
theorem px {cs vs:ax} (h:vs.length=cs.length):ul cs 0 vs=vs:=by rw [pB (by omega)];simp [h]
theorem bl {u w1:ak} {b1:Nat} {zs:Array a4} {T:TypeId} (a:b1=u.heap.size) (hw:w1=u.alloc (.cells zs T)):av w1 b1 zs.toList T/\ai u w1:=by subst a hw;exact ⟨by simpa using pA u zs.toList T,hy _ _⟩
theorem oK {u w1 a:ak} {b:Nat} {cs vs:ax} {T:TypeId} (h:av w1 b cs T) (d:vs.length=cs.length) (e:ai u w1) (c:u.heap.size<=b) (hw:a=cu w1 ⟨b,0,none⟩ 0 vs):av a b vs T/\ai u a:=by subst hw;refine ⟨?_,e.cu (.inr c) _⟩;have:=h.cu (o:=0) (i:=0) (vs:=vs);rw [px d] at this;exact this
end Go.bs
namespace Go.bs
theorem f' {b:Bool} {A B:Prop} (c:b=true->A) (a:b=false->B):(bif b then A else B):=by
 cases b
 ·exact a rfl
 ·exact c rfl
theorem bc {p:Prop} [Decidable p] {A B:Prop} (b:p->A) (a:¬ p->B):(bif decide p then A else B):=
 f' (λh=>b (of_decide_eq_true h)) (λh=>a (of_decide_eq_false h))
theorem d' {x y:Int} {A B:Prop} (b:x=y->A) (a:x≠y->B):(bif (x == y) then A else B):=
 f' (λh=>b (by simpa using h)) (λh=>a (by simpa using h))
theorem du {x y:Int} {A B:Prop} (b:x≠y->A) (a:x=y->B):(bif (x != y) then A else B):=
 f' (λh=>b (by simpa using h)) (λh=>a (by simpa using h))
theorem ev {b:Bool} {A B:Prop} (a:b=false->A) (c:b=true->B):(bif (!b) then A else B):=by
 cases b
 ·exact a rfl
 ·exact c rfl
theorem gB {b:Bool} {A B:Prop} (a:b=true) (h:A):(bif b then A else B):=by subst a;exact h
theorem di {b:Bool} {A B:Prop} (a:b=false) (h:B):(bif b then A else B):=by subst a;exact h
theorem ej {b o len sz:Nat} {n:Int} {K:aX->Prop} (a:0<=n) (c:n<len) (h:K ⟨b,o+n.toNat * sz,none⟩):bA (some ⟨b,o,none⟩) len n sz K:=
 ⟨_,rfl,a,c,by rw [ll];exact h⟩
theorem vf {b o len sz:Nat} {n:Int} {K:aX->Prop} (a:0<=n) (c:n<len) (h:K ⟨b,o+n.toNat * sz,none⟩):pw ⟨b,o,none⟩ len n sz K:=
 ⟨a,c,by rw [ll];exact h⟩
theorem kM {b o len cap sz:Nat} {c d e:Int} {K:an->Nat->a6} (f:0<=c) (g:c<=d) (i:d<=e) (j:e<=cap) (k:len<=cap)
  (h:∀ a,(a=some ⟨b,o+c.toNat * sz,none⟩\/d=c/\a=some ⟨b,o,none⟩)->K a (d.toNat - c.toNat) (e.toNat - c.toNat)):hY (some ⟨b,o,none⟩) len cap c d e sz K:=by
 refine ⟨f,g,i,j,k,h _ ?_⟩;split
 ·rename_i he;exact .inr ⟨by omega,rfl⟩
 ·refine .inl ?_;simp only [mc,ll]
theorem bH {x:Int} (a:-9223372036854775808<=x) (b:x<9223372036854775808):IntKind.i64.wrap x=x:=by simp only [IntKind.wrap,IntKind.bits,IntKind.signed];simp;omega
theorem kt {x:Int} (a:0<=x) (b:x<18446744073709551616):IntKind.u64.wrap x=x:=by simp only [IntKind.wrap,IntKind.bits,IntKind.signed];simp;omega
end Go.bs
namespace Go.Proofs.YtmkljjbioomepaaGreat
open Go.Proofs.Tryz Go.bs
section
theorem mix:prog.follows .mixedOrders=true:=by kernel_rfl
abbrev bb (f:FuncId) (args:ax) (w:ak) (R:cz):Prop:=Calls prog f args.toArray w λe w'=>∃ v,e=.returned v/\R v w'
theorem bd {f:FuncId} {fn:Func} {args:ax} {w:ak} {R:cz} (a:prog.funcs[f]?=some fn) (h:bf prog fn args R w):bb f args w R:=LX mix a h
theorem aD {f:FuncId} {args:Array a4} {w:ak} {R:cz} {Q:Ending->aF} (h:Calls prog f args w λe w'=>∃ v,e=.returned v/\R v w') (a:∀ v w',R v w'->Q (.returned v) w'):Calls prog f args w Q:=
 h.mono λe w' ⟨v,he,b⟩=>he▸a v w' b
theorem fV {T:TypeId} {z:a4} {n m:Nat} (h:(prog.info? T).map (λi=>(i.zero,i.size,i.bytes))=some (some z,n,m)):∃ i,prog.info? T=some i/\i.zero=some z/\i.size=n/\i.bytes=m:=by
 cases a:prog.info? T with
 |none=>rw [a] at h;cases h
 |some i=>rw [a] at h;simp at h;exact ⟨i,rfl,h.1,h.2.1,h.2.2⟩
end
section
def d9 (x:Int):Prop:=-9223372036854775808<=x/\x<9223372036854775808
def cj (x:Int):Prop:=0<=x/\x<18446744073709551616
theorem b3 {α:Type} {l:List α} {i:Nat} {x:α} (h:l[i]?=some x):i<l.length:=(lG.1 h).1
def us (l:a8):ax:=l.map (Value.int .u64)
def is (l:a8):ax:=l.map (Value.int .i64)
theorem tr {l:a8} {i:Nat} {x:Int} (h:l[i]?=some x):(us l)[i]?=some (.int .u64 x):=by simp [us,h]
theorem hO (l:a8):(us l).length=l.length:=by simp [us]
theorem pC (l:a8):∀ u ∈ us l,single u=true:=by intro u hu;simp only [us,cZ] at hu;obtain ⟨x,_,rfl⟩:=hu;rfl
theorem KE (l:a8):∀ u ∈ is l,single u=true:=by intro u hu;simp only [is,cZ] at hu;obtain ⟨x,_,rfl⟩:=hu;rfl
theorem dQ {u:ak} {b:Nat} {cs vs:ax} {T:TypeId} {K:aF} (a:av u b cs T) (d:vs.length=cs.length) (e:∀ v ∈ vs,single v=true) (c:∀ w',av w' b vs T->ao (λk=>k=b) u w'->K w') :
  eh u ⟨b,0,none⟩ 0 vs/\∀ w',w'=cu u ⟨b,0,none⟩ 0 vs->K w':=by
 refine ⟨gq a (by omega) e,?_⟩;rintro w' rfl;refine c _ ?_ (h7 _ _ _ _ _);have h:=a.cu (o:=0) (i:=0) (vs:=vs);rw [px d] at h;exact h
theorem ec {u:ak} {zs vs:ax} {T:TypeId} {K:Nat->aF} (i:vs.length=zs.length) (n:∀ v ∈ vs,single v=true) (h:∀ b w',b=u.heap.size->av w' b vs T->ai u w'->K b w') :
  ∀ b1 w1,b1=u.heap.size->w1=u.alloc (.cells zs.toArray T)->eh w1 ⟨b1,0,none⟩ 0 vs/\∀ g,g=cu w1 ⟨b1,0,none⟩ 0 vs->K b1 g:=by
 rintro b1 w1 a f;obtain ⟨au,l⟩:=bl a f;refine dQ au (by simpa using i) n λw' c d=>h b1 w' a c (l.trans d λk j e=>?_)
 omega
theorem sF {u z b:ak} {a:an} (g:ai u z) (e:ao (aL a) z b) (c:∀ k,aL a k->u.heap.size<=k):ai u b:=
 g.trans e λk f d=>by have:=c k d;omega
theorem eI {α:Type} {cells:α->ax} {sz:Nat} (c:∀ x,(cells x).length=sz) (e:0<sz) {u:ak} {a:an} {l:List α} (h:bk u a (l.map cells).flatten) {i:Nat} {x:α} (d:l[i]?=some x) {z:Int} (au:z=i) {n:Nat} (p:n=l.length) {K:aX->Prop}
  (j:∀ b o,cf u ⟨b,o,none⟩ 0 (cells x)->(∀ (q:Nat) (v:a4),(cells x)[q]?=some v->u.cell? ⟨b,o+q,none⟩=some v)->K ⟨b,o,none⟩):bA a n z sz K:=by
 subst au p;have k:=b3 d;obtain ⟨b,o,rfl,f,g⟩:=h.row (sz:=sz) (λr s=>by obtain ⟨y,_,rfl⟩:=cZ.1 s;exact c y) e (i:=i) (r:=cells x) (by simp [d]);exact ej (by omega) (by omega) (by simpa using j b _ f g)
theorem jj {α:Type} {cells:α->ax} {sz:Nat} (c:∀ x,(cells x).length=sz) (f:0<sz) {u:ak} {a:an} {l:List α} (h:bk u a (l.map cells).flatten) {i:Nat} {x:α} (d:l[i]?=some x) {z:Int} (au:z=i) {n:Nat} (s:n=l.length) {K:aX->Prop}
  (k:∀ b o,(∀ y,ai u y->∀ (q:Nat) (v:a4),(cells x)[q]?=some v->y.cell? ⟨b,o+q,none⟩=some v)->K ⟨b,o,none⟩):bA a n z sz K:=by
 subst au s;have p:=b3 d;have g:∀ r ∈ l.map cells,r.length=sz:=λr t=>by obtain ⟨y,_,rfl⟩:=cZ.1 t;exact c y
 obtain ⟨b,o,rfl,A,B⟩:=h.row (sz:=sz) g f (i:=i) (r:=cells x) (by simp [d]);refine ej (by omega) (by omega) ?_;have:=k b (o+i * sz) λy w q v al=>by obtain ⟨b',C,e,_,j⟩:=(h.new w).row (sz:=sz) g f (i:=i) (r:=cells x) (by simp [d]);simp at e;obtain ⟨rfl,rfl⟩:=e;exact j q v al
 simpa using this
theorem j3 {x:Int} (a:0<=x) (b:x<18446744073709551616):IntKind.u64.wrap x=x:=by simp only [IntKind.wrap,IntKind.bits,IntKind.signed];simp;omega
theorem yj (n:Nat):BitVec.ofInt 64 (n:Int)=BitVec.ofNat 64 n:=by apply BitVec.eq_of_toInt_eq;simp
theorem vg (a b:Nat) (d:a<18446744073709551616) (e:b<18446744073709551616):ju .u64 (a:Int) (b:Int)=((a ||| b:Nat):Int):=by have c:a ||| b<2 ^ 64:=Nat.or_lt_two_pow (by omega) (by omega);unfold ju;show IntKind.u64.wrap ((BitVec.ofInt 64 (a:Int) ||| BitVec.ofInt 64 (b:Int)).toNat:Int)=_;rw [yj,yj,BitVec.toNat_or,BitVec.toNat_ofNat,BitVec.toNat_ofNat,ti (by omega),ti (by omega)];exact j3 (by omega) (by omega)
theorem LY (a b:Nat) (d:a<18446744073709551616) (e:b<18446744073709551616):fG .u64 (a:Int) (b:Int)=((a &&& b:Nat):Int):=by have c:a &&& b<2 ^ 64:=Nat.and_lt_two_pow _ (by omega);unfold fG;show IntKind.u64.wrap ((BitVec.ofInt 64 (a:Int) &&& BitVec.ofInt 64 (b:Int)).toNat:Int)=_;rw [yj,yj,BitVec.toNat_and,BitVec.toNat_ofNat,BitVec.toNat_ofNat,ti (by omega),ti (by omega)];exact j3 (by omega) (by omega)
theorem v_ (a b k:Nat) (c:b<2 ^ k):a * 2 ^ k ||| b=a * 2 ^ k+b:=by rw [vr,Nat.two_pow_add_eq_or_of_lt c]
theorem rU {u:ak} {b o:Nat} {cs:ax} {T:TypeId} {v:a4} {K:aF} (a:av u b cs T) (d:o<cs.length) (c:∀ w',av w' b (cs.set o v) T->ao (λk=>k=b) u w'->K w') :
  (∃ x,u.cell? ⟨b,o,none⟩=some x)/\u.frozen? ⟨b,o,none⟩=false/\∀ w',w'=u.setCell ⟨b,o,none⟩ v->K w':=
 ⟨⟨_,a.cell (bE d)⟩,a.frozen,λw' h=>by subst h;exact c _ (a.setCell v) (eX _ _ _ _)⟩
theorem LZ {P:Program} {f:FuncId} {first captured args xs:Array a4} {w:ak} {R:Ending->aF} (a:iA P f=true) (b:first++args++captured=xs) (h:Calls P f xs w R):m0 P (.func (.func f) first captured) args w R:=by unfold m0;simp only [a];rw [b];exact h
theorem q4 {P:Program} {f:FuncId} {first captured args xs:Array a4} {w:ak} {R:Ending->aF} (a:iA P f=true) (b:first++args++captured=xs) (h:Calls P f xs w R):jk P (.func (.func f) first captured) args w R:=by unfold jk;exact LZ a b h
theorem Bm {w:Int} (a:0<=w) (c:w<18446744073709551616) (k:Nat) (b:k<64):fG .u64 w ((2 ^ k - 1:Nat):Int)=w % (2 ^ k:Nat):=by obtain ⟨n,rfl⟩:=p8 a;have:2 ^ k<2 ^ 64:=Nat.pow_lt_pow_right (by decide) b;rw [LY _ _ (by omega) (by omega),Nat.and_two_pow_sub_one_eq_mod];simp
theorem oI {S e:TypeId} {i:TypeInfo} {z:a4} (M:prog.underlying S=some (.slice e)) (J:prog.info? e=some i) (au:i.zero=some z) (D:z.cells.size=i.size) (B:0<i.size)
  {u:ak} {a:an} {n cap:Nat} {xs:ax} (w:a1 u e i.size a n cap xs) {vs:ax} (N:vs.length=i.size) (L:∀ v ∈ vs,single v=true) (H:n<=1000000000) (y:i.bytes<=1000) {K:Nat->an->Nat->Nat->aF}
  (r:∀ b ap d p,b=u.heap.size->a1 p e i.size ap (n+1) d (xs++vs)->ao (aL a) u p->(∀ k,aL ap k->aL a k\/u.heap.size<=k)->K b ap (n+1) d p) :
  ∀ b1 E,b1=u.heap.size->E=u.alloc (.cells vs.toArray e)->∃ (ap:an) (g f:Nat),∃ p,(Builtin.append_ #[S,S] S #[(.slice a n cap),(.slice (some ⟨b1,0,none⟩) 1 1)]).run prog E=.ok (.slice ap g f) p/\K b1 ap g f p:=by
 rintro b1 E F hw;obtain ⟨C,j⟩:=bl F hw;have I:(n+1) * i.bytes<=1000000001 * 1000:=p_ (by omega) y;obtain ⟨ap,d,G,q,l,A,x⟩:=a1.append (P:=prog) (t:=S) (ty:=S) M J au D B (a1.new j w)
  (s:=some ⟨b1,0,none⟩) (m:=1) (c:=1) (news:=vs) (by omega) (fu C (by simp)) L (by omega) (by omega)
 refine ⟨ap,n+1,d,G,q,r b1 ap d G F l ((ao.b9 j).trans A λ_ _ h=>h) λk r=>?_⟩;rcases x with e | e
 ·exact .inl (e▸r)
 ·obtain ⟨o,w⟩:=r;rw [e] at w;simp at w;have:=j.size;omega
theorem hk {M:a6} {w:ak} {a:an} {xs:ax} (h:bk w a xs) (c:∀ k,aL a k->¬ M k):xs=[]\/gA M a:=by
 rcases h with h | ⟨b,o,rfl,_⟩
 ·exact .inl h
 ·exact .inr (c b ⟨o,rfl⟩)
theorem a1.setCell {w:ak} {e sz n cap g:Nat} {xs:ax} (h:a1 w e sz (some ⟨g,0,none⟩) n cap xs) {i:Nat} (j:i<n * sz) (v:a4):a1 (w.setCell ⟨g,i,none⟩ v) e sz (some ⟨g,0,none⟩) n cap (xs.set i v):=by
 rcases h.2 with ⟨a,_⟩ | ⟨bW,cur,he,b,hle,c,d,f⟩
 ·cases a
 ·simp only [fg,Addr.mk.injEq,and_true] at he;subst he;refine ⟨by simp [h.1],.inr ⟨g,cur.set i v,rfl,b.setCell v,hle,c,by simp [d],?_⟩⟩;rw [<-f,List.take_set]
end
section
abbrev jp (a:aX):a4:=.pointer (some a)
abbrev bL (a:aX) (k:Nat):a4:=.pointer (some ⟨a.block,a.off+k,none⟩)
abbrev ab (x:Int):a4:=.int .i64 x
abbrev eo (x:Nat):a4:=.int .i64 x
abbrev ah (x:Int):a4:=.int .u64 x
abbrev ad (x:Bool):a4:=.bool x
abbrev ae (a:an) (n c:Nat):a4:=.slice a n c
abbrev a5:a4:=.slice none 0 0
abbrev aO (j:ax) (n:Nat):a4:=j.getD n undef
abbrev ar:=ax
abbrev af (b k:Nat):aX:=⟨b,k,none⟩
abbrev bY (a:aX) (k:Nat):aX:=⟨a.block,a.off+k,none⟩
abbrev bo (b:Nat):an:=some ⟨b,0,none⟩
abbrev ba (b:Nat):a4:=.pointer (some ⟨b,0,none⟩)
abbrev aU (f:Func) (p:cT) (R:cz):Exit->ax->aF:=aZ (λenv w=>W prog (sub (bn f) p) env (dC prog f R) w) (dC prog f R)
abbrev sb (f:Func) (p:cT):Code:=sub (bn f) p
abbrev c7 (f:Func) (p:cT):Code:=.loop (sub (bn f) p)
abbrev b7 (f:Func) (R:cz):Exit->ax->aF:=dC prog f R
abbrev aS (w:ak) (l:Array a4) (T:TypeId) (K:Nat->aF):Prop:=∀ b w1,b=w.heap.size->w1=w.alloc (.cells l T)->K b w1
abbrev cw (w:ak) (K:ak->(aF)->Prop):Prop:=∀ w1,w1=w.drew->∃ S:aF,S w1/\K w1 S
abbrev cP (w:ak) (a:aX) (v:a4) (K:aF):Prop:=(∃ u,w.cell? a=some u)/\w.frozen? a=false/\∀ w1,w1=w.setCell a v->K w1
abbrev a_ (w:ak) (a:aX) (n:Nat) (l:ax) (K:aF):Prop:=eh w a n l/\∀ w1,w1=cu w a n l->K w1
abbrev db (T:TypeId) (x y:a4) (w:ak) (K:an->Nat->Nat->aF):Prop:=∃ (a:an) (n c:Nat),∃ w1,(Builtin.append_ #[T,T] T #[x,y]).run prog w=.ok (.slice a n c) w1/\K a n c w1
end
end Go.Proofs.YtmkljjbioomepaaGreat
