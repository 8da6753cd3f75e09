import Derived.Test.YtmkljjbioomepaaGreate01
import Derived.Laws.AppendOwn
import Derived.Laws.Tables
import Derived.Below
import Derived.Test.YtmkljjbioomepaaGreatProg
set_option linter.all false
namespace Go.bn
open Go.RowKit
def av (w:al) (b:Nat) (cs:aw) (T:TypeId):Prop:=w.heap[b]?=some (.cells cs.toArray T (0,0))
theorem av.lt {w:al} {b:Nat} {cs:aw} {T:TypeId} (h:av w b cs T):b<w.heap.size:=(tL.1 h).1
theorem av.cell {w:al} {b i:Nat} {cs:aw} {T:TypeId} {v:a0} (h:av w b cs T) (a:cs[i]?=some v):w.cell? ⟨b,i,none⟩=some v:=by unfold World.cell?;simp only [show w.heap[(⟨b,i,none⟩:aV).block]?=_ from h];simpa using a
theorem av.frozen {w:al} {b i:Nat} {cs:aw} {T:TypeId} (h:av w b cs T):w.frozen? ⟨b,i,none⟩=false:=by unfold World.frozen?;simp only [show w.heap[(⟨b,i,none⟩:aV).block]?=_ from h];simp
theorem av.uniq {w:al} {b:Nat} {cs a:aw} {T d:TypeId} (h:av w b cs T) (c:av w b a d):cs=a/\T=d:=by unfold av at *;rw [h] at c;simp at c;exact c
theorem av.ne {w:al} {b b':Nat} {cs a:aw} {T c:TypeId} (h:av w b cs T) (d:av w b' a c) (e:T≠c):b≠b':=by rintro rfl;exact e (h.uniq d).2
theorem oz (w:al) (cs:aw) (T:TypeId):av (w.alloc (.cells cs.toArray T)) w.heap.size cs T:=by unfold av;show (w.heap.push _)[w.heap.size]?=_;simp
theorem FA (w:al) (o:Obj) {k:Nat} (h:k<w.heap.size):(w.alloc o).heap[k]?=w.heap[k]?:=by show (w.heap.push o)[k]?=_;rw [Array.getElem?_push,if_neg (by omega)]
theorem av.alloc {w:al} {b:Nat} {cs:aw} {T:TypeId} (h:av w b cs T) (o:Obj):av (w.alloc o) b cs T:=by unfold av at *;rw [FA _ _ (av.lt h)];exact h
theorem yZ (w:al) (a:aV) (v:a0) {k:Nat} (h:k≠a.block):(w.setCell a v).heap[k]?=w.heap[k]?:=by simp only [World.setCell,wU];rw [if_neg (Ne.symm h)]
theorem av.setCell {w:al} {b i:Nat} {cs:aw} {T:TypeId} (h:av w b cs T) (v:a0):av (w.setCell ⟨b,i,none⟩ v) b (cs.set i v) T:=by unfold av at *;simp only [World.setCell,wU,if_true];rw [h];simp
theorem av.Fb {w:al} {b b' i:Nat} {cs:aw} {T:TypeId} (h:av w b cs T) (a:b≠b') (v:a0):av (w.setCell ⟨b',i,none⟩ v) b cs T:=by unfold av at *;rw [yZ _ _ _ (by simpa using a)];exact h
def mV (cs:aw) (i:Nat):aw->aw
 | []=>cs
 |v::vs=>mV (cs.set i v) (i+1) vs
theorem kJ (b o i:Nat):(⟨b,o,none⟩:aV).add i=⟨b,o+i,none⟩:=by
 unfold Addr.add;split
 ·rename_i h;subst h;rfl
 ·rfl
theorem av.cl {b o:Nat} {T:TypeId}:∀ {vs:aw} {w:al} {cs:aw} {i:Nat},av w b cs T->av (cl w ⟨b,o,none⟩ i vs) b (mV cs (o+i) vs) T
 | [],_,_,_,h=>h
 |v::vs,w,cs,i,h=>by unfold bn.cl mV;rw [kJ];have:=av.cl (o:=o) (vs:=vs) (i:=i+1) (h.setCell (i:=o+i) v);rw [p7];exact this
theorem FO {b o:Nat}:∀ {vs:aw} {w:al} {i k:Nat},k≠b->(cl w ⟨b,o,none⟩ i vs).heap[k]?=w.heap[k]?
 | [],_,_,_,_=>rfl
 |v::vs,w,i,k,h=>by unfold bn.cl;rw [FO h,kJ,yZ _ _ _ h]
theorem zw {b o:Nat}:∀ {vs:aw} {w:al} {i:Nat},(cl w ⟨b,o,none⟩ i vs).heap.size=w.heap.size
 | [],_,_=>rfl
 |v::vs,w,i=>by unfold bn.cl;rw [zw,World.size_setCell]
theorem FB:∀ {vs cs:aw} {i:Nat},(mV cs i vs).length=cs.length
 | [],_,_=>rfl
 |v::vs,cs,i=>by unfold mV;rw [FB];simp
theorem oA:∀ {vs cs:aw} {i:Nat},i+vs.length<=cs.length->mV cs i vs=cs.take i++vs++cs.drop (i+vs.length)
 | [],cs,i,h=>by simp [mV]
 |v::vs,cs,i,h=>by
  unfold mV;simp only [fU] at h ⊢;rw [oA (by simp;omega)];apply kr;intro j;simp only [o3,gR,je,jX,kW,iC,c8,List.getElem?_cons,fU];have c:min (i+1) cs.length=i+1:=by omega
  have d:min i cs.length=i:=by omega
  rw [c,d];by_cases a:j<i
  ·simp only [a,show j<i+1 by omega,show j<i+1+vs.length by omega,show j<i+(vs.length+1) by omega,if_true,show ¬ i=j by omega,if_false]
  ·by_cases e:j=i
   ·subst e;simp only [show j<j+1 by omega,show j<j+1+vs.length by omega,show j<j+(vs.length+1) by omega,if_true,Nat.lt_irrefl,if_false,m3];simp [show j<cs.length by omega]
   ·by_cases b:j<i+1+vs.length
    ·simp only [b,show j<i+(vs.length+1) by omega,a,show ¬ j<i+1 by omega,if_true,if_false,show ¬ j - i=0 by omega];rw [show j - i - 1=j - (i+1) by omega]
    ·simp only [b,show ¬ j<i+(vs.length+1) by omega,if_false,show ¬ i=i+1+vs.length+(j - (i+1+vs.length)) by omega];rw [show i+1+vs.length+(j - (i+1+vs.length))=i+(vs.length+1)+(j - (i+(vs.length+1))) by omega]
theorem fI {w:al} {b o:Nat} {cs:aw} {T:TypeId} (h:av w b cs T):∀ {vs:aw} {i:Nat},o+i+vs.length<=cs.length->(∀ v ∈ vs,single v=true)->dR w ⟨b,o,none⟩ i vs
 | [],_,_,_=>trivial
 |v::vs,i,d,c=>by
  simp only [fU] at d;have a:o+i<cs.length:=by omega
  refine ⟨⟨cs[o+i],?_⟩,?_,c v (by simp),fI h (by omega) (λu hu=>c u (by simp [hu]))⟩
  ·rw [kJ];exact h.cell (by simp [a])
  ·rw [kJ];exact h.frozen
theorem kD {w:al} {b o:Nat}:∀ {vs:aw} {i:Nat},(∀ j v,vs[j]?=some v->w.cell? ⟨b,o+i+j,none⟩=some v)->b7 w ⟨b,o,none⟩ i vs
 | [],_,_=>trivial
 |v::vs,i,h=>by
  refine ⟨?_,kD λj u hu=>?_⟩
  ·rw [kJ];have:=h 0 v (by simp);simpa using this
  ·have:=h (j+1) u (by simpa using hu);rw [show o+(i+1)+j=o+i+(j+1) by omega];exact this
theorem bI {w:al} {b o:Nat} {cs vs:aw} {T:TypeId} (h:av w b cs T) (aj:(cs.drop o).take vs.length=vs):b7 w ⟨b,o,none⟩ 0 vs:=by
 refine kD λj v a=>h.cell ?_
 have:((cs.drop o).take vs.length)[j]?=some v:=by rw [aj];exact a
 rw [jX] at this;split at this
 ·rw [kW] at this;simpa using this
 ·cases this
theorem wC {rows:List aw} {sz:Nat} (c:∀ r ∈ rows,r.length=sz) {i k:Nat} {r:aw} {v:a0} (a:rows[i]?=some r) (b:r[k]?=some v):rows.flatten[i * sz+k]?=some v:=by
 induction rows generalizing i with
 |nil=>simp at a
 |cons q rows e=>
  have f:=c q (by simp);cases i with
  |zero=>
   simp only [qd,e7] at a;subst a;have:k<q.length:=by
    rcases nV k q.length with h | h
    ·exact h
    ·rw [kX h] at b;cases b
   simp only [hr,tQ,gG];rw [jd this];exact b
  |succ i=>simp only [qc] at a;simp only [hr];rw [jv (by rw [hK];omega)];have:=e (λr d=>c r (by simp [d])) a;rw [show (i+1) * sz+k - q.length=i * sz+k by rw [hK];omega];exact this
theorem lN {rows:List aw} {sz:Nat} (a:∀ r ∈ rows,r.length=sz):rows.flatten.length=rows.length * sz:=by
 induction rows with
 |nil=>simp
 |cons q rows c=>simp only [hr,c8,fU,a q (by simp),c (λr b=>a r (by simp [b])),hK];omega
theorem xe {rows:List aw} {sz:Nat} (b:∀ r ∈ rows,r.length=sz) {i k:Nat} {r:aw} (v:a0) (a:rows[i]?=some r) (e:k<sz):rows.flatten.set (i * sz+k) v=(rows.set i (r.set k v)).flatten:=by
 induction rows generalizing i with
 |nil=>simp at a
 |cons q rows d=>
  have f:=b q (by simp);cases i with
  |zero=>simp only [qd,e7] at a;subst a;simp only [hr,tQ,gG,tM];rw [List.set_append_left _ _ (by omega)]
  |succ i=>simp only [qc] at a;simp only [hr,zV];rw [wO _ _ (by rw [hK];omega),<-d (λr c=>b r (by simp [c])) a];congr 2;rw [hK];omega
theorem F1 {rows:List aw} {sz:Nat} (a:∀ r ∈ rows,r.length=sz) {i:Nat} (b:i<rows.length) {vs:aw} (aj:vs.length=sz):mV rows.flatten (i * sz) vs=(rows.set i vs).flatten:=by
 have e:=lN a;have d:i * sz+sz<=rows.length * sz:=by have:=rZ sz (show i+1<=rows.length from b);rw [hK] at this;exact this
 rw [oA (by rw [e,aj];exact d)];clear d;induction rows generalizing i with
 |nil=>simp at b
 |cons q rows f=>
  have g:=a q (by simp);cases i with
  |zero=>simp only [hr,tQ,List.take_zero,m4,gG,tM];rw [List.drop_append_of_le_length (by omega),wV (by omega),m4]
  |succ i=>simp only [fU] at b;have:=f (λr c=>a r (by simp [c])) (i:=i) (by omega) (lN λr c=>a r (by simp [c]));simp only [hr,zV];rw [<-this,List.take_append,List.drop_append];rw [gb (by rw [hK];omega),wV (by rw [hK];omega)];rw [show (i+1) * sz - q.length=i * sz by rw [hK];omega,show (i+1) * sz+vs.length - q.length=i * sz+vs.length by rw [hK];omega];simp
structure ao (M:a2) (w w':al):Prop where
 os:w'.os=w.os
 tape:w'.tape=w.tape
 output:w'.output=w.output
 size:w.heap.size<=w'.heap.size
 block:∀ k,k<w.heap.size->¬ M k->w'.heap[k]?=w.heap[k]?
abbrev ai (w w':al):Prop:=ao (λ_=>False) w w'
theorem ao.refl (M:a2) (w:al):ao M w w:=⟨rfl,rfl,rfl,dd _,λ_ _ _=>rfl⟩
theorem ao.trans {M M':a2} {a b c:al} (h:ao M a b) (k:ao M' b c) (f:∀ i,i<a.heap.size->M' i->M i):ao M a c:=
 ⟨k.os.trans h.os,k.tape.trans h.tape,k.output.trans h.output,kq h.size k.size,λi d hm=>
  (k.block i (fF d h.size) (λe=>hm (f i d e))).trans (h.block i d hm)⟩
theorem ao.mono {M M':a2} {a b:al} (h:ao M a b) (e:∀ i,i<a.heap.size->M i->M' i):ao M' a b:=
 ⟨h.os,h.tape,h.output,h.size,λi d hm=>h.block i d (λc=>hm (e i d c))⟩
theorem ao.bZ {M:a2} {a b:al} (h:ai a b):ao M a b:=h.mono λ_ _ c=>c.elim
theorem ao.new {M:a2} {a b c:al} (h:ao M a b) (k:ai b c):ao M a c:=h.trans k λ_ _ d=>d.elim
theorem gY (w:al) (o:Obj):ai w (w.alloc o):=⟨rfl,rfl,rfl,by simp,λk a _=>FA _ _ a⟩
theorem cL (w:al):ai w w.drew:=⟨rfl,rfl,rfl,dd _,λ_ _ _=>rfl⟩
theorem ao.alloc {M:a2} {a w:al} (h:ao M a w) (o:Obj):ao M a (w.alloc o):=h.new (gY w o)
theorem ao.drew {M:a2} {a w:al} (h:ao M a w):ao M a w.drew:=h.new (cL w)
theorem eA (w:al) (b i:Nat) (v:a0):ao (λk=>k=b) w (w.setCell ⟨b,i,none⟩ v):=
 ⟨rfl,rfl,rfl,by simp,λk _ hm=>yZ _ _ _ hm⟩
theorem ao.setCell {M:a2} {a w:al} (h:ao M a w) {b i:Nat} (c:M b\/a.heap.size<=b) (v:a0):ao M a (w.setCell ⟨b,i,none⟩ v):=
 h.trans (eA w b i v) λk d hm=>by rcases c with c | c;exact hm▸c;omega
theorem ui {b o:Nat}:∀ {vs:aw} {w:al} {i:Nat},(cl w ⟨b,o,none⟩ i vs).os=w.os/\(cl w ⟨b,o,none⟩ i vs).tape=w.tape/\(cl w ⟨b,o,none⟩ i vs).output=w.output
 | [],_,_=>⟨rfl,rfl,rfl⟩
 |v::vs,w,i=>by unfold bn.cl;have:=ui (b:=b) (o:=o) (vs:=vs) (w:=w.setCell ((⟨b,o,none⟩:aV).add i) v) (i:=i+1);exact this
theorem ht (w:al) (b o i:Nat) (vs:aw):ao (λk=>k=b) w (cl w ⟨b,o,none⟩ i vs):=
 ⟨ui.1,ui.2.1,ui.2.2,by rw [zw];exact dd _,λk _ hm=>FO hm⟩
theorem ao.cl {M:a2} {a w:al} (h:ao M a w) {b o i:Nat} (c:M b\/a.heap.size<=b) (vs:aw):ao M a (cl w ⟨b,o,none⟩ i vs):=
 h.trans (ht w b o i vs) λk d hm=>by rcases c with c | c;exact hm▸c;omega
theorem ao.ak {M:a2} {w w':al} (h:ao M w w') {b:Nat} {cs:aw} {T:TypeId} (a:av w b cs T) (hm:¬ M b):av w' b cs T:=by unfold av at *;rw [h.block b (av.lt a) hm];exact a
theorem ai.ak {w w':al} (h:ai w w') {b:Nat} {cs:aw} {T:TypeId} (a:av w b cs T):av w' b cs T:=ao.ak h a id
theorem ao.below {M:a2} {w w':al} {B:Nat} (h:ao M w w') (b:B<=w.heap.size) (c:∀ k,k<B->¬ M k):Below B w w':=
 ⟨h.os,h.tape,h.output,h.size,λk a=>h.block k (fF a b) (c k a)⟩
theorem qY {w w':al} {row:Option Nat} (h:w.grownBy w' row):ao (λk=>some k=row) w w':=⟨h.os,h.tape,h.output,h.size,λk a hm=>h.block k a hm⟩
def bg (w:al) (a:an) (xs:aw):Prop:=
 xs=[]\/∃ b o,a=some ⟨b,o,none⟩/\∀ j u,xs[j]?=some u->w.cell? ⟨b,o+j,none⟩=some u
theorem uj {w:al} {a:aV} {v:a0} (h:w.cell? a=some v):a.block<w.heap.size:=by
 unfold World.cell? at h;cases b:w.heap[a.block]? with
 |none=>rw [b] at h;cases h
 |some o=>exact (tL.1 b).1
theorem jj {M:a2} {w w':al} (h:ao M w w') {a:aV} {v:a0} (b:w.cell? a=some v) (hm:¬ M a.block):w'.cell? a=some v:=by rw [World.cell?_of_block (h.block _ (uj b) hm)];exact b
def fM (M:a2):an->Prop
 |some a=>¬ M a.block
 |none=>True
theorem bg.ax {M:a2} {w w':al} (h:ao M w w') {a:an} {xs:aw} (d:bg w a xs) (hm:xs=[]\/fM M a):bg w' a xs:=by
 rcases d with rfl | ⟨b,o,rfl,c⟩
 ·exact .inl rfl
 ·rcases hm with rfl | hm
  ·exact .inl rfl
  ·exact .inr ⟨b,o,rfl,λj u hu=>jj h (c j u hu) hm⟩
theorem bg.new {w w':al} (h:ai w w') {a:an} {xs:aw} (b:bg w a xs):bg w' a xs:=by
 refine b.ax h ?_;cases a with
 |none=>exact .inr trivial
 |some a=>exact .inr id
theorem bg.nil (w:al) (a:an):bg w a []:=.inl rfl
theorem bg.lt {w:al} {a:aV} {xs:aw} (e:bg w (some a) xs) (c:xs≠[]):a.block<w.heap.size:=by
 rcases e with rfl | ⟨b,o,he,d⟩
 ·exact absurd rfl c
 ·cases xs with
  |nil=>exact absurd rfl c
  |cons v vs=>have:=uj (d 0 v rfl);simp only [e7] at he;rw [he];exact this
theorem e9 {w:al} {b:Nat} {cs xs:aw} {T:TypeId} (h:av w b cs T) {o:Nat} (a:(cs.drop o).take xs.length=xs):bg w (some ⟨b,o,none⟩) xs:=by
 refine .inr ⟨b,o,rfl,λj u hu=>h.cell ?_⟩;have:((cs.drop o).take xs.length)[j]?=some u:=by rw [a];exact hu
 rw [jX] at this;split at this
 ·rw [kW] at this;exact this
 ·cases this
theorem bg.take {w:al} {a:an} {xs:aw} (h:bg w a xs) (n:Nat):bg w a (xs.take n):=by
 rcases h with rfl | ⟨b,o,rfl,c⟩
 ·simp;exact .inl rfl
 ·refine .inr ⟨b,o,rfl,λj u hu=>?_⟩;rw [jX] at hu;split at hu
  ·exact c j u hu
  ·cases hu
theorem bg.drop {w:al} {b o:Nat} {xs:aw} (h:bg w (some ⟨b,o,none⟩) xs) (n:Nat):bg w (some ⟨b,o+n,none⟩) (xs.drop n):=by
 rcases h with rfl | ⟨b',c,he,a⟩
 ·simp;exact .inl rfl
 ·simp only [e7,Addr.mk.injEq,and_true] at he;obtain ⟨rfl,rfl⟩:=he;refine .inr ⟨b,o+n,rfl,λj u hu=>?_⟩;rw [kW] at hu;rw [p7];exact a _ _ hu
theorem bg.cell {w:al} {b o:Nat} {xs:aw} (h:bg w (some ⟨b,o,none⟩) xs) {j:Nat} {u:a0} (hu:xs[j]?=some u):w.cell? ⟨b,o+j,none⟩=some u:=by
 rcases h with rfl | ⟨b',c,he,a⟩
 ·simp at hu
 ·simp only [e7,Addr.mk.injEq,and_true] at he;obtain ⟨rfl,rfl⟩:=he;exact a j u hu
def aY (w:al) (e sz:Nat) (a:an) (n cap:Nat) (xs:aw):Prop:=
 xs.length=n * sz/\((a=none/\n=0/\cap=0)\/∃ g cur,a=some ⟨g,0,none⟩/\av w g cur e/\n<=cap/\cap<=maxLen/\cur.length=cap * sz/\cur.take (n * sz)=xs)
def aL (a:an) (k:Nat):Prop:=∃ o,a=some ⟨k,o,none⟩
theorem aY.nil (w:al) (e sz:Nat):aY w e sz none 0 0 []:=⟨by simp,.inl ⟨rfl,rfl,rfl⟩⟩
theorem aY.ax {M:a2} {w w':al} (h:ao M w w') {e sz n cap:Nat} {a:an} {xs:aw} (b:aY w e sz a n cap xs) (hm:∀ k,aL a k->¬ M k):aY w' e sz a n cap xs:=by
 refine ⟨b.1,?_⟩;rcases b.2 with d | ⟨g,cur,rfl,c,rest⟩
 ·exact .inl d
 ·exact .inr ⟨g,cur,rfl,h.ak c (hm g ⟨0,rfl⟩),rest⟩
theorem aY.new {w w':al} (h:ai w w') {e sz n cap:Nat} {a:an} {xs:aw} (b:aY w e sz a n cap xs):aY w' e sz a n cap xs:=b.ax h λ_ _=>id
theorem aY.rd {w:al} {e sz n cap:Nat} {a:an} {xs:aw} (b:aY w e sz a n cap xs):bg w a xs:=by
 rcases b.2 with ⟨_,d,_⟩ | ⟨g,cur,rfl,c,_,_,_,f⟩
 ·refine .inl (fb ?_);rw [b.1,d];simp
 ·refine e9 c ?_;rw [tS,b.1];exact f
theorem aY.lt {w:al} {e sz n cap:Nat} {a:an} {xs:aw} (d:aY w e sz a n cap xs) {k:Nat} (c:aL a k):k<w.heap.size:=by
 obtain ⟨o,rfl⟩:=c;rcases d.2 with ⟨h,_⟩ | ⟨g,cur,he,b,_⟩
 ·cases h
 ·simp at he;rw [he.1];exact b.lt
theorem aY.le {w:al} {e sz n cap:Nat} {a:an} {xs:aw} (b:aY w e sz a n cap xs):n<=cap:=by
 rcases b.2 with ⟨_,d,c⟩ | ⟨g,cur,_,_,h,_⟩
 ·omega
 ·exact h
theorem FC {v:a0} (h:single v=true):v.oneCell'=true:=by cases v<;>simp [single] at h<;>rfl
theorem aY.append {P:Program} {w:al} {t ty e:TypeId} {i:TypeInfo} {z:a0} (A:P.underlying t=some (.slice e)) (r:P.info? e=some i) (au:i.zero=some z) (N:z.cells.size=i.size) (Ui:0<i.size)
  {a:an} {n cap:Nat} {xs:aw} (y:aY w e i.size a n cap xs) {s:an} {m c:Nat} {news:aw} (x:news.length=m * i.size) (Z:bg w s news) (T:∀ u ∈ news,single u=true)
  (V:n+m<=140737488355328) (C:(n+m) * i.bytes<=140737488355328) :
  ∃ G f w',(Builtin.append_ #[t,t] ty #[.slice a n cap,.slice s m c]).run P w=.ok (.slice G (n+m) f) w'/\aY w' e i.size G (n+m) f (xs++news)/\ao (aL a) w w'/\
   (G=a\/G=some ⟨w.heap.size,0,none⟩):=by
 have hlen:(xs++news).length=(n+m) * i.size:=by rw [c8,y.1,x,p8]
 have E:n+m<=maxLen:=by simp only [maxLen];omega
 have grown:∀ (old:Nat),old<n+m->
   aY (w.drew.alloc (.cells (xs.toArray++news.toArray++Builtin.zeroCells z.cells (grownCap w (n+m) old e - (n+m))) e)) e i.size (some ⟨w.heap.size,0,none⟩) (n+m) (grownCap w (n+m) old e) (xs++news):=by
  intro old hold;have L:=grownCap_ge w (n+m) old e;refine ⟨hlen,.inr ⟨w.heap.size,xs++news++(Builtin.zeroCells z.cells (grownCap w (n+m) old e - (n+m))).toList,rfl,?_,L,grownCap_le_maxLen w (n+m) old e E,?_,?_⟩⟩
  ·have O:=oz w.drew (xs++news++(Builtin.zeroCells z.cells (grownCap w (n+m) old e - (n+m))).toList) e;have U:(xs++news++(Builtin.zeroCells z.cells (grownCap w (n+m) old e - (n+m))).toList).toArray=xs.toArray++news.toArray++Builtin.zeroCells z.cells (grownCap w (n+m) old e - (n+m)):=by apply Array.ext';simp
   rw [U] at O;exact O
  ·rw [c8,hlen,Array.length_toList,size_zeroCells,N,<-p8];congr 1;omega
  ·rw [<-hlen];exact List.take_left
 have p:∀ o,ao (aL a) w (w.drew.alloc o):=λo=>ao.bZ ((cL w).alloc o)
 by_cases hm:m=0
 ·subst hm;have X:news=[]:=fb (by simpa using x);subst X;refine ⟨a,cap,w,?_,by simpa using y,ao.refl _ _,.inl rfl⟩;have hle:=y.le;have R:n+0<=cap:=by omega
  cases a with
  |none=>
   cases s with
   |none=>simp [Builtin.append_,run_underlying A,sizeOf,typeInfo,r,Builtin.lenOf,hle,Builtin.firstCells]
   |some s=>simp [Builtin.append_,run_underlying A,sizeOf,typeInfo,r,Builtin.lenOf,hle,Builtin.firstCells,loadCells,loadCellsFrom]
  |some a=>
   cases s with
   |none=>simp [Builtin.append_,run_underlying A,sizeOf,typeInfo,r,Builtin.lenOf,hle,Builtin.firstCells,storeCells]
   |some s=>simp [Builtin.append_,run_underlying A,sizeOf,typeInfo,r,Builtin.lenOf,hle,Builtin.firstCells,loadCells,loadCellsFrom,storeCells]
 ·have M:news≠[]:=by
   intro I;have S:m * i.size=0:=by rw [<-x,I];rfl
   rcases Nat.mul_eq_zero.1 S with h | h<;>omega
  rcases Z with I | ⟨sb,so,rfl,q⟩
  ·exact absurd I M
  have b:∀ j u,news[j]?=some u->w.cell? ((⟨sb,so,none⟩:aV).add j)=some u:=λj u hu=>by rw [kJ];exact q j u hu
  have H:∀ u ∈ news,u.oneCell'=true:=λu hu=>FC (T u hu)
  rcases y.2 with ⟨rfl,rfl,rfl⟩ | ⟨g,cur,rfl,Q,Y,J,K,B⟩
  ·have Uj:xs=[]:=fb (by simpa using y.1);subst Uj;have F:=run_append_nil (P:=P) w t ty e i z A r au ⟨sb,so,none⟩ m c news x b (by omega) (by omega) (by simp only [gG] at C;omega);have D:=grown 0 (by omega);simp only [gG,m4,Array.empty_append] at D ⊢;exact ⟨_,_,_,F,D,p _,.inr rfl⟩
  ·by_cases d:n+m<=cap
   ·have l:n * i.size+news.length<=cur.toArray.size:=by rw [x,List.size_toArray,K,<-p8];exact rZ _ d
    have F:=run_append_room (P:=P) w t ty e i A r g n cap cur.toArray Q ⟨sb,so,none⟩ m c news x b H d l;refine ⟨_,_,_,F,⟨hlen,.inr ⟨g,_,rfl,setRow_heap w g cur.toArray _ e _ Q,d,J,?_,?_⟩⟩,⟨rfl,rfl,rfl,by simp,λk _ W=>setRow_other w g k _ (λe=>W ⟨0,by rw [e]⟩)⟩,.inl rfl⟩
    ·simp only [c8,gR,jY] at *;simp at l <;> omega
    ·rw [B,<-hlen];exact List.take_left
   ·have holds:∀ j u,xs[j]?=some u->w.cell? ((⟨g,0,none⟩:aV).add j)=some u:=λj u hu=>by rw [kJ];exact y.rd.cell hu
    have F:=run_append_grow (P:=P) w t ty e i z A r au ⟨g,0,none⟩ n cap xs y.1 holds ⟨sb,so,none⟩ m c news x b (by omega) (by omega) (growslice_fits (by omega) C);exact ⟨_,_,_,F,grown cap (by omega),p _,.inr rfl⟩
theorem bg.row {w:al} {a:an} {rows:List aw} {sz:Nat} (h:bg w a rows.flatten) (d:∀ r ∈ rows,r.length=sz) (au:0<sz) {i:Nat} {r:aw} (c:rows[i]?=some r) :
  ∃ b o,a=some ⟨b,o,none⟩/\b7 w ⟨b,o+i * sz,none⟩ 0 r/\∀ k v,r[k]?=some v->w.cell? ⟨b,o+i * sz+k,none⟩=some v:=by
 have l:=d r (cj c);rcases h with h | ⟨b,o,rfl,e⟩
 ·have:=wC d c (k:=0) (v:=r[0]) (by simp [l,au]);rw [h] at this;simp at this
 ·have key:∀ k v,r[k]?=some v->w.cell? ⟨b,o+i * sz+k,none⟩=some v:=λk v g=>by rw [p7];exact e _ _ (wC d c g)
  exact ⟨b,o,rfl,kD λj v f=>by simpa using key j v f,key⟩
theorem oy {cs vs:aw} (h:vs.length=cs.length):mV cs 0 vs=vs:=by rw [oA (by omega)];simp [h]
theorem bk {u w1:al} {b1:Nat} {zs:Array a0} {T:TypeId} (a:b1=u.heap.size) (hw:w1=u.alloc (.cells zs T)):av w1 b1 zs.toList T/\ai u w1:=by subst a hw;exact ⟨by simpa using oz u zs.toList T,gY _ _⟩
theorem nK {u w1 a:al} {b:Nat} {cs vs:aw} {T:TypeId} (h:av w1 b cs T) (d:vs.length=cs.length) (e:ai u w1) (c:u.heap.size<=b) (hw:a=cl w1 ⟨b,0,none⟩ 0 vs):av a b vs T/\ai u a:=by subst hw;refine ⟨?_,e.cl (.inr c) _⟩;have:=h.cl (o:=0) (i:=0) (vs:=vs);rw [oy d] at this;exact this
end Go.bn
namespace Go.bn
theorem fy {b:Bool} {A B:Prop} (c:b=true->A) (a:b=false->B):(bif b then A else B):=by
 cases b
 ·exact a rfl
 ·exact c rfl
theorem a9 {p:Prop} [Decidable p] {A B:Prop} (b:p->A) (a:¬ p->B):(bif decide p then A else B):=
 fy (λh=>b (of_decide_eq_true h)) (λh=>a (of_decide_eq_false h))
theorem dJ {x y:Int} {A B:Prop} (b:x=y->A) (a:x≠y->B):(bif (x == y) then A else B):=
 fy (λh=>b (by simpa using h)) (λh=>a (by simpa using h))
theorem dt {x y:Int} {A B:Prop} (b:x≠y->A) (a:x=y->B):(bif (x != y) then A else B):=
 fy (λh=>b (by simpa using h)) (λh=>a (by simpa using h))
theorem dZ {b:Bool} {A B:Prop} (a:b=false->A) (c:b=true->B):(bif (!b) then A else B):=by
 cases b
 ·exact a rfl
 ·exact c rfl
theorem fK {b:Bool} {A B:Prop} (a:b=true) (h:A):(bif b then A else B):=by subst a;exact h
theorem dw {b:Bool} {A B:Prop} (a:b=false) (h:B):(bif b then A else B):=by subst a;exact h
theorem dT {b o len sz:Nat} {n:Int} {K:aV->Prop} (a:0<=n) (c:n<len) (h:K ⟨b,o+n.toNat * sz,none⟩):bB (some ⟨b,o,none⟩) len n sz K:=
 ⟨_,rfl,a,c,by rw [kJ];exact h⟩
theorem tx {b o len sz:Nat} {n:Int} {K:aV->Prop} (a:0<=n) (c:n<len) (h:K ⟨b,o+n.toNat * sz,none⟩):ow ⟨b,o,none⟩ len n sz K:=
 ⟨a,c,by rw [kJ];exact h⟩
theorem kc {b o len cap sz:Nat} {c d e:Int} {K:an->Nat->a2} (f:0<=c) (g:c<=d) (i:d<=e) (j:e<=cap) (k:len<=cap)
  (h:∀ a,(a=some ⟨b,o+c.toNat * sz,none⟩\/d=c/\a=some ⟨b,o,none⟩)->K a (d.toNat - c.toNat) (e.toNat - c.toNat)):ho (some ⟨b,o,none⟩) len cap c d e sz K:=by
 refine ⟨f,g,i,j,k,h _ ?_⟩;split
 ·rename_i he;exact .inr ⟨by omega,rfl⟩
 ·refine .inl ?_;simp only [nX,kJ]
theorem bA {x:Int} (a:-9223372036854775808<=x) (b:x<9223372036854775808):IntKind.i64.wrap x=x:=by simp only [IntKind.wrap,IntKind.bits,IntKind.signed];simp;omega
theorem jV {x:Int} (a:0<=x) (b:x<18446744073709551616):IntKind.u64.wrap x=x:=by simp only [IntKind.wrap,IntKind.bits,IntKind.signed];simp;omega
end Go.bn
namespace Go.Proofs.YtmkljjbioomepaaGreat
open Go.Proofs.Tryz Go.bn
section
theorem mix:prog.follows .mixedOrders=true:=by kernel_rfl
abbrev ba (f:FuncId) (args:aw) (w:al) (R:cp):Prop:=Calls prog f args.toArray w λe w'=>∃ v,e=.returned v/\R v w'
theorem bc {f:FuncId} {fn:Func} {args:aw} {w:al} {R:cp} (a:prog.funcs[f]?=some fn) (h:bd prog fn args R w):ba f args w R:=JN mix a h
theorem aD {f:FuncId} {args:Array a0} {w:al} {R:cp} {Q:Ending->aE} (h:Calls prog f args w λe w'=>∃ v,e=.returned v/\R v w') (a:∀ v w',R v w'->Q (.returned v) w'):Calls prog f args w Q:=
 h.mono λe w' ⟨v,he,b⟩=>he▸a v w' b
theorem fp {T:TypeId} {z:a0} {n m:Nat} (h:(prog.info? T).map (λi=>(i.zero,i.size,i.bytes))=some (some z,n,m)):∃ i,prog.info? T=some i/\i.zero=some z/\i.size=n/\i.bytes=m:=by
 cases a:prog.info? T with
 |none=>rw [a] at h;cases h
 |some i=>rw [a] at h;simp at h;exact ⟨i,rfl,h.1,h.2.1,h.2.2⟩
end
section
def dO (x:Int):Prop:=-9223372036854775808<=x/\x<9223372036854775808
def b3 (x:Int):Prop:=0<=x/\x<18446744073709551616
theorem cz {α:Type} {l:List α} {i:Nat} {x:α} (h:l[i]?=some x):i<l.length:=(kY.1 h).1
def us (l:a4):aw:=l.map (Value.int .u64)
def is (l:a4):aw:=l.map (Value.int .i64)
theorem r' {l:a4} {i:Nat} {x:Int} (h:l[i]?=some x):(us l)[i]?=some (.int .u64 x):=by simp [us,h]
theorem hg (l:a4):(us l).length=l.length:=by simp [us]
theorem oB (l:a4):∀ u ∈ us l,single u=true:=by intro u hu;simp only [us,cD] at hu;obtain ⟨x,_,rfl⟩:=hu;rfl
theorem IY (l:a4):∀ u ∈ is l,single u=true:=by intro u hu;simp only [is,cD] at hu;obtain ⟨x,_,rfl⟩:=hu;rfl
theorem dC {u:al} {b:Nat} {cs vs:aw} {T:TypeId} {K:aE} (a:av u b cs T) (d:vs.length=cs.length) (e:∀ v ∈ vs,single v=true) (c:∀ w',av w' b vs T->ao (λk=>k=b) u w'->K w') :
  dR u ⟨b,0,none⟩ 0 vs/\∀ w',w'=cl u ⟨b,0,none⟩ 0 vs->K w':=by
 refine ⟨fI a (by omega) e,?_⟩;rintro w' rfl;refine c _ ?_ (ht _ _ _ _ _);have h:=a.cl (o:=0) (i:=0) (vs:=vs);rw [oy d] at h;exact h
theorem dU {u:al} {zs vs:aw} {T:TypeId} {K:Nat->aE} (i:vs.length=zs.length) (n:∀ v ∈ vs,single v=true) (h:∀ b w',b=u.heap.size->av w' b vs T->ai u w'->K b w') :
  ∀ b1 w1,b1=u.heap.size->w1=u.alloc (.cells zs.toArray T)->dR w1 ⟨b1,0,none⟩ 0 vs/\∀ g,g=cl w1 ⟨b1,0,none⟩ 0 vs->K b1 g:=by
 rintro b1 w1 a f;obtain ⟨au,l⟩:=bk a f;refine dC au (by simpa using i) n λw' c d=>h b1 w' a c (l.trans d λk j e=>?_)
 omega
theorem q8 {u z b:al} {a:an} (g:ai u z) (e:ao (aL a) z b) (c:∀ k,aL a k->u.heap.size<=k):ai u b:=
 g.trans e λk f d=>by have:=c k d;omega
theorem ew {α:Type} {cells:α->aw} {sz:Nat} (c:∀ x,(cells x).length=sz) (e:0<sz) {u:al} {a:an} {l:List α} (h:bg u a (l.map cells).flatten) {i:Nat} {x:α} (d:l[i]?=some x) {z:Int} (au:z=i) {n:Nat} (p:n=l.length) {K:aV->Prop}
  (j:∀ b o,b7 u ⟨b,o,none⟩ 0 (cells x)->(∀ (q:Nat) (v:a0),(cells x)[q]?=some v->u.cell? ⟨b,o+q,none⟩=some v)->K ⟨b,o,none⟩):bB a n z sz K:=by
 subst au p;have k:=cz d;obtain ⟨b,o,rfl,f,g⟩:=h.row (sz:=sz) (λr s=>by obtain ⟨y,_,rfl⟩:=cD.1 s;exact c y) e (i:=i) (r:=cells x) (by simp [d]);exact dT (by omega) (by omega) (by simpa using j b _ f g)
theorem j8 {α:Type} {cells:α->aw} {sz:Nat} (c:∀ x,(cells x).length=sz) (f:0<sz) {u:al} {a:an} {l:List α} (h:bg u a (l.map cells).flatten) {i:Nat} {x:α} (d:l[i]?=some x) {z:Int} (au:z=i) {n:Nat} (s:n=l.length) {K:aV->Prop}
  (k:∀ b o,(∀ y,ai u y->∀ (q:Nat) (v:a0),(cells x)[q]?=some v->y.cell? ⟨b,o+q,none⟩=some v)->K ⟨b,o,none⟩):bB a n z sz K:=by
 subst au s;have p:=cz d;have g:∀ r ∈ l.map cells,r.length=sz:=λr t=>by obtain ⟨y,_,rfl⟩:=cD.1 t;exact c y
 obtain ⟨b,o,rfl,A,B⟩:=h.row (sz:=sz) g f (i:=i) (r:=cells x) (by simp [d]);refine dT (by omega) (by omega) ?_;have:=k b (o+i * sz) λy w q v aj=>by obtain ⟨b',C,e,_,j⟩:=(h.new w).row (sz:=sz) g f (i:=i) (r:=cells x) (by simp [d]);simp at e;obtain ⟨rfl,rfl⟩:=e;exact j q v aj
 simpa using this
theorem jt {x:Int} (a:0<=x) (b:x<18446744073709551616):IntKind.u64.wrap x=x:=by simp only [IntKind.wrap,IntKind.bits,IntKind.signed];simp;omega
theorem wb (n:Nat):BitVec.ofInt 64 (n:Int)=BitVec.ofNat 64 n:=by apply BitVec.eq_of_toInt_eq;simp
theorem tz (a b:Nat) (d:a<18446744073709551616) (e:b<18446744073709551616):jh .u64 (a:Int) (b:Int)=((a ||| b:Nat):Int):=by have c:a ||| b<2 ^ 64:=Nat.or_lt_two_pow (by omega) (by omega);unfold jh;show IntKind.u64.wrap ((BitVec.ofInt 64 (a:Int) ||| BitVec.ofInt 64 (b:Int)).toNat:Int)=_;rw [wb,wb,BitVec.toNat_or,BitVec.toNat_ofNat,BitVec.toNat_ofNat,p9 (by omega),p9 (by omega)];exact jt (by omega) (by omega)
theorem JO (a b:Nat) (d:a<18446744073709551616) (e:b<18446744073709551616):gw .u64 (a:Int) (b:Int)=((a &&& b:Nat):Int):=by have c:a &&& b<2 ^ 64:=Nat.and_lt_two_pow _ (by omega);unfold gw;show IntKind.u64.wrap ((BitVec.ofInt 64 (a:Int) &&& BitVec.ofInt 64 (b:Int)).toNat:Int)=_;rw [wb,wb,BitVec.toNat_and,BitVec.toNat_ofNat,BitVec.toNat_ofNat,p9 (by omega),p9 (by omega)];exact jt (by omega) (by omega)
theorem uC (a b k:Nat) (c:b<2 ^ k):a * 2 ^ k ||| b=a * 2 ^ k+b:=by rw [tP,Nat.two_pow_add_eq_or_of_lt c]
theorem rT {u:al} {b o:Nat} {cs:aw} {T:TypeId} {v:a0} {K:aE} (a:av u b cs T) (d:o<cs.length) (c:∀ w',av w' b (cs.set o v) T->ao (λk=>k=b) u w'->K w') :
  (∃ x,u.cell? ⟨b,o,none⟩=some x)/\u.frozen? ⟨b,o,none⟩=false/\∀ w',w'=u.setCell ⟨b,o,none⟩ v->K w':=
 ⟨⟨_,a.cell (bM d)⟩,a.frozen,λw' h=>by subst h;exact c _ (a.setCell v) (eA _ _ _ _)⟩
theorem Jr {P:Program} {f:FuncId} {first captured args xs:Array a0} {w:al} {R:Ending->aE} (a:hU P f=true) (b:first++args++captured=xs) (h:Calls P f xs w R):mb P (.func (.func f) first captured) args w R:=by unfold mb;simp only [a];rw [b];exact h
theorem pU {P:Program} {f:FuncId} {first captured args xs:Array a0} {w:al} {R:Ending->aE} (a:hU P f=true) (b:first++args++captured=xs) (h:Calls P f xs w R):ix P (.func (.func f) first captured) args w R:=by unfold ix;exact Jr a b h
theorem Ao {w:Int} (a:0<=w) (c:w<18446744073709551616) (k:Nat) (b:k<64):gw .u64 w ((2 ^ k - 1:Nat):Int)=w % (2 ^ k:Nat):=by obtain ⟨n,rfl⟩:=m1 a;have:2 ^ k<2 ^ 64:=Nat.pow_lt_pow_right (by decide) b;rw [JO _ _ (by omega) (by omega),Nat.and_two_pow_sub_one_eq_mod];simp
theorem nI {S e:TypeId} {i:TypeInfo} {z:a0} (M:prog.underlying S=some (.slice e)) (J:prog.info? e=some i) (au:i.zero=some z) (D:z.cells.size=i.size) (B:0<i.size)
  {u:al} {a:an} {n cap:Nat} {xs:aw} (w:aY u e i.size a n cap xs) {vs:aw} (N:vs.length=i.size) (L:∀ v ∈ vs,single v=true) (H:n<=1000000000) (y:i.bytes<=1000) {K:Nat->an->Nat->Nat->aE}
  (r:∀ b ap d p,b=u.heap.size->aY p e i.size ap (n+1) d (xs++vs)->ao (aL a) u p->(∀ k,aL ap k->aL a k\/u.heap.size<=k)->K b ap (n+1) d p) :
  ∀ b1 E,b1=u.heap.size->E=u.alloc (.cells vs.toArray e)->∃ (ap:an) (g f:Nat),∃ p,(Builtin.append_ #[S,S] S #[(.slice a n cap),(.slice (some ⟨b1,0,none⟩) 1 1)]).run prog E=.ok (.slice ap g f) p/\K b1 ap g f p:=by
 rintro b1 E F hw;obtain ⟨C,j⟩:=bk F hw;have I:(n+1) * i.bytes<=1000000001 * 1000:=o1 (by omega) y;obtain ⟨ap,d,G,q,l,A,x⟩:=aY.append (P:=prog) (t:=S) (ty:=S) M J au D B (aY.new j w)
  (s:=some ⟨b1,0,none⟩) (m:=1) (c:=1) (news:=vs) (by omega) (e9 C (by simp)) L (by omega) (by omega)
 refine ⟨ap,n+1,d,G,q,r b1 ap d G F l ((ao.bZ j).trans A λ_ _ h=>h) λk r=>?_⟩;rcases x with e | e
 ·exact .inl (e▸r)
 ·obtain ⟨o,w⟩:=r;rw [e] at w;simp at w;have:=j.size;omega
theorem g0 {M:a2} {w:al} {a:an} {xs:aw} (h:bg w a xs) (c:∀ k,aL a k->¬ M k):xs=[]\/fM M a:=by
 rcases h with h | ⟨b,o,rfl,_⟩
 ·exact .inl h
 ·exact .inr (c b ⟨o,rfl⟩)
theorem aY.setCell {w:al} {e sz n cap g:Nat} {xs:aw} (h:aY w e sz (some ⟨g,0,none⟩) n cap xs) {i:Nat} (k:i<n * sz) (v:a0):aY (w.setCell ⟨g,i,none⟩ v) e sz (some ⟨g,0,none⟩) n cap (xs.set i v):=by
 rcases h.2 with ⟨a,_⟩ | ⟨j,cur,he,b,hle,c,d,f⟩
 ·cases a
 ·simp only [e7,Addr.mk.injEq,and_true] at he;subst he;refine ⟨by simp [h.1],.inr ⟨g,cur.set i v,rfl,b.setCell v,hle,c,by simp [d],?_⟩⟩;rw [<-f,List.take_set]
end
section
abbrev jp (a:aV):a0:=.pointer (some a)
abbrev bE (a:aV) (k:Nat):a0:=.pointer (some ⟨a.block,a.off+k,none⟩)
abbrev ab (x:Int):a0:=.int .i64 x
abbrev du (x:Nat):a0:=.int .i64 x
abbrev ah (x:Int):a0:=.int .u64 x
abbrev ad (x:Bool):a0:=.bool x
abbrev ae (a:an) (n c:Nat):a0:=.slice a n c
abbrev a3:a0:=.slice none 0 0
abbrev aN (j:aw) (n:Nat):a0:=j.getD n undef
abbrev aq:=aw
abbrev af (b k:Nat):aV:=⟨b,k,none⟩
abbrev bS (a:aV) (k:Nat):aV:=⟨a.block,a.off+k,none⟩
abbrev bj (b:Nat):an:=some ⟨b,0,none⟩
abbrev a' (b:Nat):a0:=.pointer (some ⟨b,0,none⟩)
abbrev aZ (f:Func) (p:d9) (R:cp):Exit->aw->aE:=a1 (λenv w=>W prog (sub (bh f) p) env (dh prog f R) w) (dh prog f R)
abbrev sb (f:Func) (p:d9):Code:=sub (bh f) p
abbrev cY (f:Func) (p:d9):Code:=.loop (sub (bh f) p)
abbrev bW (f:Func) (R:cp):Exit->aw->aE:=dh prog f R
abbrev aQ (w:al) (l:Array a0) (T:TypeId) (K:Nat->aE):Prop:=∀ b w1,b=w.heap.size->w1=w.alloc (.cells l T)->K b w1
abbrev cu (w:al) (K:al->(aE)->Prop):Prop:=∀ w1,w1=w.drew->∃ S:aE,S w1/\K w1 S
abbrev cE (w:al) (a:aV) (v:a0) (K:aE):Prop:=(∃ u,w.cell? a=some u)/\w.frozen? a=false/\∀ w1,w1=w.setCell a v->K w1
abbrev a_ (w:al) (a:aV) (n:Nat) (l:aw) (K:aE):Prop:=dR w a n l/\∀ w1,w1=cl w a n l->K w1
abbrev cZ (T:TypeId) (x y:a0) (w:al) (K:an->Nat->Nat->aE):Prop:=∃ (a:an) (n c:Nat),∃ w1,(Builtin.append_ #[T,T] T #[x,y]).run prog w=.ok (.slice a n c) w1/\K a n c w1
end
end Go.Proofs.YtmkljjbioomepaaGreat
