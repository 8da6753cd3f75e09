import Derived.Test.YtmkljjbioomepaaGreatg01
import Derived.Laws.AppendOwn
import Derived.Laws.Tables
import Derived.Below
import Derived.Test.YtmkljjbioomepaaGreatProg
set_option linter.all false
namespace Go.bJ
open Go.RowKit
def av (w:an)(b:Nat)(cs:ax)(T:bY):Prop:=w.heap[b]?=some (.cells cs.toArray T (0,0))
theorem av.lt {w:an}{b:Nat}{cs:ax}{T:bY}(h:av w b cs T):b<w.heap.size:=(Cn.1 h).1
theorem av.cell {w:an}{b i:Nat}{cs:ax}{T:bY}{v:bf}(h:av w b cs T)(a:cs[i]?=some v):w.cell? ⟨b,i,none⟩=some v:=by
 unfold World.cell?;simp only[show w.heap[(⟨b,i,none⟩:aU).block]?=_ from h]
 grind
theorem av.frozen {w:an}{b i:Nat}{cs:ax}{T:bY}(h:av w b cs T):w.frozen? ⟨b,i,none⟩=false:=by unfold World.frozen?;simp only[show w.heap[(⟨b,i,none⟩:aU).block]?=_ from h];simp
theorem av.uniq {w:an}{b:Nat}{cs a:ax}{T c:bY}(h:av w b cs T)(d:av w b a c):cs=a/\T=c:=by
 unfold av at *
 grind
theorem av.ne {w:an}{b b':Nat}{cs a:ax}{T c:bY}(h:av w b cs T)(d:av w b' a c)(e:T≠c):b≠b':=by rintro rfl;exact e (h.uniq d).2
theorem pn (w:an)(cs:ax)(T:bY):av (w.alloc (.cells cs.toArray T)) w.heap.size cs T:=by unfold av;show(w.heap.push _)[w.heap.size]?=_;simp
theorem J2 (w:an)(o:Obj){k:Nat}(h:k<w.heap.size):(w.alloc o).heap[k]?=w.heap[k]?:=by
 show(w.heap.push o)[k]?=_
 grind
theorem av.alloc {w:an}{b:Nat}{cs:ax}{T:bY}(h:av w b cs T)(o:Obj):av (w.alloc o) b cs T:=by unfold av at *;rw[J2 _ _ (av.lt h)];exact h
theorem BP (w:an)(a:aU)(v:bf){k:Nat}(h:k≠a.block):(w.setCell a v).heap[k]?=w.heap[k]?:=by
 simp only[World.setCell,zn]
 grind
theorem av.setCell {w:an}{b i:Nat}{cs:ax}{T:bY}(h:av w b cs T)(v:bf):av (w.setCell ⟨b,i,none⟩ v) b (cs.set i v) T:=by
 unfold av at *;simp only[World.setCell,zn,if_true]
 grind
theorem av.Jn {w:an}{b b' i:Nat}{cs:ax}{T:bY}(h:av w b cs T)(a:b≠b')(v:bf):av (w.setCell ⟨b',i,none⟩ v) b cs T:=by unfold av at *;rw[BP _ _ _ (by grind)];exact h
def oD (cs:ax)(i:Nat):ax->ax
 | []=>cs
 |v::vs=>oD (cs.set i v) (i+1) vs
theorem kJ (b o i:Nat):(⟨b,o,none⟩:aU).add i=⟨b,o+i,none⟩:=by
 unfold Addr.add
 grind
theorem av.cI {b o:Nat}{T:bY}:∀ {vs:ax} {w:an} {cs:ax} {i:Nat},av w b cs T->av (cI w ⟨b,o,none⟩ i vs) b (oD cs (o+i) vs) T
 | [],_,_,_,h=>h
 |v::vs,w,cs,i,h=>by
  unfold bJ.cI oD;rw[kJ];have:=av.cI (o:=o) (vs:=vs) (i:=i+1) (h.setCell (i:=o+i) v)
  grind
theorem Kh {b o:Nat}:∀ {vs:ax} {w:an} {i k:Nat},k≠b->(cI w ⟨b,o,none⟩ i vs).heap[k]?=w.heap[k]?
 | [],_,_,_,_=>rfl
 |v::vs,w,i,k,h=>by unfold bJ.cI;rw[Kh h,kJ,BP _ _ _ h]
theorem zL {b o:Nat}:∀ {vs:ax} {w:an} {i:Nat},(cI w ⟨b,o,none⟩ i vs).heap.size=w.heap.size
 | [],_,_=>rfl
 |v::vs,w,i=>by unfold bJ.cI;rw[zL,World.size_setCell]
theorem J3:∀ {vs cs:ax} {i:Nat},(oD cs i vs).length=cs.length
 | [],_,_=>rfl
 |v::vs,cs,i=>by unfold oD;rw[J3];simp
theorem ql:∀ {vs cs:ax} {i:Nat},i+vs.length<=cs.length->oD cs i vs=cs.take i++vs++cs.drop (i+vs.length)
 | [],cs,i,h=>by simp[oD]
 |v::vs,cs,i,h=>by
  unfold oD;simp only[h3]at h ⊢;rw[ql (by grind)];apply i_;intro j;simp only[sg,lE,pN,Cs,uo,kW,fF,List.getElem?_cons,h3]
  grind
theorem gq {w:an}{b o:Nat}{cs:ax}{T:bY}(h:av w b cs T):∀ {vs:ax} {i:Nat},o+i+vs.length<=cs.length->(∀ v ∈ vs,single v=true)->ej w ⟨b,o,none⟩ i vs
 | [],_,_,_=>trivial
 |v::vs,i,c,a=>by
  simp only[h3]at c;have d:o+i<cs.length:=by omega
  refine⟨⟨cs[o+i],?_⟩,?_,a v (by simp),gq h (by omega) (λu hu=>a u (by grind))⟩
  ·rw[kJ];exact h.cell (by grind)
  ·rw[kJ];exact h.frozen
theorem k_ {w:an}{b o:Nat}:∀ {vs:ax} {i:Nat},(∀ j v,vs[j]?=some v->w.cell? ⟨b,o+i+j,none⟩=some v)->cn w ⟨b,o,none⟩ i vs
 | [],_,_=>trivial
 |v::vs,i,h=>by
  refine⟨?_,k_ λj u hu=>?_⟩
  ·rw[kJ];have:=h 0 v (by simp);grind
  ·have:=h (j+1) u (by grind)
   grind
theorem bX {w:an}{b o:Nat}{cs vs:ax}{T:bY}(h:av w b cs T)(al:(cs.drop o).take vs.length=vs):cn w ⟨b,o,none⟩ 0 vs:=by
 refine k_ λj v a=>h.cell ?_
 grind
theorem zj {rows:List ax}{sz:Nat}(a:∀ r ∈ rows,r.length=sz){i k:Nat}{r:ax}{v:bf}(b:rows[i]?=some r)(c:r[k]?=some v):rows.flatten[i*sz+k]?=some v:=by
 induction rows generalizing i with
 |nil=>grind
 |cons q rows e=>
  have d:=a q (by simp);cases i with
  |zero=>
   grind
  |succ i=>
   grind
theorem nh {rows:List ax}{sz:Nat}(a:∀ r ∈ rows,r.length=sz):rows.flatten.length=rows.length*sz:=by
 induction rows with
 |nil=>simp
 |cons q rows b=>
  grind
theorem zU {rows:List ax}{sz:Nat}(a:∀ r ∈ rows,r.length=sz){i k:Nat}{r:ax}(v:bf)(b:rows[i]?=some r)(c:k<sz):rows.flatten.set (i*sz+k) v=(rows.set i (r.set k v)).flatten:=by
 induction rows generalizing i with
 |nil=>grind
 |cons q rows e=>
  have d:=a q (by simp);cases i with
  |zero=>
   grind
  |succ i=>
   grind
theorem CE {rows:List ax}{sz:Nat}(a:∀ r ∈ rows,r.length=sz){i:Nat}(b:i<rows.length){vs:ax}(al:vs.length=sz):oD rows.flatten (i*sz) vs=(rows.set i vs).flatten:=by
 have f:=nh a;have c:i*sz+sz<=rows.length*sz:=by
  have:=ui sz (show i+1<=rows.length from b)
  grind
 rw[ql (by grind)];clear c;induction rows generalizing i with
 |nil=>grind
 |cons q rows e=>
  have g:=a q (by simp);cases i with
  |zero=>
   grind
  |succ i=>simp only[h3]at b;have:=e (λr d=>a r (by grind)) (i:=i) (by omega) (nh λr d=>a r (by grind));simp only[lD,List.set_cons_succ];rw[<-this,List.take_append,List.drop_append];rw[r' (by grind),List.drop_eq_nil_of_le (by grind)];rw[show(i+1)*sz-q.length=i*sz by grind,show(i+1)*sz+vs.length-q.length=i*sz+vs.length by grind];simp
structure ao (M:a4)(w w':an):Prop where
 os:w'.os=w.os
 tape:w'.tape=w.tape
 output:w'.output=w.output
 size:w.heap.size<=w'.heap.size
 block:∀ k,k<w.heap.size->¬ M k->w'.heap[k]?=w.heap[k]?
abbrev ai (w w':an):Prop:=ao (λ_=>False) w w'
theorem ao.refl (M:a4)(w:an):ao M w w:=⟨rfl,rfl,rfl,db _,λ_ _ _=>rfl⟩
theorem ao.trans {M M':a4}{a b c:an}(h:ao M a b)(k:ao M' b c)(f:∀ i,i<a.heap.size->M' i->M i):ao M a c:=
 ⟨k.os.trans h.os,k.tape.trans h.tape,k.output.trans h.output,mK h.size k.size,λi d hm=>
  (k.block i (fE d h.size) (λe=>hm (f i d e))).trans (h.block i d hm)⟩
theorem ao.mono {M M':a4}{a b:an}(h:ao M a b)(e:∀ i,i<a.heap.size->M i->M' i):ao M' a b:=
 ⟨h.os,h.tape,h.output,h.size,λi d hm=>h.block i d (λc=>hm (e i d c))⟩
theorem ao.cm {M:a4}{a b:an}(h:ai a b):ao M a b:=h.mono λ_ _ c=>c.elim
theorem ao.new {M:a4}{a b c:an}(h:ao M a b)(k:ai b c):ao M a c:=h.trans k λ_ _ d=>d.elim
theorem hF (w:an)(o:Obj):ai w (w.alloc o):=⟨rfl,rfl,rfl,by simp,λk a _=>J2 _ _ a⟩
theorem cR (w:an):ai w w.drew:=⟨rfl,rfl,rfl,db _,λ_ _ _=>rfl⟩
theorem ao.alloc {M:a4}{a w:an}(h:ao M a w)(o:Obj):ao M a (w.alloc o):=h.new (hF w o)
theorem ao.drew {M:a4}{a w:an}(h:ao M a w):ao M a w.drew:=h.new (cR w)
theorem e4 (w:an)(b i:Nat)(v:bf):ao (λk=>k=b) w (w.setCell ⟨b,i,none⟩ v):=
 ⟨rfl,rfl,rfl,by simp,λk _ hm=>BP _ _ _ hm⟩
theorem ao.setCell {M:a4}{a w:an}(h:ao M a w){b i:Nat}(c:M b\/a.heap.size<=b)(v:bf):ao M a (w.setCell ⟨b,i,none⟩ v):=
 h.trans (e4 w b i v) λk d hm=>by grind
theorem wM {b o:Nat}:∀ {vs:ax} {w:an} {i:Nat},(cI w ⟨b,o,none⟩ i vs).os=w.os/\(cI w ⟨b,o,none⟩ i vs).tape=w.tape/\(cI w ⟨b,o,none⟩ i vs).output=w.output
 | [],_,_=>⟨rfl,rfl,rfl⟩
 |v::vs,w,i=>by unfold bJ.cI;have:=wM (b:=b) (o:=o) (vs:=vs) (w:=w.setCell ((⟨b,o,none⟩:aU).add i) v) (i:=i+1);exact this
theorem ir (w:an)(b o i:Nat)(vs:ax):ao (λk=>k=b) w (cI w ⟨b,o,none⟩ i vs):=
 ⟨wM.1,wM.2.1,wM.2.2,by rw[zL];grind,λk _ hm=>Kh hm⟩
theorem ao.cI {M:a4}{a w:an}(h:ao M a w){b o i:Nat}(c:M b\/a.heap.size<=b)(vs:ax):ao M a (cI w ⟨b,o,none⟩ i vs):=
 h.trans (ir w b o i vs) λk d hm=>by grind
theorem ao.aj {M:a4}{w w':an}(h:ao M w w'){b:Nat}{cs:ax}{T:bY}(a:av w b cs T)(hm:¬ M b):av w' b cs T:=by unfold av at *;rw[h.block b (av.lt a) hm];exact a
theorem ai.aj {w w':an}(h:ai w w'){b:Nat}{cs:ax}{T:bY}(a:av w b cs T):av w' b cs T:=ao.aj h a id
theorem ao.below {M:a4}{w w':an}{B:Nat}(h:ao M w w')(b:B<=w.heap.size)(c:∀ k,k<B->¬ M k):Below B w w':=
 ⟨h.os,h.tape,h.output,h.size,λk a=>h.block k (fE a b) (c k a)⟩
theorem tp {w w':an}{row:Option Nat}(h:w.grownBy w' row):ao (λk=>some k=row) w w':=⟨h.os,h.tape,h.output,h.size,λk a hm=>h.block k a hm⟩
def bl (w:an)(a:ak)(xs:ax):Prop:=
 xs=[]\/∃ b o,a=some ⟨b,o,none⟩/\∀ j u,xs[j]?=some u->w.cell? ⟨b,o+j,none⟩=some u
theorem wN {w:an}{a:aU}{v:bf}(h:w.cell? a=some v):a.block<w.heap.size:=by
 unfold World.cell? at h
 grind
theorem kh {M:a4}{w w':an}(h:ao M w w'){a:aU}{v:bf}(b:w.cell? a=some v)(hm:¬ M a.block):w'.cell? a=some v:=by rw[World.cell?_of_block (h.block _ (wN b) hm)];exact b
def gU (M:a4):ak->Prop
 |some a=>¬ M a.block
 |none=>True
theorem bl.aA {M:a4}{w w':an}(h:ao M w w'){a:ak}{xs:ax}(d:bl w a xs)(hm:xs=[]\/gU M a):bl w' a xs:=by
 rcases d with rfl | ⟨b,o,rfl,c⟩
 ·exact .inl rfl
 ·rcases hm with rfl | hm
  ·exact .inl rfl
  ·exact .inr ⟨b,o,rfl,λj u hu=>kh h (c j u hu) hm⟩
theorem bl.new {w w':an}(h:ai w w'){a:ak}{xs:ax}(b:bl w a xs):bl w' a xs:=by
 refine b.aA h ?_;cases a with
 |none=>exact .inr trivial
 |some a=>exact .inr id
theorem bl.nil (w:an)(a:ak):bl w a []:=.inl rfl
theorem bl.lt {w:an}{a:aU}{xs:ax}(d:bl w (some a) xs)(e:xs≠[]):a.block<w.heap.size:=by
 rcases d with rfl | ⟨b,o,he,c⟩
 ·grind
 ·cases xs with
  |nil=>grind
  |cons v vs=>
   have:=wN (c 0 v rfl)
   grind
theorem fj {w:an}{b:Nat}{cs xs:ax}{T:bY}(h:av w b cs T){o:Nat}(a:(cs.drop o).take xs.length=xs):bl w (some ⟨b,o,none⟩) xs:=by
 refine .inr ⟨b,o,rfl,λj u hu=>h.cell ?_⟩
 grind
theorem bl.take {w:an}{a:ak}{xs:ax}(h:bl w a xs)(n:Nat):bl w a (xs.take n):=by
 rcases h with rfl | ⟨b,o,rfl,c⟩
 ·simp;exact .inl rfl
 ·refine .inr ⟨b,o,rfl,λj u hu=>?_⟩
  grind
theorem bl.drop {w:an}{b o:Nat}{xs:ax}(h:bl w (some ⟨b,o,none⟩) xs)(n:Nat):bl w (some ⟨b,o+n,none⟩) (xs.drop n):=by
 rcases h with rfl | ⟨b',c,he,a⟩
 ·simp;exact .inl rfl
 ·simp only[hM,Addr.mk.injEq,and_true]at he;obtain⟨rfl,rfl⟩:=he;refine .inr ⟨b,o+n,rfl,λj u hu=>?_⟩
  grind
theorem bl.cell {w:an}{b o:Nat}{xs:ax}(h:bl w (some ⟨b,o,none⟩) xs){j:Nat}{u:bf}(hu:xs[j]?=some u):w.cell? ⟨b,o+j,none⟩=some u:=by
 rcases h with rfl | ⟨b',c,he,a⟩
 ·grind
 grind
def aX (w:an)(e sz:Nat)(a:ak)(n cap:Nat)(xs:ax):Prop:=
 xs.length=n*sz/\((a=none/\n=0/\cap=0)\/∃ g cur,a=some ⟨g,0,none⟩/\av w g cur e/\n<=cap/\cap<=maxLen/\cur.length=cap*sz/\cur.take (n*sz)=xs)
def aP (a:ak)(k:Nat):Prop:=∃ o,a=some ⟨k,o,none⟩
theorem aX.nil (w:an)(e sz:Nat):aX w e sz none 0 0 []:=⟨by simp,.inl ⟨rfl,rfl,rfl⟩⟩
theorem aX.aA {M:a4}{w w':an}(h:ao M w w'){e sz n cap:Nat}{a:ak}{xs:ax}(b:aX w e sz a n cap xs)(hm:∀ k,aP a k->¬ M k):aX w' e sz a n cap xs:=by
 refine⟨b.1,?_⟩;rcases b.2 with d | ⟨g,cur,rfl,c,rest⟩
 ·grind
 ·exact .inr ⟨g,cur,rfl,h.aj c (hm g ⟨0,rfl⟩),rest⟩
theorem aX.new {w w':an}(h:ai w w'){e sz n cap:Nat}{a:ak}{xs:ax}(b:aX w e sz a n cap xs):aX w' e sz a n cap xs:=b.aA h λ_ _=>id
theorem aX.rd {w:an}{e sz n cap:Nat}{a:ak}{xs:ax}(b:aX w e sz a n cap xs):bl w a xs:=by
 rcases b.2 with⟨_,d,_⟩ | ⟨g,cur,rfl,c,_,_,_,f⟩
 ·refine .inl (hN ?_);rw[b.1,d];simp
 ·refine fj c ?_
  grind
theorem aX.lt {w:an}{e sz n cap:Nat}{a:ak}{xs:ax}(d:aX w e sz a n cap xs){k:Nat}(c:aP a k):k<w.heap.size:=by
 obtain⟨o,rfl⟩:=c;rcases d.2 with⟨h,_⟩ | ⟨g,cur,he,b,_⟩
 ·cases h
 ·simp at he;rw[he.1];exact b.lt
theorem aX.le {w:an}{e sz n cap:Nat}{a:ak}{xs:ax}(b:aX w e sz a n cap xs):n<=cap:=by
 rcases b.2 with⟨_,d,c⟩ | ⟨g,cur,_,_,h,_⟩
 ·omega
 grind
theorem JV {v:bf}(h:single v=true):v.oneCell'=true:=by cases v<;>simp[single]at h<;>rfl
theorem aX.append {P:df}{w:an}{t ty e:bY}{i:TypeInfo}{z:bf}(l:P.underlying t=some (.slice e))(h:P.info? e=some i)(aq:i.zero=some z)(I:z.cells.size=i.size)(W:0<i.size)
  {a:ak} {n cap:Nat} {xs:ax} (x:aX w e i.size a n cap xs) {s:ak} {m c:Nat} {news:ax} (q:news.length=m*i.size) (V:bl w s news) (N:∀ u ∈ news,single u=true)
  (Q:n+m<=140737488355328) (B:(n+m)*i.bytes<=140737488355328) :
  ∃ y f w',(Builtin.append_ #[t,t] ty #[.slice a n cap,.slice s m c]).run P w=.ok (.slice y (n+m) f) w'/\aX w' e i.size y (n+m) f (xs++news)/\ao (aP a) w w'/\
   (y=a\/y=some ⟨w.heap.size,0,none⟩):=by
 have hlen:(xs++news).length=(n+m)*i.size:=by rw[fF,x.1,q,uh]
 have r:n+m<=maxLen:=by simp only[maxLen];omega
 have grown:∀ (old:Nat),old<n+m->
   aX (w.drew.alloc (.cells (xs.toArray++news.toArray++Builtin.zeroCells z.cells (grownCap w (n+m) old e-(n+m))) e)) e i.size (some ⟨w.heap.size,0,none⟩) (n+m) (grownCap w (n+m) old e) (xs++news):=by
  intro old hold;have F:=grownCap_ge w (n+m) old e;refine⟨hlen,.inr ⟨w.heap.size,xs++news++(Builtin.zeroCells z.cells (grownCap w (n+m) old e-(n+m))).toList,rfl,?_,F,grownCap_le_maxLen w (n+m) old e r,?_,?_⟩⟩
  ·have J:=pn w.drew (xs++news++(Builtin.zeroCells z.cells (grownCap w (n+m) old e - (n+m))).toList) e;have O:(xs++news++(Builtin.zeroCells z.cells (grownCap w (n+m) old e - (n+m))).toList).toArray=xs.toArray++news.toArray++Builtin.zeroCells z.cells (grownCap w (n+m) old e - (n+m)):=by
    grind
   rw[O]at J;exact J
  ·rw[fF,hlen,J_,size_zeroCells,I,<-uh]
   grind
  grind
 have M:∀ o,ao (aP a) w (w.drew.alloc o):=λo=>ao.cm ((cR w).alloc o)
 by_cases hm:m=0
 ·subst hm;have S:news=[]:=hN (by grind);subst S;refine⟨a,cap,w,?_,by grind,ao.refl _ _,.inl rfl⟩;have hle:=x.le;have L:n+0<=cap:=by omega
  cases a with
  |none=>
   cases s with
   |none=>simp[Builtin.append_,run_underlying l,sizeOf,typeInfo,h,Builtin.lenOf,hle,Builtin.firstCells]
   |some s=>simp[Builtin.append_,run_underlying l,sizeOf,typeInfo,h,Builtin.lenOf,hle,Builtin.firstCells,loadCells,loadCellsFrom]
  |some a=>
   cases s with
   |none=>simp[Builtin.append_,run_underlying l,sizeOf,typeInfo,h,Builtin.lenOf,hle,Builtin.firstCells,storeCells]
   |some s=>simp[Builtin.append_,run_underlying l,sizeOf,typeInfo,h,Builtin.lenOf,hle,Builtin.firstCells,loadCells,loadCellsFrom,storeCells]
 ·have U:news≠[]:=by
   grind[Nat.mul_eq_zero]
  rcases V with Y | ⟨sb,so,rfl,C⟩
  ·grind
  have b:∀ j u,news[j]?=some u->w.cell? ((⟨sb,so,none⟩:aU).add j)=some u:=λj u hu=>by rw[kJ];grind
  have A:∀ u ∈ news,u.oneCell'=true:=λu hu=>JV (N u hu)
  rcases x.2 with⟨rfl,rfl,rfl⟩ | ⟨g,cur,rfl,K,T,D,E,H⟩
  ·have X:xs=[]:=hN (by grind);subst X;have G:=run_append_nil (P:=P) w t ty e i z l h aq ⟨sb,so,none⟩ m c news q b (by omega) (by omega) (by grind)
   grind
  ·by_cases d:n+m<=cap
   ·have p:n*i.size+news.length<=cur.toArray.size:=by rw[q,List.size_toArray,E,<-uh];exact ui _ d
    have G:=run_append_room (P:=P) w t ty e i l h g n cap cur.toArray K ⟨sb,so,none⟩ m c news q b A d p;refine⟨_,_,_,G,⟨hlen,.inr ⟨g,_,rfl,setRow_heap w g cur.toArray _ e _ K,d,D,?_,?_⟩⟩,⟨rfl,rfl,rfl,by simp,λk _ R=>setRow_other w g k _ (λe=>R ⟨0,by rw[e]⟩)⟩,.inl rfl⟩
    ·grind
    grind
   ·have holds:∀ j u,xs[j]?=some u->w.cell? ((⟨g,0,none⟩:aU).add j)=some u:=λj u hu=>by rw[kJ];exact x.rd.cell hu
    have G:=run_append_grow (P:=P) w t ty e i z l h aq ⟨g,0,none⟩ n cap xs x.1 holds ⟨sb,so,none⟩ m c news q b (by omega) (by omega) (growslice_fits (by omega) B)
    grind
theorem bl.row {w:an}{a:ak}{rows:List ax}{sz:Nat}(h:bl w a rows.flatten)(d:∀ r ∈ rows,r.length=sz)(aq:0<sz){i:Nat}{r:ax}(c:rows[i]?=some r) :
  ∃ b o,a=some ⟨b,o,none⟩/\cn w ⟨b,o+i*sz,none⟩ 0 r/\∀ k v,r[k]?=some v->w.cell? ⟨b,o+i*sz+k,none⟩=some v:=by
 have l:=d r (b9 c);rcases h with h | ⟨b,o,rfl,e⟩
 ·have:=zj d c (k:=0) (v:=r[0]) (by grind)
  grind
 ·have key:∀ k v,r[k]?=some v->w.cell? ⟨b,o+i*sz+k,none⟩=some v:=λk v f=>by rw[zp];exact e _ _ (zj d c f)
  exact⟨b,o,rfl,k_ λj v g=>by grind,key⟩
theorem qh {cs vs:ax}(h:vs.length=cs.length):oD cs 0 vs=vs:=by rw[ql (by omega)];simp[h]
theorem bo {u w1:an}{b1:Nat}{zs:ep}{T:bY}(a:b1=u.heap.size)(hw:w1=u.alloc (.cells zs T)):av w1 b1 zs.toList T/\ai u w1:=by subst a hw;exact⟨by simpa using pn u zs.toList T,hF _ _⟩
theorem nw {u w1 a:an}{b:Nat}{cs vs:ax}{T:bY}(h:av w1 b cs T)(d:vs.length=cs.length)(e:ai u w1)(c:u.heap.size<=b)(hw:a=cI w1 ⟨b,0,none⟩ 0 vs):av a b vs T/\ai u a:=by
 subst hw;refine⟨?_,e.cI (.inr c) _⟩;have:=h.cI (o:=0) (i:=0) (vs:=vs);rw[qh d]at this
 grind
end Go.bJ
namespace Go.bJ
theorem gW {b:Bool}{A B:Prop}(c:b=true->A)(a:b=false->B):(bif b then A else B):=by
 grind
theorem bb {p:Prop}[Decidable p]{A B:Prop}(b:p->A)(a:¬ p->B):(bif decide p then A else B):=
 gW (λh=>b (qK h)) (λh=>a (of_decide_eq_false h))
theorem eg {x y:Int}{A B:Prop}(b:x=y->A)(a:x≠y->B):(bif (x == y)then A else B):=
 gW (λh=>b (by grind)) (λh=>a (by grind))
theorem d8 {x y:Int}{A B:Prop}(b:x≠y->A)(a:x=y->B):(bif (x != y)then A else B):=
 gW (λh=>b (by grind)) (λh=>a (by grind))
theorem eF {b:Bool}{A B:Prop}(a:b=false->A)(c:b=true->B):(bif (!b)then A else B):=by
 grind
theorem hc {b:Bool}{A B:Prop}(a:b=true)(h:A):(bif b then A else B):=by grind
theorem dG {b:Bool}{A B:Prop}(a:b=false)(h:B):(bif b then A else B):=by grind
theorem dW {b o len sz:Nat}{n:Int}{K:aU->Prop}(a:0<=n)(c:n<len)(h:K ⟨b,o+n.toNat*sz,none⟩):bx (some ⟨b,o,none⟩) len n sz K:=
 ⟨_,rfl,a,c,by rw[kJ];exact h⟩
theorem uA {b o len sz:Nat}{n:Int}{K:aU->Prop}(a:0<=n)(c:n<len)(h:K ⟨b,o+n.toNat*sz,none⟩):qd ⟨b,o,none⟩ len n sz K:=
 ⟨a,c,by rw[kJ];exact h⟩
theorem ll {b o len cap sz:Nat}{c d e:Int}{K:ak->Nat->a4}(f:0<=c)(g:c<=d)(i:d<=e)(j:e<=cap)(k:len<=cap)
  (h:∀ a,(a=some ⟨b,o+c.toNat*sz,none⟩\/d=c/\a=some ⟨b,o,none⟩)->K a (d.toNat-c.toNat) (e.toNat-c.toNat)):ij (some ⟨b,o,none⟩) len cap c d e sz K:=by
 refine⟨f,g,i,j,k,h _ ?_⟩;split
 ·grind
 ·refine .inl ?_;simp only[se,kJ]
theorem bI {x:Int}(a:-9223372036854775808<=x)(b:x<9223372036854775808):IntKind.i64.wrap x=x:=by simp only[IntKind.wrap,IntKind.bits,IntKind.signed];grind
theorem kP {x:Int}(a:0<=x)(b:x<18446744073709551616):IntKind.u64.wrap x=x:=by simp only[IntKind.wrap,IntKind.bits,IntKind.signed];grind
end Go.bJ
namespace Go.Proofs.YtmkljjbioomepaaGreat
open Go.Proofs.Tryz Go.bJ
section
theorem mix:prog.follows .mixedOrders=true:=by kernel_rfl
abbrev a5 (f:FuncId)(args:ax)(w:an)(R:cM):Prop:=Calls prog f args.toArray w λe w'=>∃ v,e=.returned v/\R v w'
theorem ba {f:FuncId}{fn:Func}{args:ax}{w:an}{R:cM}(a:prog.funcs[f]?=some fn)(h:bd prog fn args R w):a5 f args w R:=OX mix a h
theorem aB {f:FuncId}{args:ep}{w:an}{R:cM}{Q:Ending->aJ}(h:Calls prog f args w λe w'=>∃ v,e=.returned v/\R v w')(a:∀ v w',R v w'->Q (.returned v) w'):Calls prog f args w Q:=
 h.mono λe w' ⟨v,he,b⟩=>he▸a v w' b
theorem fV {T:bY}{z:bf}{n m:Nat}(h:(prog.info? T).map (λi=>(i.zero,i.size,i.bytes))=some (some z,n,m)):∃ i,prog.info? T=some i/\i.zero=some z/\i.size=n/\i.bytes=m:=by
 simp_all
end
section
def dU (x:Int):Prop:=-9223372036854775808<=x/\x<9223372036854775808
def cy (x:Int):Prop:=0<=x/\x<18446744073709551616
theorem cS {α:Type}{l:List α}{i:Nat}{x:α}(h:l[i]?=some x):i<l.length:=(sh.1 h).1
def us (l:a7):ax:=l.map (Value.int .u64)
def is (l:a7):ax:=l.map (Value.int .i64)
theorem sB {l:a7}{i:Nat}{x:Int}(h:l[i]?=some x):(us l)[i]?=some (.int .u64 x):=by grind[us]
theorem iS (l:a7):(us l).length=l.length:=by simp[us]
theorem qm (l:a7):∀ u ∈ us l,single u=true:=by intro u hu;simp only[us,cW]at hu;obtain⟨x,_,rfl⟩:=hu;rfl
theorem MY (l:a7):∀ u ∈ is l,single u=true:=by intro u hu;simp only[is,cW]at hu;obtain⟨x,_,rfl⟩:=hu;rfl
theorem dY {u:an}{b:Nat}{cs vs:ax}{T:bY}{K:aJ}(a:av u b cs T)(d:vs.length=cs.length)(e:∀ v ∈ vs,single v=true)(c:∀ w',av w' b vs T->ao (λk=>k=b) u w'->K w') :
  ej u ⟨b,0,none⟩ 0 vs/\∀ w',w'=cI u ⟨b,0,none⟩ 0 vs->K w':=by
 refine⟨gq a (by omega) e,?_⟩;rintro w' rfl;refine c _ ?_ (ir _ _ _ _ _);have h:=a.cI (o:=0) (i:=0) (vs:=vs);rw[qh d]at h;exact h
theorem io {u:an}{zs vs:ax}{T:bY}{K:Nat->aJ}(n:vs.length=zs.length)(l:∀ v ∈ vs,single v=true)(h:∀ b w',b=u.heap.size->av w' b vs T->ai u w'->K b w') :
  ∀ b1 w1,b1=u.heap.size->w1=u.alloc (.cells zs.toArray T)->ej w1 ⟨b1,0,none⟩ 0 vs/\∀ g,g=cI w1 ⟨b1,0,none⟩ 0 vs->K b1 g:=by
 rintro b1 w1 a f;obtain⟨aq,j⟩:=bo a f;refine dY aq (by grind) l λw' c d=>h b1 w' a c (j.trans d λk i e=>?_)
 omega
theorem tB {u z b:an}{a:ak}(e:ai u z)(c:ao (aP a) z b)(f:∀ k,aP a k->u.heap.size<=k):ai u b:=
 e.trans c λk d g=>by grind
theorem eQ {α:Type}{cells:α->ax}{sz:Nat}(f:∀ x,(cells x).length=sz)(c:0<sz){u:an}{a:ak}{l:List α}(h:bl u a (l.map cells).flatten){i:Nat}{x:α}(g:l[i]?=some x){z:Int}(aq:z=i){n:Nat}(e:n=l.length){K:aU->Prop}
  (p:∀ b o,cn u ⟨b,o,none⟩ 0 (cells x)->(∀ (q:Nat) (v:bf),(cells x)[q]?=some v->u.cell? ⟨b,o+q,none⟩=some v)->K ⟨b,o,none⟩):bx a n z sz K:=by
 subst aq e;have d:=cS g;obtain⟨b,o,rfl,j,k⟩:=h.row (sz:=sz) (λr s=>by grind) c (i:=i) (r:=cells x) (by grind);exact dW (by omega) (by omega) (by grind)
theorem lg {α:Type}{cells:α->ax}{sz:Nat}(k:∀ x,(cells x).length=sz)(c:0<sz){u:an}{a:ak}{l:List α}(h:bl u a (l.map cells).flatten){i:Nat}{x:α}(p:l[i]?=some x){z:Int}(aq:z=i){n:Nat}(j:n=l.length){K:aU->Prop}
  (f:∀ b o,(∀ y,ai u y->∀ (q:Nat) (v:bf),(cells x)[q]?=some v->y.cell? ⟨b,o+q,none⟩=some v)->K ⟨b,o,none⟩):bx a n z sz K:=by
 subst aq j;have g:=cS p;have d:∀ r ∈ l.map cells,r.length=sz:=λr B=>by grind
 obtain⟨b,o,rfl,w,A⟩:=h.row (sz:=sz) d c (i:=i) (r:=cells x) (by grind);refine dW (by omega) (by omega) ?_;have:=f b (o+i*sz) λy s q v al=>by
  obtain⟨b',C,e,_,t⟩:=(h.new s).row (sz:=sz) d c (i:=i) (r:=cells x) (by grind)
  grind
 simp_all
theorem ly {x:Int}(a:0<=x)(b:x<18446744073709551616):IntKind.u64.wrap x=x:=by simp only[IntKind.wrap,IntKind.bits,IntKind.signed];grind
theorem Dg (n:Nat):BitVec.ofInt 64 (n:Int)=BitVec.ofNat 64 n:=by
 grind
theorem uB (a b:Nat)(d:a<18446744073709551616)(e:b<18446744073709551616):jV .u64 (a:Int) (b:Int)=((a ||| b:Nat):Int):=by
 have c:a ||| b<2 ^ 64:=Nat.or_lt_two_pow (by omega) (by omega);unfold jV;show IntKind.u64.wrap ((BitVec.ofInt 64 (a:Int) ||| BitVec.ofInt 64 (b:Int)).toNat:Int)=_
 grind[Dg,BitVec.toNat_or,BitVec.toNat_ofNat,Nat.mod_eq_of_lt,ly]
theorem OY (a b:Nat)(d:a<18446744073709551616)(e:b<18446744073709551616):hE .u64 (a:Int) (b:Int)=((a &&& b:Nat):Int):=by
 have c:a &&& b<2 ^ 64:=Nat.and_lt_two_pow _ (by omega);unfold hE;show IntKind.u64.wrap ((BitVec.ofInt 64 (a:Int) &&& BitVec.ofInt 64 (b:Int)).toNat:Int)=_
 grind[Dg,BitVec.toNat_and,BitVec.toNat_ofNat,Nat.mod_eq_of_lt,ly]
theorem xb (a b k:Nat)(c:b<2 ^ k):a*2 ^ k ||| b=a*2 ^ k+b:=by rw[Nat.mul_comm,Nat.two_pow_add_eq_or_of_lt c]
theorem sC {u:an}{b o:Nat}{cs:ax}{T:bY}{v:bf}{K:aJ}(a:av u b cs T)(d:o<cs.length)(c:∀ w',av w' b (cs.set o v) T->ao (λk=>k=b) u w'->K w') :
  (∃ x,u.cell? ⟨b,o,none⟩=some x)/\u.frozen? ⟨b,o,none⟩=false/\∀ w',w'=u.setCell ⟨b,o,none⟩ v->K w':=
 ⟨⟨_,a.cell (b2 d)⟩,a.frozen,λw' h=>by subst h;exact c _ (a.setCell v) (e4 _ _ _ _)⟩
theorem OZ {P:df}{f:FuncId}{first captured args xs:ep}{w:an}{R:Ending->aJ}(a:iV P f=true)(b:first++args++captured=xs)(h:Calls P f xs w R):mQ P (.func (.func f) first captured) args w R:=by
 unfold mQ
 grind
theorem rZ {P:df}{f:FuncId}{first captured args xs:ep}{w:an}{R:Ending->aJ}(a:iV P f=true)(b:first++args++captured=xs)(h:Calls P f xs w R):jK P (.func (.func f) first captured) args w R:=by
 unfold jK
 grind[OZ]
theorem Dh {w:Int}(a:0<=w)(c:w<18446744073709551616)(k:Nat)(b:k<64):hE .u64 w ((2 ^ k-1:Nat):Int)=w % (2 ^ k:Nat):=by
 obtain⟨n,rfl⟩:=oN a;have:2 ^ k<2 ^ 64:=Nat.pow_lt_pow_right (by decide) b
 grind[OY,Nat.and_two_pow_sub_one_eq_mod]
theorem pv {S e:bY}{i:TypeInfo}{z:bf}(M:prog.underlying S=some (.slice e))(J:prog.info? e=some i)(aq:i.zero=some z)(C:z.cells.size=i.size)(A:0<i.size)
  {u:an} {a:ak} {n cap:Nat} {xs:ax} (F:aX u e i.size a n cap xs) {vs:ax} (N:vs.length=i.size) (L:∀ v ∈ vs,single v=true) (H:n<=1000000000) (w:i.bytes<=1000) {K:Nat->ak->Nat->Nat->aJ}
  (x:∀ b ap d l,b=u.heap.size->aX l e i.size ap (n+1) d (xs++vs)->ao (aP a) u l->(∀ k,aP ap k->aP a k\/u.heap.size<=k)->K b ap (n+1) d l) :
  ∀ b1 D,b1=u.heap.size->D=u.alloc (.cells vs.toArray e)->∃ (ap:ak) (g f:Nat),∃ l,(Builtin.append_ #[S,S] S #[(.slice a n cap),(.slice (some ⟨b1,0,none⟩) 1 1)]).run prog D=.ok (.slice ap g f) l/\K b1 ap g f l:=by
 rintro b1 D E hw;obtain⟨B,p⟩:=bo E hw;have I:(n+1)*i.bytes<=1000000001*1000:=wm (by omega) w;obtain⟨ap,d,G,q,j,y,r⟩:=aX.append (P:=prog) (t:=S) (ty:=S) M J aq C A (aX.new p F)
  (s:=some ⟨b1,0,none⟩) (m:=1) (c:=1) (news:=vs) (by omega) (fj B (by simp)) L (by omega) (by omega)
 refine⟨ap,n+1,d,G,q,x b1 ap d G E j ((ao.cm p).trans y λ_ _ h=>h) λk x=>?_⟩;rcases r with e | e
 ·grind
 ·obtain⟨o,F⟩:=x
  simp_all
theorem hv {M:a4}{w:an}{a:ak}{xs:ax}(h:bl w a xs)(c:∀ k,aP a k->¬ M k):xs=[]\/gU M a:=by
 rcases h with h | ⟨b,o,rfl,_⟩
 ·grind
 ·exact .inr (c b ⟨o,rfl⟩)
theorem aX.setCell {w:an}{e sz n cap g:Nat}{xs:ax}(h:aX w e sz (some ⟨g,0,none⟩) n cap xs){i:Nat}(f:i<n*sz)(v:bf):aX (w.setCell ⟨g,i,none⟩ v) e sz (some ⟨g,0,none⟩) n cap (xs.set i v):=by
 rcases h.2 with⟨a,_⟩ | ⟨d,cur,he,b,hle,c,j,k⟩
 ·cases a
 ·simp only[hM,Addr.mk.injEq,and_true]at he;subst he;refine⟨by simp[h.1],.inr ⟨g,cur.set i v,rfl,b.setCell v,hle,c,by grind,?_⟩⟩
  grind[List.take_set]
end
section
abbrev jp (a:aU):bf:=.pointer (some a)
abbrev bM (a:aU)(k:Nat):bf:=.pointer (some ⟨a.block,a.off+k,none⟩)
abbrev ab (x:Int):bf:=.int .i64 x
abbrev dA (x:Nat):bf:=.int .i64 x
abbrev ah (x:Int):bf:=.int .u64 x
abbrev ae (x:Bool):bf:=.bool x
abbrev ad (a:ak)(n c:Nat):bf:=.slice a n c
abbrev a0:bf:=.slice none 0 0
abbrev aH (j:ax)(n:Nat):bf:=j.getD n undef
abbrev ar:=ax
abbrev dy:=Exit->ar->aJ
abbrev af (b k:Nat):aU:=⟨b,k,none⟩
abbrev b5 (a:aU)(k:Nat):aU:=⟨a.block,a.off+k,none⟩
abbrev bk (b:Nat):ak:=some ⟨b,0,none⟩
abbrev a' (b:Nat):bf:=.pointer (some ⟨b,0,none⟩)
abbrev aT (f:Func)(p:c6)(R:cM):Exit->ax->aJ:=aZ (λenv w=>W prog (sub (bu f) p) env (dE prog f R) w) (dE prog f R)
abbrev sb (f:Func)(p:c6):Code:=sub (bu f) p
abbrev cU (f:Func)(p:c6):Code:=.loop (sub (bu f) p)
abbrev bT (f:Func)(R:cM):Exit->ax->aJ:=dE prog f R
abbrev aR (w:an)(l:ep)(T:bY)(K:Nat->aJ):Prop:=∀ b w1,b=w.heap.size->w1=w.alloc (.cells l T)->K b w1
abbrev cF (w:an)(K:an->(aJ)->Prop):Prop:=∀ w1,w1=w.drew->∃ S:aJ,S w1/\K w1 S
abbrev cV (w:an)(a:aU)(v:bf)(K:aJ):Prop:=(∃ u,w.cell? a=some u)/\w.frozen? a=false/\∀ w1,w1=w.setCell a v->K w1
abbrev a8 (w:an)(a:aU)(n:Nat)(l:ax)(K:aJ):Prop:=ej w a n l/\∀ w1,w1=cI w a n l->K w1
abbrev de (T:bY)(x y:bf)(w:an)(K:ak->Nat->Nat->aJ):Prop:=∃ (a:ak) (n c:Nat),∃ w1,(Builtin.append_ #[T,T] T #[x,y]).run prog w=.ok (.slice a n c) w1/\K a n c w1
end
section
structure bV where
 Code:Int
 Words:ak
 dh:Nat
 c8:Nat
def bV.cells (r:bV):ax:=[.int .i64 r.Code,.slice r.Words r.dh r.c8]
def bV.val (r:bV):bf:=.agg r.cells.toArray
def bV.ex (K:bV->Prop):Prop:=∃ (d:Int) (c:ak) (b:Nat) (a:Nat),K ⟨d,c,b,a⟩
theorem bV.aV {K:bV->Prop}(r:bV)(h:K r):bV.ex K:=⟨_,_,_,_,h⟩
theorem bV.len (r:bV):r.cells.length=2:=rfl
theorem bV.single (r:bV):∀ u ∈ r.cells,single u=true:=by intro u hu;simp only[bV.cells,f0,lF,or_false]at hu;rcases hu with rfl | rfl<;>rfl
structure aG where
 Kind:Int
 Node:Int
 cL:Int
 N:Int
 Old:Int
 ai:Int
 Words:ak
 dh:Nat
 c8:Nat
 Key:Int
 cK:Int
def aG.cells (r:aG):ax:=[.int .i64 r.Kind,.int .i64 r.Node,.int .i64 r.cL,.int .i64 r.N,.int .u64 r.Old,.int .u64 r.ai,.slice r.Words r.dh r.c8,.int .u64 r.Key,.int .i64 r.cK]
def aG.val (r:aG):bf:=.agg r.cells.toArray
def aG.ex (K:aG->Prop):Prop:=∃ (e:Int) (f:Int) (j:Int) (k:Int) (i:Int) (h:Int) (c:ak) (b:Nat) (a:Nat) (g:Int) (d:Int),K ⟨e,f,j,k,i,h,c,b,a,g,d⟩
theorem aG.aV {K:aG->Prop}(r:aG)(h:K r):aG.ex K:=⟨_,_,_,_,_,_,_,_,_,_,_,h⟩
theorem aG.len (r:aG):r.cells.length=9:=rfl
theorem aG.single (r:aG):∀ u ∈ r.cells,single u=true:=by intro u hu;simp only[aG.cells,f0,lF,or_false]at hu;rcases hu with rfl | rfl | rfl | rfl | rfl | rfl | rfl | rfl | rfl<;>rfl
structure pj where
 u7:Int
def pj.cells (r:pj):ax:=[.int .i64 r.u7]
def pj.val (r:pj):bf:=.agg r.cells.toArray
def pj.ex (K:pj->Prop):Prop:=∃ (a:Int),K ⟨a⟩
structure po where
 u7:Int
 Number:Int
 Client:Int
 Round:Int
 s3:Int
def po.cells (r:po):ax:=[.int .i64 r.u7,.int .i64 r.Number,.int .i64 r.Client,.int .i64 r.Round,.int .u64 r.s3]
def po.val (r:po):bf:=.agg r.cells.toArray
def po.ex (K:po->Prop):Prop:=∃ (c:Int) (b:Int) (a:Int) (d:Int) (e:Int),K ⟨c,b,a,d,e⟩
structure da where
 Number:Int
 f7:ak
 fq:Nat
 gB:Nat
def da.cells (r:da):ax:=[.int .i64 r.Number,.slice r.f7 r.fq r.gB]
def da.val (r:da):bf:=.agg r.cells.toArray
def da.ex (K:da->Prop):Prop:=∃ (d:Int) (c:ak) (b:Nat) (a:Nat),K ⟨d,c,b,a⟩
theorem da.aV {K:da->Prop}(r:da)(h:K r):da.ex K:=⟨_,_,_,_,h⟩
theorem da.single (r:da):∀ u ∈ r.cells,single u=true:=by intro u hu;simp only[da.cells,f0,lF,or_false]at hu;rcases hu with rfl | rfl<;>rfl
structure dj where
 Client:Int
 Seq:Int
 hP:Int
 View:da
 Reads:ak
 lJ:Nat
 p1:Nat
 eN:ak
 dZ:Nat
 hR:Nat
def dj.cells (r:dj):ax:=[.int .i64 r.Client,.int .i64 r.Seq,.int .i64 r.hP,.int .i64 r.View.Number,.slice r.View.f7 r.View.fq r.View.gB,.slice r.Reads r.lJ r.p1,.slice r.eN r.dZ r.hR]
def dj.val (r:dj):bf:=.agg r.cells.toArray
def dj.ex (K:dj->Prop):Prop:=∃ (i:Int) (n:Int) (k:Int) (d:Int) (c:ak) (b:Nat) (a:Nat) (l:ak) (h:Nat) (g:Nat) (j:ak) (f:Nat) (e:Nat),K ⟨i,n,k,⟨d,c,b,a⟩,l,h,g,j,f,e⟩
theorem dj.aV {K:dj->Prop}(r:dj)(h:K r):dj.ex K:=⟨_,_,_,_,_,_,_,_,_,_,_,_,_,h⟩
theorem dj.single (r:dj):∀ u ∈ r.cells,single u=true:=by intro u hu;simp only[dj.cells,f0,lF,or_false]at hu;rcases hu with rfl | rfl | rfl | rfl | rfl | rfl | rfl<;>rfl
structure c_ where
 Client:Int
 iN:Int
 hP:Int
 View:da
 e7:Int
 gA:Int
 il:Int
def c_.cells (r:c_):ax:=[.int .i64 r.Client,.int .i64 r.iN,.int .i64 r.hP,.int .i64 r.View.Number,.slice r.View.f7 r.View.fq r.View.gB,.int .i64 r.e7,.int .i64 r.gA,.int .u64 r.il]
def c_.val (r:c_):bf:=.agg r.cells.toArray
def c_.ex (K:c_->Prop):Prop:=∃ (e:Int) (j:Int) (f:Int) (d:Int) (c:ak) (b:Nat) (a:Nat) (g:Int) (h:Int) (i:Int),K ⟨e,j,f,⟨d,c,b,a⟩,g,h,i⟩
theorem c_.aV {K:c_->Prop}(r:c_)(h:K r):c_.ex K:=⟨_,_,_,_,_,_,_,_,_,_,h⟩
structure cu where
 Kind:Int
 Client:Int
 Le:pj
 u_:po
 jv:dj
 Recover:c_
 An:ak
 sI:Nat
 Ap:Nat
 m1:Bool
 sq:Bool
 Code:Int
 View:da
 Status:Int
 Doors:ak
 z3:Nat
 uL:Nat
 s3:Int
 q8:Int
 kx:Int
 Seq:Int
 ku:Int
def cu.cells (r:cu):ax:=[.int .i64 r.Kind,.int .i64 r.Client,.int .i64 r.Le.u7,.int .i64 r.u_.u7,.int .i64 r.u_.Number,.int .i64 r.u_.Client,.int .i64 r.u_.Round,.int .u64 r.u_.s3,.int .i64 r.jv.Client,.int .i64 r.jv.Seq,.int .i64 r.jv.hP,.int .i64 r.jv.View.Number,.slice r.jv.View.f7 r.jv.View.fq r.jv.View.gB,.slice r.jv.Reads r.jv.lJ r.jv.p1,.slice r.jv.eN r.jv.dZ r.jv.hR,.int .i64 r.Recover.Client,.int .i64 r.Recover.iN,.int .i64 r.Recover.hP,.int .i64 r.Recover.View.Number,.slice r.Recover.View.f7 r.Recover.View.fq r.Recover.View.gB,.int .i64 r.Recover.e7,.int .i64 r.Recover.gA,.int .u64 r.Recover.il,.slice r.An r.sI r.Ap,.bool r.m1,.bool r.sq,.int .i64 r.Code,.int .i64 r.View.Number,.slice r.View.f7 r.View.fq r.View.gB,.int .i64 r.Status,.slice r.Doors r.z3 r.uL,.int .u64 r.s3,.int .i64 r.q8,.int .i64 r.kx,.int .i64 r.Seq,.int .i64 r.ku]
def cu.val (r:cu):bf:=.agg r.cells.toArray
def cu.ex (K:cu->Prop):Prop:=∃ (V:Int) (O:Int) (n:Int) (D:Int) (y:Int) (x:Int) (E:Int) (I:Int) (r:Int) (H:Int) (u:Int) (h:Int) (f:ak) (d:Nat) (c:Nat) (w:ak) (l:Nat) (k:Nat) (s:ak) (j:Nat) (i:Nat) (o:Int) (F:Int) (t:Int) (g:Int) (e:ak) (b:Nat) (a:Nat) (z:Int) (A:Int) (B:Int) (Y:ak) (S:Nat) (R:Nat) (W:Bool) (X:Bool) (T:Int) (G:Int) (C:ak) (q:Nat) (p:Nat) (P:Int) (Q:ak) (L:Nat) (J:Nat) (ab:Int) (U:Int) (N:Int) (Z:Int) (M:Int),K ⟨V,O,⟨n⟩,⟨D,y,x,E,I⟩,⟨r,H,u,⟨h,f,d,c⟩,w,l,k,s,j,i⟩,⟨o,F,t,⟨g,e,b,a⟩,z,A,B⟩,Y,S,R,W,X,T,⟨G,C,q,p⟩,P,Q,L,J,ab,U,N,Z,M⟩
theorem cu.aV {K:cu->Prop}(r:cu)(h:K r):cu.ex K:=⟨_,_,_,_,_,_,_,_,_,_,_,_,_,_,_,_,_,_,_,_,_,_,_,_,_,_,_,_,_,_,_,_,_,_,_,_,_,_,_,_,_,_,_,_,_,_,_,_,_,_,h⟩
theorem cu.len (r:cu):r.cells.length=36:=rfl
theorem cu.single (r:cu):∀ u ∈ r.cells,single u=true:=by intro u hu;simp only[cu.cells,f0,lF,or_false]at hu;rcases hu with rfl | rfl | rfl | rfl | rfl | rfl | rfl | rfl | rfl | rfl | rfl | rfl | rfl | rfl | rfl | rfl | rfl | rfl | rfl | rfl | rfl | rfl | rfl | rfl | rfl | rfl | rfl | rfl | rfl | rfl | rfl | rfl | rfl | rfl | rfl | rfl<;>rfl
structure aN where
 bt:Int
 Head:Int
 wV:Int
 Di:Int
 Dj:Int
 Dk:Int
 Dl:Int
 Dm:Int
 Dn:Int
def aN.cells (r:aN):ax:=[.int .i64 r.bt,.int .u64 r.Head,.int .u64 r.wV,.int .u64 r.Di,.int .u64 r.Dj,.int .u64 r.Dk,.int .u64 r.Dl,.int .u64 r.Dm,.int .u64 r.Dn]
def aN.val (r:aN):bf:=.agg r.cells.toArray
def aN.ex (K:aN->Prop):Prop:=∃ (i:Int) (h:Int) (a:Int) (b:Int) (c:Int) (d:Int) (e:Int) (f:Int) (g:Int),K ⟨i,h,a,b,c,d,e,f,g⟩
theorem aN.aV {K:aN->Prop}(r:aN)(h:K r):aN.ex K:=⟨_,_,_,_,_,_,_,_,_,h⟩
theorem aN.len (r:aN):r.cells.length=9:=rfl
theorem aN.single (r:aN):∀ u ∈ r.cells,single u=true:=by intro u hu;simp only[aN.cells,f0,lF,or_false]at hu;rcases hu with rfl | rfl | rfl | rfl | rfl | rfl | rfl | rfl | rfl<;>rfl
structure qc where
 cL:Int
 Kind:Int
 A:Int
def qc.cells (r:qc):ax:=[.int .i64 r.cL,.int .i64 r.Kind,.int .i64 r.A]
def qc.val (r:qc):bf:=.agg r.cells.toArray
def qc.ex (K:qc->Prop):Prop:=∃ (b:Int) (a:Int) (c:Int),K ⟨b,a,c⟩
structure jc where
 PY:Int
 Client:Int
 Node:Int
def jc.cells (r:jc):ax:=[.int .i64 r.PY,.int .i64 r.Client,.int .i64 r.Node]
def jc.val (r:jc):bf:=.agg r.cells.toArray
def jc.ex (K:jc->Prop):Prop:=∃ (b:Int) (a:Int) (c:Int),K ⟨b,a,c⟩
theorem jc.aV {K:jc->Prop}(r:jc)(h:K r):jc.ex K:=⟨_,_,_,h⟩
theorem jc.len (r:jc):r.cells.length=3:=rfl
structure iP where
 alive:Bool
 inc:Int
 az:ak
 Uf:Nat
 Ue:Nat
 batch:ak
 TA:Nat
 Tz:Nat
 waiting:Int
 jo:Int
 kL:Int
def iP.cells (r:iP):ax:=[.bool r.alive,.int .i64 r.inc,.slice r.az r.Uf r.Ue,.slice r.batch r.TA r.Tz,.int .i64 r.waiting,.int .i64 r.jo,.int .i64 r.kL]
def iP.val (r:iP):bf:=.agg r.cells.toArray
def iP.ex (K:iP->Prop):Prop:=∃ (g:Bool) (k:Int) (i:ak) (d:Nat) (c:Nat) (h:ak) (b:Nat) (a:Nat) (e:Int) (j:Int) (f:Int),K ⟨g,k,i,d,c,h,b,a,e,j,f⟩
theorem iP.aV {K:iP->Prop}(r:iP)(h:K r):iP.ex K:=⟨_,_,_,_,_,_,_,_,_,_,_,h⟩
theorem iP.single (r:iP):∀ u ∈ r.cells,single u=true:=by intro u hu;simp only[iP.cells,f0,lF,or_false]at hu;rcases hu with rfl | rfl | rfl | rfl | rfl | rfl | rfl<;>rfl
structure qf where
 cH:ak
 bG:ak
 V4:Nat
 V3:Nat
def qf.cells (r:qf):ax:=[.pointer r.cH,.slice r.bG r.V4 r.V3]
def qf.val (r:qf):bf:=.agg r.cells.toArray
def qf.ex (K:qf->Prop):Prop:=∃ (d:ak) (c:ak) (b:Nat) (a:Nat),K ⟨d,c,b,a⟩
structure aS where
 Node:Int
 cK:Int
 Full:Bool
def aS.cells (r:aS):ax:=[.int .i64 r.Node,.int .i64 r.cK,.bool r.Full]
def aS.val (r:aS):bf:=.agg r.cells.toArray
def aS.ex (K:aS->Prop):Prop:=∃ (c:Int) (a:Int) (b:Bool),K ⟨c,a,b⟩
theorem aS.aV {K:aS->Prop}(r:aS)(h:K r):aS.ex K:=⟨_,_,_,h⟩
theorem aS.len (r:aS):r.cells.length=3:=rfl
theorem aS.single (r:aS):∀ u ∈ r.cells,single u=true:=by intro u hu;simp only[aS.cells,f0,lF,or_false]at hu;rcases hu with rfl | rfl | rfl<;>rfl
structure rD where
 Code:Int
 Number:Int
 View:da
 Status:Int
 PX:Bool
 Hint:Int
 KT:ak
 KV:Nat
 KU:Nat
 Keys:ak
 NS:Nat
 NR:Nat
 Doors:ak
 z3:Nat
 uL:Nat
def rD.cells (r:rD):ax:=[.int .i64 r.Code,.int .i64 r.Number,.int .i64 r.View.Number,.slice r.View.f7 r.View.fq r.View.gB,.int .i64 r.Status,.bool r.PX,.int .u64 r.Hint,.slice r.KT r.KV r.KU,.slice r.Keys r.NS r.NR,.slice r.Doors r.z3 r.uL]
def rD.val (r:rD):bf:=.agg r.cells.toArray
def rD.ex (K:rD->Prop):Prop:=∃ (q:Int) (k:Int) (d:Int) (c:ak) (b:Nat) (a:Nat) (n:Int) (l:Bool) (r:Int) (o:ak) (f:Nat) (e:Nat) (s:ak) (j:Nat) (i:Nat) (p:ak) (h:Nat) (g:Nat),K ⟨q,k,⟨d,c,b,a⟩,n,l,r,o,f,e,s,j,i,p,h,g⟩
structure rF where
 Code:Int
 s3:Int
 Round:Int
def rF.cells (r:rF):ax:=[.int .i64 r.Code,.int .u64 r.s3,.int .i64 r.Round]
def rF.val (r:rF):bf:=.agg r.cells.toArray
def rF.ex (K:rF->Prop):Prop:=∃ (b:Int) (c:Int) (a:Int),K ⟨b,c,a⟩
structure bA where
 Code:Int
 q8:Int
def bA.cells (r:bA):ax:=[.int .i64 r.Code,.int .i64 r.q8]
def bA.val (r:bA):bf:=.agg r.cells.toArray
def bA.ex (K:bA->Prop):Prop:=∃ (a:Int) (b:Int),K ⟨a,b⟩
theorem bA.aV {K:bA->Prop}(r:bA)(h:K r):bA.ex K:=⟨_,_,h⟩
theorem bA.single (r:bA):∀ u ∈ r.cells,single u=true:=by intro u hu;simp only[bA.cells,f0,lF,or_false]at hu;rcases hu with rfl | rfl<;>rfl
structure dB where
 Code:Int
 kx:Int
 Seq:Int
 ku:Int
 L':Int
def dB.cells (r:dB):ax:=[.int .i64 r.Code,.int .i64 r.kx,.int .i64 r.Seq,.int .i64 r.ku,.int .u64 r.L']
def dB.val (r:dB):bf:=.agg r.cells.toArray
def dB.ex (K:dB->Prop):Prop:=∃ (d:Int) (b:Int) (e:Int) (a:Int) (c:Int),K ⟨d,b,e,a,c⟩
theorem dB.aV {K:dB->Prop}(r:dB)(h:K r):dB.ex K:=⟨_,_,_,_,_,h⟩
theorem dB.single (r:dB):∀ u ∈ r.cells,single u=true:=by intro u hu;simp only[dB.cells,f0,lF,or_false]at hu;rcases hu with rfl | rfl | rfl | rfl | rfl<;>rfl
structure jd where
 l:a7
def jd.cells (r:jd):ax:=r.l.map λx=>.int .u64 x
def jd.val (r:jd):bf:=.agg r.cells.toArray
def jd.ex (K:jd->Prop):Prop:=fK 256 λl=>K ⟨l⟩
theorem jd.aV {K:jd->Prop}(r:jd)(a:r.l.length=256)(h:K r):jd.ex K:=GO 256 r.l a h
structure b7 where
 Seq:Int
 eN:ak
 dZ:Nat
 hR:Nat
def b7.cells (r:b7):ax:=[.int .i64 r.Seq,.slice r.eN r.dZ r.hR]
def b7.val (r:b7):bf:=.agg r.cells.toArray
def b7.ex (K:b7->Prop):Prop:=∃ (d:Int) (c:ak) (b:Nat) (a:Nat),K ⟨d,c,b,a⟩
theorem b7.aV {K:b7->Prop}(r:b7)(h:K r):b7.ex K:=⟨_,_,_,_,h⟩
theorem b7.single (r:b7):∀ u ∈ r.cells,single u=true:=by intro u hu;simp only[b7.cells,f0,lF,or_false]at hu;rcases hu with rfl | rfl<;>rfl
structure eW where
 bt:Int
 Head:Int
def eW.cells (r:eW):ax:=[.int .i64 r.bt,.int .u64 r.Head]
def eW.val (r:eW):bf:=.agg r.cells.toArray
def eW.ex (K:eW->Prop):Prop:=∃ (b:Int) (a:Int),K ⟨b,a⟩
theorem eW.aV {K:eW->Prop}(r:eW)(h:K r):eW.ex K:=⟨_,_,h⟩
theorem eW.len (r:eW):r.cells.length=2:=rfl
theorem eW.single (r:eW):∀ u ∈ r.cells,single u=true:=by intro u hu;simp only[eW.cells,f0,lF,or_false]at hu;rcases hu with rfl | rfl<;>rfl
structure du where
 aL:Int
 least:Int
 exact:Bool
def du.cells (r:du):ax:=[.int .i64 r.aL,.int .u64 r.least,.bool r.exact]
def du.val (r:du):bf:=.agg r.cells.toArray
def du.ex (K:du->Prop):Prop:=∃ (a:Int) (c:Int) (b:Bool),K ⟨a,c,b⟩
theorem du.aV {K:du->Prop}(r:du)(h:K r):du.ex K:=⟨_,_,_,h⟩
theorem du.len (r:du):r.cells.length=3:=rfl
theorem du.single (r:du):∀ u ∈ r.cells,single u=true:=by intro u hu;simp only[du.cells,f0,lF,or_false]at hu;rcases hu with rfl | rfl | rfl<;>rfl
abbrev ov (n:Nat)(l:ep)(w:an)(K:ak->aJ):Prop:=Calls prog n l w λe w1=>∃ (v0:ak),e=.returned (.pointer v0)/\K v0 w1
abbrev vR (n:Nat)(l:ep)(w:an)(K:ak->Nat->Nat->Int->aJ):Prop:=Calls prog n l w λe w1=>∃ (v0:ak) (v1:Nat) (v2:Nat) (a:Int),e=.returned (.tuple #[.slice v0 v1 v2,.int .i64 a])/\K v0 v1 v2 a w1
abbrev d' (w:an)(a:aU)(K:Int->Prop):Prop:=∃ (v0:Int),w.cell? a=some (.int .u64 v0)/\K v0
abbrev BU (n:Nat)(l:ep)(w:an)(K:ak->Int->aJ):Prop:=Calls prog n l w λe w1=>∃ (v0:ak) (v1:Int),e=.returned (.tuple #[.pointer v0,.int .i64 v1])/\K v0 v1 w1
abbrev cG (n:Nat)(l:ep)(w:an)(K:Int->aJ):Prop:=Calls prog n l w λe w1=>∃ (v0:Int),e=.returned (.int .i64 v0)/\K v0 w1
abbrev b0 (w:an)(a:aU)(K:Int->Prop):Prop:=∃ (v0:Int),w.cell? a=some (.int .i64 v0)/\K v0
abbrev dx (n:Nat)(l:ep)(w:an)(K:Bool->aJ):Prop:=Calls prog n l w λe w1=>∃ (v0:Bool),e=.returned (.bool v0)/\K v0 w1
abbrev cY (S:aJ)(a:aU)(K:Int->Prop):Prop:=∃ (v0:Int),(∀ u,S u->u.cell? a=some (.int .i64 v0))/\K v0
abbrev vV (n:Nat)(l:ep)(w:an)(K:aJ):Prop:=Calls prog n l w λe w1=>e=.returned (.tuple #[])/\K  w1
abbrev dm (n:Nat)(l:ep)(w:an)(K:ak->Nat->Nat->aJ):Prop:=Calls prog n l w λe w1=>∃ (v0:ak) (v1:Nat) (v2:Nat),e=.returned (.slice v0 v1 v2)/\K v0 v1 v2 w1
abbrev I1 (w:an)(a:aU)(K:Int->Int->Int->Prop):Prop:=∃ (v0:Int) (v1:Int) (v2:Int),cn w a 0 [.int .i64 v0,.int .i64 v1,.int .i64 v2]/\K v0 v1 v2
abbrev b_ (w:an)(a:aU)(K:ak->Nat->a4):Prop:=∃ (v0:ak) (v1:Nat) (v2:Nat),w.cell? a=some (.slice v0 v1 v2)/\K v0 v1 v2
abbrev eD (S:aJ)(a:aU)(K:ak->Nat->a4):Prop:=∃ (v0:ak) (v1:Nat) (v2:Nat),(∀ u,S u->u.cell? a=some (.slice v0 v1 v2))/\K v0 v1 v2
abbrev j5 (w:an)(a:aU)(K:Bool->Prop):Prop:=∃ (v0:Bool),w.cell? a=some (.bool v0)/\K v0
abbrev jI (n:Nat)(l:ep)(w:an)(K:Int->aJ):Prop:=Calls prog n l w λe w1=>∃ (v0:Int),e=.returned (.int .u64 v0)/\K v0 w1
abbrev vS (w:an)(a:aU)(K:Int->ak->Nat->a4):Prop:=∃ (v0:Int) (v1:ak) (v2:Nat) (b:Nat),cn w a 0 [.int .i64 v0,.slice v1 v2 b]/\K v0 v1 v2 b
abbrev j6 (w:an)(a:aU)(K:Int->Int->Int->Int->Int->Int->ak->Nat->Nat->Int->Int->Prop):Prop:=∃ (v0:Int) (v1:Int) (v2:Int) (b:Int) (v4:Int) (c:Int) (v6:ak) (d:Nat) (e:Nat) (f:Int) (v10:Int),cn w a 0 [.int .i64 v0,.int .i64 v1,.int .i64 v2,.int .i64 b,.int .u64 v4,.int .u64 c,.slice v6 d e,.int .u64 f,.int .i64 v10]/\K v0 v1 v2 b v4 c v6 d e f v10
abbrev nA (S:aJ)(a:aU)(K:Int->Int->Int->Int->Int->Int->ak->Nat->Nat->Int->Int->Prop):Prop:=∃ (v0:Int) (v1:Int) (v2:Int) (b:Int) (v4:Int) (c:Int) (v6:ak) (d:Nat) (e:Nat) (f:Int) (v10:Int),(∀ u,S u->cn u a 0 [.int .i64 v0,.int .i64 v1,.int .i64 v2,.int .i64 b,.int .u64 v4,.int .u64 c,.slice v6 d e,.int .u64 f,.int .i64 v10])/\K v0 v1 v2 b v4 c v6 d e f v10
abbrev Wy (S:aJ)(a:aU)(K:Int->Int->Prop):Prop:=∃ (v0:Int) (v1:Int),(∀ u,S u->cn u a 0 [.int .i64 v0,.int .i64 v1])/\K v0 v1
abbrev h1 (n:Nat)(l:ep)(w:an)(K:Int->Int->aJ):Prop:=Calls prog n l w λe w1=>∃ (v0:Int) (v1:Int),e=.returned (.tuple #[.int .u64 v0,.int .i64 v1])/\K v0 v1 w1
abbrev I2 (n:Nat)(l:ep)(w:an)(K:Int->Int->aJ):Prop:=Calls prog n l w λe w1=>∃ (v0:Int) (v1:Int),e=.returned (.tuple #[.int .i64 v0,.int .i64 v1])/\K v0 v1 w1
abbrev Wz (n:Nat)(l:ep)(w:an)(K:Int->Int->Int->Int->Int->Int->ak->Nat->Nat->Int->Int->aJ):Prop:=Calls prog n l w λe w1=>∃ (v0:Int) (v1:Int) (v2:Int) (a:Int) (v4:Int) (b:Int) (v6:ak) (c:Nat) (d:Nat) (f:Int) (v10:Int),e=.returned (.agg #[.int .i64 v0,.int .i64 v1,.int .i64 v2,.int .i64 a,.int .u64 v4,.int .u64 b,.slice v6 c d,.int .u64 f,.int .i64 v10])/\K v0 v1 v2 a v4 b v6 c d f v10 w1
abbrev BT (S:aJ)(a:aU)(K:Int->ak->Nat->a4):Prop:=∃ (v0:Int) (v1:ak) (v2:Nat) (b:Nat),(∀ u,S u->cn u a 0 [.int .i64 v0,.slice v1 v2 b])/\K v0 v1 v2 b
abbrev kn (S:aJ)(a:aU)(K:Int->Prop):Prop:=∃ (v0:Int),(∀ u,S u->u.cell? a=some (.int .u64 v0))/\K v0
abbrev j7 (n:Nat)(l:ep)(w:an)(K:ak->Nat->Nat->Bool->aJ):Prop:=Calls prog n l w λe w1=>∃ (v0:ak) (v1:Nat) (v2:Nat) (a:Bool),e=.returned (.tuple #[.slice v0 v1 v2,.bool a])/\K v0 v1 v2 a w1
abbrev lr (w:an)(a:aU)(K:ak->Prop):Prop:=∃ (v0:ak),w.cell? a=some (.pointer v0)/\K v0
abbrev WF (w:an)(a:aU)(K:Int->Prop):Prop:=∃ (v0:Int),w.cell? a=some (.int .u8 v0)/\K v0
abbrev I8 (w:an)(a:aU)(K:ak->ak->Nat->a4):Prop:=∃ (v0:ak) (v1:ak) (v2:Nat) (b:Nat),cn w a 0 [.pointer v0,.slice v1 v2 b]/\K v0 v1 v2 b
abbrev tz (S:aJ)(a:aU)(K:ak->Prop):Prop:=∃ (v0:ak),(∀ u,S u->u.cell? a=some (.pointer v0))/\K v0
abbrev WG (w:an)(a:aU)(K:Bool->Int->ak->Nat->Nat->ak->Nat->Nat->Int->Int->Int->Prop):Prop:=∃ (v0:Bool) (v1:Int) (v2:ak) (b:Nat) (v4:Nat) (c:ak) (v6:Nat) (d:Nat) (e:Int) (f:Int) (v10:Int),cn w a 0 [.bool v0,.int .i64 v1,.slice v2 b v4,.slice c v6 d,.int .i64 e,.int .i64 f,.int .i64 v10]/\K v0 v1 v2 b v4 c v6 d e f v10
abbrev BY (n:Nat)(l:ep)(w:an)(K:Int->ak->Nat->Nat->Bool->aJ):Prop:=Calls prog n l w λe w1=>∃ (v0:Int) (v1:ak) (v2:Nat) (a:Nat) (v4:Bool),e=.returned (.tuple #[.agg #[.int .i64 v0,.slice v1 v2 a],.bool v4])/\K v0 v1 v2 a v4 w1
abbrev I_ (n:Nat)(l:ep)(w:an)(K:ak->Bool->aJ):Prop:=Calls prog n l w λe w1=>∃ (v0:ak) (v1:Bool),e=.returned (.tuple #[.pointer v0,.bool v1])/\K v0 v1 w1
abbrev BZ (S:aJ)(a:aU)(K:Bool->Prop):Prop:=∃ (v0:Bool),(∀ u,S u->u.cell? a=some (.bool v0))/\K v0
abbrev WH (n:Nat)(l:ep)(w:an)(K:ak->Bool->Bool->aJ):Prop:=Calls prog n l w λe w1=>∃ (v0:ak) (v1:Bool) (v2:Bool),e=.returned (.tuple #[.pointer v0,.bool v1,.bool v2])/\K v0 v1 v2 w1
abbrev WI (n:Nat)(l:ep)(w:an)(K:cM):Prop:=Calls prog n l w λe w1=>∃ (v0:bf),e=.returned v0/\K v0 w1
abbrev B0 (n:Nat)(l:ep)(w:an)(K:Int->Int->Bool->aJ):Prop:=Calls prog n l w λe w1=>∃ (v0:Int) (v1:Int) (v2:Bool),e=.returned (.tuple #[.int .i64 v0,.int .i64 v1,.bool v2])/\K v0 v1 v2 w1
abbrev WM (n:Nat)(l:ep)(w:an)(K:Int->Bool->aJ):Prop:=Calls prog n l w λe w1=>∃ (v0:Int) (v1:Bool),e=.returned (.tuple #[.int .i64 v0,.bool v1])/\K v0 v1 w1
abbrev lq (w:an)(a:aU)(K:aG->Prop):Prop:=aG.ex λr=>cn w a 0 r.cells/\K r
abbrev pw (w:an)(a:aU)(K:bV->Prop):Prop:=bV.ex λr=>cn w a 0 r.cells/\K r
abbrev vT (X:aJ)(a:aU)(K:aN->Prop):Prop:=aN.ex λr=>(∀ u,X u->cn u a 0 r.cells)/\K r
abbrev WA (w:an)(a:aU)(K:qc->Prop):Prop:=qc.ex λr=>cn w a 0 r.cells/\K r
abbrev e0 (w:an)(a:aU)(K:cu->Prop):Prop:=cu.ex λr=>cn w a 0 r.cells/\K r
abbrev qu (n:Nat)(l:ep)(w:an)(K:cu->aJ):Prop:=Calls prog n l w λe w1=>cu.ex λr=>e=.returned r.val/\K r w1
abbrev WB (w:an)(a:aU)(K:pj->Prop):Prop:=pj.ex λr=>cn w a 0 r.cells/\K r
abbrev BV (X:aJ)(a:aU)(K:da->Prop):Prop:=da.ex λr=>(∀ u,X u->cn u a 0 r.cells)/\K r
abbrev tx (X:aJ)(a:aU)(K:cu->Prop):Prop:=cu.ex λr=>(∀ u,X u->cn u a 0 r.cells)/\K r
abbrev WC (w:an)(a:aU)(K:po->Prop):Prop:=po.ex λr=>cn w a 0 r.cells/\K r
abbrev BW (w:an)(a:aU)(K:dj->Prop):Prop:=dj.ex λr=>cn w a 0 r.cells/\K r
abbrev I3 (w:an)(a:aU)(K:c_->Prop):Prop:=c_.ex λr=>cn w a 0 r.cells/\K r
abbrev hK (X:aJ)(a:aU)(K:aS->Prop):Prop:=aS.ex λr=>(∀ u,X u->cn u a 0 r.cells)/\K r
abbrev I4 (X:aJ)(a:aU)(K:aG->Prop):Prop:=aG.ex λr=>(∀ u,X u->cn u a 0 r.cells)/\K r
abbrev eS (n:Nat)(l:ep)(w:an)(K:aG->aJ):Prop:=Calls prog n l w λe w1=>aG.ex λr=>e=.returned r.val/\K r w1
abbrev ea (w:an)(a:aU)(K:bA->Prop):Prop:=bA.ex λr=>cn w a 0 r.cells/\K r
abbrev iC (w:an)(a:aU)(K:aN->Prop):Prop:=aN.ex λr=>cn w a 0 r.cells/\K r
abbrev iT (w:an)(a:aU)(K:aS->Prop):Prop:=aS.ex λr=>cn w a 0 r.cells/\K r
abbrev vU (X:aJ)(a:aU)(K:dj->Prop):Prop:=dj.ex λr=>(∀ u,X u->cn u a 0 r.cells)/\K r
abbrev I5 (n:Nat)(l:ep)(w:an)(K:b7->aJ):Prop:=Calls prog n l w λe w1=>b7.ex λr=>e=.returned r.val/\K r w1
abbrev mD (w:an)(a:aU)(K:da->Prop):Prop:=da.ex λr=>cn w a 0 r.cells/\K r
abbrev BX (w:an)(a:aU)(K:eW->Prop):Prop:=eW.ex λr=>cn w a 0 r.cells/\K r
abbrev yL (X:aJ)(a:aU)(K:bV->Prop):Prop:=bV.ex λr=>(∀ u,X u->cn u a 0 r.cells)/\K r
abbrev WD (n:Nat)(l:ep)(w:an)(K:bA->aJ):Prop:=Calls prog n l w λe w1=>bA.ex λr=>e=.returned r.val/\K r w1
abbrev I6 (X:aJ)(a:aU)(K:bA->Prop):Prop:=bA.ex λr=>(∀ u,X u->cn u a 0 r.cells)/\K r
abbrev ig (w:an)(a:aU)(K:b7->Prop):Prop:=b7.ex λr=>cn w a 0 r.cells/\K r
abbrev WE (n:Nat)(l:ep)(w:an)(K:jd->aJ):Prop:=Calls prog n l w λe w1=>jd.ex λr=>e=.returned r.val/\K r w1
abbrev I7 (w:an)(a:aU)(K:jd->Prop):Prop:=jd.ex λr=>cn w a 0 r.cells/\K r
abbrev I9 (w:an)(a:aU)(K:iP->Prop):Prop:=iP.ex λr=>cn w a 0 r.cells/\K r
abbrev I' (n:Nat)(l:ep)(w:an)(K:da->aJ):Prop:=Calls prog n l w λe w1=>da.ex λr=>e=.returned r.val/\K r w1
abbrev Ja (w:an)(a:aU)(K:jc->Prop):Prop:=jc.ex λr=>cn w a 0 r.cells/\K r
abbrev WJ (n:Nat)(l:ep)(w:an)(K:aN->aJ):Prop:=Calls prog n l w λe w1=>aN.ex λr=>e=.returned r.val/\K r w1
abbrev tA (X:aJ)(a:aU)(K:b7->Prop):Prop:=b7.ex λr=>(∀ u,X u->cn u a 0 r.cells)/\K r
abbrev Jb (w:an)(a:aU)(K:du->Prop):Prop:=du.ex λr=>cn w a 0 r.cells/\K r
abbrev Jc (X:aJ)(a:aU)(K:du->Prop):Prop:=du.ex λr=>(∀ u,X u->cn u a 0 r.cells)/\K r
abbrev yM (w:an)(a:aU)(K:dB->Prop):Prop:=dB.ex λr=>cn w a 0 r.cells/\K r
abbrev WK (X:aJ)(a:aU)(K:c_->Prop):Prop:=c_.ex λr=>(∀ u,X u->cn u a 0 r.cells)/\K r
abbrev WL (X:aJ)(a:aU)(K:dB->Prop):Prop:=dB.ex λr=>(∀ u,X u->cn u a 0 r.cells)/\K r
end
section
open IntKind
variable (w:an)(R:cM){i k:Int}
theorem YK:bd prog f12 [ab i,ab k] R w=(cond (k<1) (R (ab 0) w) (IntKind.i64=IntKind.i64/\k≠0/\IntKind.i64=IntKind.i64/\k≠0/\R (ab (Int.tmod (i64.wrap ((Int.tmod i k)+k)) k)) w)):=by kernel_rfl
end
section
theorem q0 (w:an)(x n:Int)(i:-9223372036854775808<=x/\x<9223372036854775808)(g:n<4611686018427387904):a5 12 [.int .i64 x,.int .i64 n] w λv w'=>v=.int .i64 (if n<1 then 0 else x % n)/\w'=w:=by
 refine ba Tryz.func12 ?_;rw[YK];refine bb (λh=>⟨by grind,rfl⟩) (λh=>⟨rfl,by omega,rfl,by omega,?_,rfl⟩);rw[aQ h];have b:0<n:=by omega
 have key:∃ t k,Int.tmod x n=t/\-n<t/\t<n/\t+n*k=x:=by
  rcases Int.le_total 0 x with a | a
  ·refine⟨x % n,x / n,zq a,?_,uu x b,Int.emod_add_mul_ediv x n⟩;have:=uv x (Int.ne_of_gt b);omega
  ·refine⟨-((-x) % n),-((-x) / n),?_,?_,?_,?_⟩
   ·rw[<-zq (by omega),Int.neg_tmod,Int.neg_neg]
   ·have:=uu (-x) b;omega
   ·have:=uv (-x) (Int.ne_of_gt b);omega
   ·have:=Int.emod_add_mul_ediv (-x) n
    grind
 obtain⟨t,k,d,e,f,c⟩:=key;rw[d,bI (by omega) (by omega)];congr 1;rw[zq (by omega),Int.add_emod_right,<-c,Int.add_mul_emod_self_left]
end
end Go.Proofs.YtmkljjbioomepaaGreat
