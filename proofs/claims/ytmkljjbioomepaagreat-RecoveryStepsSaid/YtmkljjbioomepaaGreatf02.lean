import Derived.Test.YtmkljjbioomepaaGreatf01
import Derived.Laws.AppendOwn
import Derived.Laws.Tables
import Derived.Below
import Derived.Test.YtmkljjbioomepaaGreatProg
set_option linter.all false
namespace Go.bd
open Go.RowKit
def aq (w:aj)(b:Nat)(cs:au)(T:bU):Prop:=w.heap[b]?=some (.cells cs.toArray T (0,0))
theorem aq.lt {w:aj}{b:Nat}{cs:au}{T:bU}(h:aq w b cs T):b<w.heap.size:=(Ci.1 h).1
theorem aq.cell {w:aj}{b i:Nat}{cs:au}{T:bU}{v:bl}(h:aq w b cs T)(a:cs[i]?=some v):w.cell? ⟨b,i,none⟩=some v:=by
 unfold World.cell?;simp only[show w.heap[(⟨b,i,none⟩:aw).block]?=_ from h]
 grind
theorem aq.frozen {w:aj}{b i:Nat}{cs:au}{T:bU}(h:aq w b cs T):w.frozen? ⟨b,i,none⟩=false:=by unfold World.frozen?;simp only[show w.heap[(⟨b,i,none⟩:aw).block]?=_ from h];simp
theorem aq.uniq {w:aj}{b:Nat}{cs a:au}{T c:bU}(h:aq w b cs T)(d:aq w b a c):cs=a/\T=c:=by
 unfold aq at *
 grind
theorem aq.ne {w:aj}{b b':Nat}{cs a:au}{T c:bU}(h:aq w b cs T)(d:aq w b' a c)(e:T≠c):b≠b':=by rintro rfl;exact e (h.uniq d).2
theorem pR (w:aj)(cs:au)(T:bU):aq (w.alloc (.cells cs.toArray T)) w.heap.size cs T:=by unfold aq;show(w.heap.push _)[w.heap.size]?=_;simp
theorem Jv (w:aj)(o:Obj){k:Nat}(h:k<w.heap.size):(w.alloc o).heap[k]?=w.heap[k]?:=by
 show(w.heap.push o)[k]?=_
 grind
theorem aq.alloc {w:aj}{b:Nat}{cs:au}{T:bU}(h:aq w b cs T)(o:Obj):aq (w.alloc o) b cs T:=by unfold aq at *;rw[Jv _ _ (aq.lt h)];exact h
theorem rg (w:aj)(a:aw)(v:bl){k:Nat}(h:k≠a.block):(w.setCell a v).heap[k]?=w.heap[k]?:=by
 simp only[World.setCell,Array.getElem?_modify]
 grind
theorem aq.setCell {w:aj}{b i:Nat}{cs:au}{T:bU}(h:aq w b cs T)(v:bl):aq (w.setCell ⟨b,i,none⟩ v) b (cs.set i v) T:=by
 unfold aq at *;simp only[World.setCell,Array.getElem?_modify,if_true]
 grind
theorem aq.II {w:aj}{b b' i:Nat}{cs:au}{T:bU}(h:aq w b cs T)(a:b≠b')(v:bl):aq (w.setCell ⟨b',i,none⟩ v) b cs T:=by unfold aq at *;rw[rg _ _ _ (by grind)];exact h
def nW (cs:au)(i:Nat):au->au
 | []=>cs
 |v::vs=>nW (cs.set i v) (i+1) vs
theorem lq (b o i:Nat):(⟨b,o,none⟩:aw).add i=⟨b,o+i,none⟩:=by
 unfold Addr.add
 grind
theorem aq.cv {b o:Nat}{T:bU}:∀ {vs:au} {w:aj} {cs:au} {i:Nat},aq w b cs T->aq (cv w ⟨b,o,none⟩ i vs) b (nW cs (o+i) vs) T
 | [],_,_,_,h=>h
 |v::vs,w,cs,i,h=>by
  unfold bd.cv nW;rw[lq];have:=aq.cv (o:=o) (vs:=vs) (i:=i+1) (h.setCell (i:=o+i) v)
  grind
theorem CA {b o:Nat}:∀ {vs:au} {w:aj} {i k:Nat},k≠b->(cv w ⟨b,o,none⟩ i vs).heap[k]?=w.heap[k]?
 | [],_,_,_,_=>rfl
 |v::vs,w,i,k,h=>by unfold bd.cv;rw[CA h,lq,rg _ _ _ h]
theorem zH {b o:Nat}:∀ {vs:au} {w:aj} {i:Nat},(cv w ⟨b,o,none⟩ i vs).heap.size=w.heap.size
 | [],_,_=>rfl
 |v::vs,w,i=>by unfold bd.cv;rw[zH,World.size_setCell]
theorem Jw:∀ {vs cs:au}{i:Nat},(nW cs i vs).length=cs.length
 | [],_,_=>rfl
 |v::vs,cs,i=>by unfold nW;rw[Jw];simp
theorem pS:∀ {vs cs:au}{i:Nat},i+vs.length<=cs.length->nW cs i vs=cs.take i++vs++cs.drop (i+vs.length)
 | [],cs,i,h=>by simp[nW]
 |v::vs,cs,i,h=>by
  unfold nW;simp only[jB]at h ⊢;rw[pS (by grind)];apply jb;intro j;simp only[rF,zw,tH,List.getElem?_take,vU,kg,hi,List.getElem?_cons,jB]
  grind
theorem fU {w:aj}{b o:Nat}{cs:au}{T:bU}(h:aq w b cs T):∀ {vs:au} {i:Nat},o+i+vs.length<=cs.length->(∀ v ∈ vs,single v=true)->dT w ⟨b,o,none⟩ i vs
 | [],_,_,_=>trivial
 |v::vs,i,c,a=>by
  simp only[jB]at c;have d:o+i<cs.length:=by omega
  refine⟨⟨cs[o+i],?_⟩,?_,a v (by simp),fU h (by omega) (λu hu=>a u (by grind))⟩
  ·rw[lq];exact h.cell (by grind)
  ·rw[lq];exact h.frozen
theorem jk {w:aj}{b o:Nat}:∀ {vs:au} {i:Nat},(∀ j v,vs[j]?=some v->w.cell? ⟨b,o+i+j,none⟩=some v)->b6 w ⟨b,o,none⟩ i vs
 | [],_,_=>trivial
 |v::vs,i,h=>by
  refine⟨?_,jk λj u hu=>?_⟩
  ·rw[lq];have:=h 0 v (by simp);grind
  ·have:=h (j+1) u (by grind)
   grind
theorem bJ {w:aj}{b o:Nat}{cs vs:au}{T:bU}(h:aq w b cs T)(ar:(cs.drop o).take vs.length=vs):b6 w ⟨b,o,none⟩ 0 vs:=by
 refine jk λj v a=>h.cell ?_
 grind
theorem we {rows:List au}{sz:Nat}(a:∀ r ∈ rows,r.length=sz){i k:Nat}{r:au}{v:bl}(b:rows[i]?=some r)(c:r[k]?=some v):rows.flatten[i*sz+k]?=some v:=by
 induction rows generalizing i with
 |nil=>grind
 |cons q rows e=>
  have d:=a q (by simp);cases i with
  |zero=>
   grind
  |succ i=>
   grind
theorem lT {rows:List au}{sz:Nat}(a:∀ r ∈ rows,r.length=sz):rows.flatten.length=rows.length*sz:=by
 induction rows with
 |nil=>simp
 |cons q rows b=>
  grind
theorem Ab {rows:List au}{sz:Nat}(a:∀ r ∈ rows,r.length=sz){i k:Nat}{r:au}(v:bl)(b:rows[i]?=some r)(c:k<sz):rows.flatten.set (i*sz+k) v=(rows.set i (r.set k v)).flatten:=by
 induction rows generalizing i with
 |nil=>grind
 |cons q rows e=>
  have d:=a q (by simp);cases i with
  |zero=>
   grind
  |succ i=>
   grind
theorem CL {rows:List au}{sz:Nat}(a:∀ r ∈ rows,r.length=sz){i:Nat}(b:i<rows.length){vs:au}(ar:vs.length=sz):nW rows.flatten (i*sz) vs=(rows.set i vs).flatten:=by
 have f:=lT a;have c:i*sz+sz<=rows.length*sz:=by
  have:=rB sz (show i+1<=rows.length from b)
  grind
 rw[pS (by grind)];clear c;induction rows generalizing i with
 |nil=>grind
 |cons q rows e=>
  have g:=a q (by simp);cases i with
  |zero=>
   grind
  |succ i=>simp only[jB]at b;have:=e (λr d=>a r (by grind)) (i:=i) (by omega) (lT λr d=>a r (by grind));simp only[kR,List.set_cons_succ];rw[<-this,List.take_append,List.drop_append];rw[rM (by grind),List.drop_eq_nil_of_le (by grind)];rw[show(i+1)*sz-q.length=i*sz by grind,show(i+1)*sz+vs.length-q.length=i*sz+vs.length by grind];simp
structure ao (M:a6)(w w':aj):Prop where
 os:w'.os=w.os
 tape:w'.tape=w.tape
 output:w'.output=w.output
 size:w.heap.size<=w'.heap.size
 block:∀ k,k<w.heap.size->¬ M k->w'.heap[k]?=w.heap[k]?
abbrev ai (w w':aj):Prop:=ao (λ_=>False) w w'
theorem ao.refl (M:a6)(w:aj):ao M w w:=⟨rfl,rfl,rfl,dr _,λ_ _ _=>rfl⟩
theorem ao.trans {M M':a6}{a b c:aj}(h:ao M a b)(k:ao M' b c)(f:∀ i,i<a.heap.size->M' i->M i):ao M a c:=
 ⟨k.os.trans h.os,k.tape.trans h.tape,k.output.trans h.output,m2 h.size k.size,λi d hm=>
  (k.block i (fQ d h.size) (λe=>hm (f i d e))).trans (h.block i d hm)⟩
theorem ao.mono {M M':a6}{a b:aj}(h:ao M a b)(e:∀ i,i<a.heap.size->M i->M' i):ao M' a b:=
 ⟨h.os,h.tape,h.output,h.size,λi d hm=>h.block i d (λc=>hm (e i d c))⟩
theorem ao.b7 {M:a6}{a b:aj}(h:ai a b):ao M a b:=h.mono λ_ _ c=>c.elim
theorem ao.new {M:a6}{a b c:aj}(h:ao M a b)(k:ai b c):ao M a c:=h.trans k λ_ _ d=>d.elim
theorem hn (w:aj)(o:Obj):ai w (w.alloc o):=⟨rfl,rfl,rfl,by simp,λk a _=>Jv _ _ a⟩
theorem cC (w:aj):ai w w.drew:=⟨rfl,rfl,rfl,dr _,λ_ _ _=>rfl⟩
theorem ao.alloc {M:a6}{a w:aj}(h:ao M a w)(o:Obj):ao M a (w.alloc o):=h.new (hn w o)
theorem ao.drew {M:a6}{a w:aj}(h:ao M a w):ao M a w.drew:=h.new (cC w)
theorem eY (w:aj)(b i:Nat)(v:bl):ao (λk=>k=b) w (w.setCell ⟨b,i,none⟩ v):=
 ⟨rfl,rfl,rfl,by simp,λk _ hm=>rg _ _ _ hm⟩
theorem ao.setCell {M:a6}{a w:aj}(h:ao M a w){b i:Nat}(c:M b\/a.heap.size<=b)(v:bl):ao M a (w.setCell ⟨b,i,none⟩ v):=
 h.trans (eY w b i v) λk d hm=>by grind
theorem wO {b o:Nat}:∀ {vs:au} {w:aj} {i:Nat},(cv w ⟨b,o,none⟩ i vs).os=w.os/\(cv w ⟨b,o,none⟩ i vs).tape=w.tape/\(cv w ⟨b,o,none⟩ i vs).output=w.output
 | [],_,_=>⟨rfl,rfl,rfl⟩
 |v::vs,w,i=>by unfold bd.cv;have:=wO (b:=b) (o:=o) (vs:=vs) (w:=w.setCell ((⟨b,o,none⟩:aw).add i) v) (i:=i+1);exact this
theorem hD (w:aj)(b o i:Nat)(vs:au):ao (λk=>k=b) w (cv w ⟨b,o,none⟩ i vs):=
 ⟨wO.1,wO.2.1,wO.2.2,by rw[zH];grind,λk _ hm=>CA hm⟩
theorem ao.cv {M:a6}{a w:aj}(h:ao M a w){b o i:Nat}(c:M b\/a.heap.size<=b)(vs:au):ao M a (cv w ⟨b,o,none⟩ i vs):=
 h.trans (hD w b o i vs) λk d hm=>by grind
theorem ao.ak {M:a6}{w w':aj}(h:ao M w w'){b:Nat}{cs:au}{T:bU}(a:aq w b cs T)(hm:¬ M b):aq w' b cs T:=by unfold aq at *;rw[h.block b (aq.lt a) hm];exact a
theorem ai.ak {w w':aj}(h:ai w w'){b:Nat}{cs:au}{T:bU}(a:aq w b cs T):aq w' b cs T:=ao.ak h a id
theorem ao.below {M:a6}{w w':aj}{B:Nat}(h:ao M w w')(b:B<=w.heap.size)(c:∀ k,k<B->¬ M k):Below B w w':=
 ⟨h.os,h.tape,h.output,h.size,λk a=>h.block k (fQ a b) (c k a)⟩
theorem sU {w w':aj}{row:Option Nat}(h:w.grownBy w' row):ao (λk=>some k=row) w w':=⟨h.os,h.tape,h.output,h.size,λk a hm=>h.block k a hm⟩
def bh (w:aj)(a:an)(xs:au):Prop:=
 xs=[]\/∃ b o,a=some ⟨b,o,none⟩/\∀ j u,xs[j]?=some u->w.cell? ⟨b,o+j,none⟩=some u
theorem wP {w:aj}{a:aw}{v:bl}(h:w.cell? a=some v):a.block<w.heap.size:=by
 unfold World.cell? at h
 grind
theorem jG {M:a6}{w w':aj}(h:ao M w w'){a:aw}{v:bl}(b:w.cell? a=some v)(hm:¬ M a.block):w'.cell? a=some v:=by rw[World.cell?_of_block (h.block _ (wP b) hm)];exact b
def gn (M:a6):an->Prop
 |some a=>¬ M a.block
 |none=>True
theorem bh.aC {M:a6}{w w':aj}(h:ao M w w'){a:an}{xs:au}(d:bh w a xs)(hm:xs=[]\/gn M a):bh w' a xs:=by
 rcases d with rfl | ⟨b,o,rfl,c⟩
 ·exact .inl rfl
 ·rcases hm with rfl | hm
  ·exact .inl rfl
  ·exact .inr ⟨b,o,rfl,λj u hu=>jG h (c j u hu) hm⟩
theorem bh.new {w w':aj}(h:ai w w'){a:an}{xs:au}(b:bh w a xs):bh w' a xs:=by
 refine b.aC h ?_;cases a with
 |none=>exact .inr trivial
 |some a=>exact .inr id
theorem bh.nil (w:aj)(a:an):bh w a []:=.inl rfl
theorem bh.lt {w:aj}{a:aw}{xs:au}(d:bh w (some a) xs)(e:xs≠[]):a.block<w.heap.size:=by
 rcases d with rfl | ⟨b,o,he,c⟩
 ·grind
 ·cases xs with
  |nil=>grind
  |cons v vs=>
   have:=wP (c 0 v rfl)
   grind
theorem e6 {w:aj}{b:Nat}{cs xs:au}{T:bU}(h:aq w b cs T){o:Nat}(a:(cs.drop o).take xs.length=xs):bh w (some ⟨b,o,none⟩) xs:=by
 refine .inr ⟨b,o,rfl,λj u hu=>h.cell ?_⟩
 grind
theorem bh.take {w:aj}{a:an}{xs:au}(h:bh w a xs)(n:Nat):bh w a (xs.take n):=by
 rcases h with rfl | ⟨b,o,rfl,c⟩
 ·simp;exact .inl rfl
 ·refine .inr ⟨b,o,rfl,λj u hu=>?_⟩
  grind
theorem bh.drop {w:aj}{b o:Nat}{xs:au}(h:bh w (some ⟨b,o,none⟩) xs)(n:Nat):bh w (some ⟨b,o+n,none⟩) (xs.drop n):=by
 rcases h with rfl | ⟨b',c,he,a⟩
 ·simp;exact .inl rfl
 ·simp only[hA,Addr.mk.injEq,and_true]at he;obtain⟨rfl,rfl⟩:=he;refine .inr ⟨b,o+n,rfl,λj u hu=>?_⟩
  grind
theorem bh.cell {w:aj}{b o:Nat}{xs:au}(h:bh w (some ⟨b,o,none⟩) xs){j:Nat}{u:bl}(hu:xs[j]?=some u):w.cell? ⟨b,o+j,none⟩=some u:=by
 rcases h with rfl | ⟨b',c,he,a⟩
 ·grind
 grind
def aZ (w:aj)(e sz:Nat)(a:an)(n cap:Nat)(xs:au):Prop:=
 xs.length=n*sz/\((a=none/\n=0/\cap=0)\/∃ g cur,a=some ⟨g,0,none⟩/\aq w g cur e/\n<=cap/\cap<=maxLen/\cur.length=cap*sz/\cur.take (n*sz)=xs)
def aP (a:an)(k:Nat):Prop:=∃ o,a=some ⟨k,o,none⟩
theorem aZ.nil (w:aj)(e sz:Nat):aZ w e sz none 0 0 []:=⟨by simp,.inl ⟨rfl,rfl,rfl⟩⟩
theorem aZ.aC {M:a6}{w w':aj}(h:ao M w w'){e sz n cap:Nat}{a:an}{xs:au}(b:aZ w e sz a n cap xs)(hm:∀ k,aP a k->¬ M k):aZ w' e sz a n cap xs:=by
 refine⟨b.1,?_⟩;rcases b.2 with d | ⟨g,cur,rfl,c,rest⟩
 ·grind
 ·exact .inr ⟨g,cur,rfl,h.ak c (hm g ⟨0,rfl⟩),rest⟩
theorem aZ.new {w w':aj}(h:ai w w'){e sz n cap:Nat}{a:an}{xs:au}(b:aZ w e sz a n cap xs):aZ w' e sz a n cap xs:=b.aC h λ_ _=>id
theorem aZ.rd {w:aj}{e sz n cap:Nat}{a:an}{xs:au}(b:aZ w e sz a n cap xs):bh w a xs:=by
 rcases b.2 with⟨_,d,_⟩ | ⟨g,cur,rfl,c,_,_,_,f⟩
 ·refine .inl (hh ?_);rw[b.1,d];simp
 ·refine e6 c ?_
  grind
theorem aZ.lt {w:aj}{e sz n cap:Nat}{a:an}{xs:au}(d:aZ w e sz a n cap xs){k:Nat}(c:aP a k):k<w.heap.size:=by
 obtain⟨o,rfl⟩:=c;rcases d.2 with⟨h,_⟩ | ⟨g,cur,he,b,_⟩
 ·cases h
 ·simp at he;rw[he.1];exact b.lt
theorem aZ.le {w:aj}{e sz n cap:Nat}{a:an}{xs:au}(b:aZ w e sz a n cap xs):n<=cap:=by
 rcases b.2 with⟨_,d,c⟩ | ⟨g,cur,_,_,h,_⟩
 ·omega
 grind
theorem Jx {v:bl}(h:single v=true):v.oneCell'=true:=by cases v<;>simp[single]at h<;>rfl
theorem aZ.append {P:c7}{w:aj}{t ty e:bU}{i:TypeInfo}{z:bl}(l:P.underlying t=some (.slice e))(h:P.info? e=some i)(ax:i.zero=some z)(H:z.cells.size=i.size)(V:0<i.size)
  {a:an} {n cap:Nat} {xs:au} (x:aZ w e i.size a n cap xs) {s:an} {m c:Nat} {news:au} (q:news.length=m*i.size) (U:bh w s news) (M:∀ u ∈ news,single u=true)
  (O:n+m<=140737488355328) (A:(n+m)*i.bytes<=140737488355328) :
  ∃ bS f w',(Builtin.append_ #[t,t] ty #[.slice a n cap,.slice s m c]).run P w=.ok (.slice bS (n+m) f) w'/\aZ w' e i.size bS (n+m) f (xs++news)/\ao (aP a) w w'/\
   (bS=a\/bS=some ⟨w.heap.size,0,none⟩):=by
 have hlen:(xs++news).length=(n+m)*i.size:=by rw[hi,x.1,q,tD]
 have r:n+m<=maxLen:=by simp only[maxLen];omega
 have grown:∀ (old:Nat),old<n+m->
   aZ (w.drew.alloc (.cells (xs.toArray++news.toArray++Builtin.zeroCells z.cells (grownCap w (n+m) old e-(n+m))) e)) e i.size (some ⟨w.heap.size,0,none⟩) (n+m) (grownCap w (n+m) old e) (xs++news):=by
  intro old hold;have E:=grownCap_ge w (n+m) old e;refine⟨hlen,.inr ⟨w.heap.size,xs++news++(Builtin.zeroCells z.cells (grownCap w (n+m) old e-(n+m))).toList,rfl,?_,E,grownCap_le_maxLen w (n+m) old e r,?_,?_⟩⟩
  ·have I:=pR w.drew (xs++news++(Builtin.zeroCells z.cells (grownCap w (n+m) old e - (n+m))).toList) e;have N:(xs++news++(Builtin.zeroCells z.cells (grownCap w (n+m) old e - (n+m))).toList).toArray=xs.toArray++news.toArray++Builtin.zeroCells z.cells (grownCap w (n+m) old e - (n+m)):=by
    grind
   rw[N]at I;exact I
  ·rw[hi,hlen,Array.length_toList,size_zeroCells,H,<-tD]
   grind
  grind
 have L:∀ o,ao (aP a) w (w.drew.alloc o):=λo=>ao.b7 ((cC w).alloc o)
 by_cases hm:m=0
 ·subst hm;have R:news=[]:=hh (by grind);subst R;refine⟨a,cap,w,?_,by grind,ao.refl _ _,.inl rfl⟩;have hle:=x.le;have K:n+0<=cap:=by omega
  cases a with
  |none=>
   cases s with
   |none=>simp[Builtin.append_,run_underlying l,sizeOf,typeInfo,h,Builtin.lenOf,hle,Builtin.firstCells]
   |some s=>simp[Builtin.append_,run_underlying l,sizeOf,typeInfo,h,Builtin.lenOf,hle,Builtin.firstCells,loadCells,loadCellsFrom]
  |some a=>
   cases s with
   |none=>simp[Builtin.append_,run_underlying l,sizeOf,typeInfo,h,Builtin.lenOf,hle,Builtin.firstCells,storeCells]
   |some s=>simp[Builtin.append_,run_underlying l,sizeOf,typeInfo,h,Builtin.lenOf,hle,Builtin.firstCells,loadCells,loadCellsFrom,storeCells]
 ·have T:news≠[]:=by
   grind[Nat.mul_eq_zero]
  rcases U with X | ⟨sb,so,rfl,B⟩
  ·grind
  have b:∀ j u,news[j]?=some u->w.cell? ((⟨sb,so,none⟩:aw).add j)=some u:=λj u hu=>by rw[lq];grind
  have y:∀ u ∈ news,u.oneCell'=true:=λu hu=>Jx (M u hu)
  rcases x.2 with⟨rfl,rfl,rfl⟩ | ⟨g,cur,rfl,J,S,C,D,G⟩
  ·have W:xs=[]:=hh (by grind);subst W;have F:=run_append_nil (P:=P) w t ty e i z l h ax ⟨sb,so,none⟩ m c news q b (by omega) (by omega) (by grind)
   grind
  ·by_cases d:n+m<=cap
   ·have p:n*i.size+news.length<=cur.toArray.size:=by rw[q,List.size_toArray,D,<-tD];exact rB _ d
    have F:=run_append_room (P:=P) w t ty e i l h g n cap cur.toArray J ⟨sb,so,none⟩ m c news q b y d p;refine⟨_,_,_,F,⟨hlen,.inr ⟨g,_,rfl,setRow_heap w g cur.toArray _ e _ J,d,C,?_,?_⟩⟩,⟨rfl,rfl,rfl,by simp,λk _ Q=>setRow_other w g k _ (λe=>Q ⟨0,by rw[e]⟩)⟩,.inl rfl⟩
    ·grind
    grind
   ·have holds:∀ j u,xs[j]?=some u->w.cell? ((⟨g,0,none⟩:aw).add j)=some u:=λj u hu=>by rw[lq];exact x.rd.cell hu
    have F:=run_append_grow (P:=P) w t ty e i z l h ax ⟨g,0,none⟩ n cap xs x.1 holds ⟨sb,so,none⟩ m c news q b (by omega) (by omega) (growslice_fits (by omega) A)
    grind
theorem bh.row {w:aj}{a:an}{rows:List au}{sz:Nat}(h:bh w a rows.flatten)(d:∀ r ∈ rows,r.length=sz)(ax:0<sz){i:Nat}{r:au}(c:rows[i]?=some r) :
  ∃ b o,a=some ⟨b,o,none⟩/\b6 w ⟨b,o+i*sz,none⟩ 0 r/\∀ k v,r[k]?=some v->w.cell? ⟨b,o+i*sz+k,none⟩=some v:=by
 have l:=d r (cu c);rcases h with h | ⟨b,o,rfl,e⟩
 ·have:=we d c (k:=0) (v:=r[0]) (by grind)
  grind
 ·have key:∀ k v,r[k]?=some v->w.cell? ⟨b,o+i*sz+k,none⟩=some v:=λk v f=>by rw[Nat.add_assoc];exact e _ _ (we d c f)
  exact⟨b,o,rfl,jk λj v g=>by grind,key⟩
theorem oG {cs vs:au}(h:vs.length=cs.length):nW cs 0 vs=vs:=by rw[pS (by omega)];simp[h]
theorem bo {u w1:aj}{b1:Nat}{zs:en}{T:bU}(a:b1=u.heap.size)(hw:w1=u.alloc (.cells zs T)):aq w1 b1 zs.toList T/\ai u w1:=by subst a hw;exact⟨by simpa using pR u zs.toList T,hn _ _⟩
theorem oV {u w1 a:aj}{b:Nat}{cs vs:au}{T:bU}(h:aq w1 b cs T)(d:vs.length=cs.length)(e:ai u w1)(c:u.heap.size<=b)(hw:a=cv w1 ⟨b,0,none⟩ 0 vs):aq a b vs T/\ai u a:=by
 subst hw;refine⟨?_,e.cv (.inr c) _⟩;have:=h.cv (o:=0) (i:=0) (vs:=vs);rw[oG d]at this
 grind
end Go.bd
namespace Go.bd
theorem ek {b:Bool}{A B:Prop}(c:b=true->A)(a:b=false->B):(bif b then A else B):=by
 grind
theorem a5 {p:Prop}[Decidable p]{A B:Prop}(b:p->A)(a:¬ p->B):(bif decide p then A else B):=
 ek (λh=>b (qa h)) (λh=>a (of_decide_eq_false h))
theorem dJ {x y:Int}{A B:Prop}(b:x=y->A)(a:x≠y->B):(bif (x == y)then A else B):=
 ek (λh=>b (by grind)) (λh=>a (by grind))
theorem dw {x y:Int}{A B:Prop}(b:x≠y->A)(a:x=y->B):(bif (x != y)then A else B):=
 ek (λh=>b (by grind)) (λh=>a (by grind))
theorem eu {b:Bool}{A B:Prop}(a:b=false->A)(c:b=true->B):(bif (!b)then A else B):=by
 grind
theorem fq {b:Bool}{A B:Prop}(a:b=true)(h:A):(bif b then A else B):=by grind
theorem dm {b:Bool}{A B:Prop}(a:b=false)(h:B):(bif b then A else B):=by grind
theorem dM {b o len sz:Nat}{n:Int}{K:aw->Prop}(a:0<=n)(c:n<len)(h:K ⟨b,o+n.toNat*sz,none⟩):bk (some ⟨b,o,none⟩) len n sz K:=
 ⟨_,rfl,a,c,by rw[lq];exact h⟩
theorem iY {b o len sz:Nat}{n:Int}{K:aw->Prop}(a:0<=n)(c:n<len)(h:K ⟨b,o+n.toNat*sz,none⟩):gC ⟨b,o,none⟩ len n sz K:=
 ⟨a,c,by rw[lq];exact h⟩
theorem jq {b o len cap sz:Nat}{c d e:Int}{K:an->Nat->a6}(f:0<=c)(g:c<=d)(i:d<=e)(j:e<=cap)(k:len<=cap)
  (h:∀ a,(a=some ⟨b,o+c.toNat*sz,none⟩\/d=c/\a=some ⟨b,o,none⟩)->K a (d.toNat-c.toNat) (e.toNat-c.toNat)):g7 (some ⟨b,o,none⟩) len cap c d e sz K:=by
 refine⟨f,g,i,j,k,h _ ?_⟩;split
 ·grind
 ·refine .inl ?_;simp only[rD,lq]
theorem bq {x:Int}(a:-9223372036854775808<=x)(b:x<9223372036854775808):IntKind.i64.wrap x=x:=by simp only[IntKind.wrap,IntKind.bits,IntKind.signed];grind
theorem jx {x:Int}(a:0<=x)(b:x<18446744073709551616):IntKind.u64.wrap x=x:=by simp only[IntKind.wrap,IntKind.bits,IntKind.signed];grind
end Go.bd
namespace Go.Proofs.YtmkljjbioomepaaGreat
open Go.Proofs.Tryz Go.bd
section
theorem mix:prog.follows .mixedOrders=true:=by kernel_rfl
abbrev a9 (f:FuncId)(args:au)(w:aj)(R:bg):Prop:=Calls prog f args.toArray w λe w'=>∃ v,e=.returned v/\R v w'
theorem a' {f:FuncId}{fn:Func}{args:au}{w:aj}{R:bg}(a:prog.funcs[f]?=some fn)(h:bc prog fn args R w):a9 f args w R:=Nu mix a h
theorem aE {f:FuncId}{args:en}{w:aj}{R:bg}{Q:Ending->aK}(h:Calls prog f args w λe w'=>∃ v,e=.returned v/\R v w')(a:∀ v w',R v w'->Q (.returned v) w'):Calls prog f args w Q:=
 h.mono λe w' ⟨v,he,b⟩=>he▸a v w' b
theorem ft {T:bU}{z:bl}{n m:Nat}(h:(prog.info? T).map (λi=>(i.zero,i.size,i.bytes))=some (some z,n,m)):∃ i,prog.info? T=some i/\i.zero=some z/\i.size=n/\i.bytes=m:=by
 simp_all
end
section
def eb (x:Int):Prop:=-9223372036854775808<=x/\x<9223372036854775808
def ch (x:Int):Prop:=0<=x/\x<18446744073709551616
theorem dk {α:Type}{l:List α}{i:Nat}{x:α}(h:l[i]?=some x):i<l.length:=(rG.1 h).1
def us (l:ba):au:=l.map (Value.int .u64)
def is (l:ba):au:=l.map (Value.int .i64)
theorem ue {l:ba}{i:Nat}{x:Int}(h:l[i]?=some x):(us l)[i]?=some (.int .u64 x):=by grind[us]
theorem ht (l:ba):(us l).length=l.length:=by simp[us]
theorem RQ (l:ba):(is l).length=l.length:=by simp[is]
theorem oJ (l:ba):∀ u ∈ us l,single u=true:=by intro u hu;simp only[us,dD]at hu;obtain⟨x,_,rfl⟩:=hu;rfl
theorem M1 (l:ba):∀ u ∈ is l,single u=true:=by intro u hu;simp only[is,dD]at hu;obtain⟨x,_,rfl⟩:=hu;rfl
theorem dI {u:aj}{b:Nat}{cs vs:au}{T:bU}{K:aK}(a:aq u b cs T)(d:vs.length=cs.length)(e:∀ v ∈ vs,single v=true)(c:∀ w',aq w' b vs T->ao (λk=>k=b) u w'->K w') :
  dT u ⟨b,0,none⟩ 0 vs/\∀ w',w'=cv u ⟨b,0,none⟩ 0 vs->K w':=by
 refine⟨fU a (by omega) e,?_⟩;rintro w' rfl;refine c _ ?_ (hD _ _ _ _ _);have h:=a.cv (o:=0) (i:=0) (vs:=vs);rw[oG d]at h;exact h
theorem dP {u:aj}{zs vs:au}{T:bU}{K:Nat->aK}(n:vs.length=zs.length)(l:∀ v ∈ vs,single v=true)(h:∀ b w',b=u.heap.size->aq w' b vs T->ai u w'->K b w') :
  ∀ b1 w1,b1=u.heap.size->w1=u.alloc (.cells zs.toArray T)->dT w1 ⟨b1,0,none⟩ 0 vs/\∀ g,g=cv w1 ⟨b1,0,none⟩ 0 vs->K b1 g:=by
 rintro b1 w1 a f;obtain⟨ax,j⟩:=bo a f;refine dI ax (by grind) l λw' c d=>h b1 w' a c (j.trans d λk i e=>?_)
 omega
theorem ti {u z b:aj}{a:an}(e:ai u z)(c:ao (aP a) z b)(f:∀ k,aP a k->u.heap.size<=k):ai u b:=
 e.trans c λk d g=>by grind
theorem ei {α:Type}{cells:α->au}{sz:Nat}(f:∀ x,(cells x).length=sz)(c:0<sz){u:aj}{a:an}{l:List α}(h:bh u a (l.map cells).flatten){i:Nat}{x:α}(g:l[i]?=some x){z:Int}(ax:z=i){n:Nat}(e:n=l.length){K:aw->Prop}
  (p:∀ b o,b6 u ⟨b,o,none⟩ 0 (cells x)->(∀ (q:Nat) (v:bl),(cells x)[q]?=some v->u.cell? ⟨b,o+q,none⟩=some v)->K ⟨b,o,none⟩):bk a n z sz K:=by
 subst ax e;have d:=dk g;obtain⟨b,o,rfl,j,k⟩:=h.row (sz:=sz) (λr s=>by grind) c (i:=i) (r:=cells x) (by grind);exact dM (by omega) (by omega) (by grind)
theorem io {α:Type}{cells:α->au}{sz:Nat}(k:∀ x,(cells x).length=sz)(c:0<sz){u:aj}{a:an}{l:List α}(h:bh u a (l.map cells).flatten){i:Nat}{x:α}(p:l[i]?=some x){z:Int}(ax:z=i){n:Nat}(j:n=l.length){K:aw->Prop}
  (f:∀ b o,(∀ y,ai u y->∀ (q:Nat) (v:bl),(cells x)[q]?=some v->y.cell? ⟨b,o+q,none⟩=some v)->K ⟨b,o,none⟩):bk a n z sz K:=by
 subst ax j;have g:=dk p;have d:∀ r ∈ l.map cells,r.length=sz:=λr B=>by grind
 obtain⟨b,o,rfl,w,A⟩:=h.row (sz:=sz) d c (i:=i) (r:=cells x) (by grind);refine dM (by omega) (by omega) ?_;have:=f b (o+i*sz) λy s q v ar=>by
  obtain⟨b',C,e,_,t⟩:=(h.new s).row (sz:=sz) d c (i:=i) (r:=cells x) (by grind)
  grind
 simp_all
theorem kT {x:Int}(a:0<=x)(b:x<18446744073709551616):IntKind.u64.wrap x=x:=by simp only[IntKind.wrap,IntKind.bits,IntKind.signed];grind
theorem Dy (n:Nat):BitVec.ofInt 64 (n:Int)=BitVec.ofNat 64 n:=by
 grind
theorem tS (a b:Nat)(d:a<18446744073709551616)(e:b<18446744073709551616):iA .u64 (a:Int) (b:Int)=((a ||| b:Nat):Int):=by
 have c:a ||| b<2 ^ 64:=Nat.or_lt_two_pow (by omega) (by omega);unfold iA;show IntKind.u64.wrap ((BitVec.ofInt 64 (a:Int) ||| BitVec.ofInt 64 (b:Int)).toNat:Int)=_
 grind[Dy,BitVec.toNat_or,BitVec.toNat_ofNat,Nat.mod_eq_of_lt,kT]
theorem Nv (a b:Nat)(d:a<18446744073709551616)(e:b<18446744073709551616):ee .u64 (a:Int) (b:Int)=((a &&& b:Nat):Int):=by
 have c:a &&& b<2 ^ 64:=Nat.and_lt_two_pow _ (by omega);unfold ee;show IntKind.u64.wrap ((BitVec.ofInt 64 (a:Int) &&& BitVec.ofInt 64 (b:Int)).toNat:Int)=_
 grind[Dy,BitVec.toNat_and,BitVec.toNat_ofNat,Nat.mod_eq_of_lt,kT]
theorem w3 (a b k:Nat)(c:b<2 ^ k):a*2 ^ k ||| b=a*2 ^ k+b:=by rw[Nat.mul_comm,Nat.two_pow_add_eq_or_of_lt c]
theorem nX {u:aj}{b o:Nat}{cs:au}{T:bU}{v:bl}{K:aK}(a:aq u b cs T)(d:o<cs.length)(c:∀ w',aq w' b (cs.set o v) T->ao (λk=>k=b) u w'->K w') :
  (∃ x,u.cell? ⟨b,o,none⟩=some x)/\u.frozen? ⟨b,o,none⟩=false/\∀ w',w'=u.setCell ⟨b,o,none⟩ v->K w':=
 ⟨⟨_,a.cell (bW d)⟩,a.frozen,λw' h=>by subst h;exact c _ (a.setCell v) (eY _ _ _ _)⟩
theorem Nw {P:c7}{f:FuncId}{first captured args xs:en}{w:aj}{R:Ending->aK}(a:iv P f=true)(b:first++args++captured=xs)(h:Calls P f xs w R):l5 P (.func (.func f) first captured) args w R:=by
 unfold l5
 grind
theorem rz {P:c7}{f:FuncId}{first captured args xs:en}{w:aj}{R:Ending->aK}(a:iv P f=true)(b:first++args++captured=xs)(h:Calls P f xs w R):i_ P (.func (.func f) first captured) args w R:=by
 unfold i_
 grind[Nw]
theorem Dz {w:Int}(a:0<=w)(c:w<18446744073709551616)(k:Nat)(b:k<64):ee .u64 w ((2 ^ k-1:Nat):Int)=w % (2 ^ k:Nat):=by
 obtain⟨n,rfl⟩:=qd a;have:2 ^ k<2 ^ 64:=Nat.pow_lt_pow_right (by decide) b
 grind[Nv,Nat.and_two_pow_sub_one_eq_mod]
theorem oN {S e:bU}{i:TypeInfo}{z:bl}(M:prog.underlying S=some (.slice e))(J:prog.info? e=some i)(ax:i.zero=some z)(C:z.cells.size=i.size)(A:0<i.size)
  {u:aj} {a:an} {n cap:Nat} {xs:au} (F:aZ u e i.size a n cap xs) {vs:au} (N:vs.length=i.size) (L:∀ v ∈ vs,single v=true) (H:n<=1000000000) (w:i.bytes<=1000) {K:Nat->an->Nat->Nat->aK}
  (x:∀ b ap d l,b=u.heap.size->aZ l e i.size ap (n+1) d (xs++vs)->ao (aP a) u l->(∀ k,aP ap k->aP a k\/u.heap.size<=k)->K b ap (n+1) d l) :
  ∀ b1 D,b1=u.heap.size->D=u.alloc (.cells vs.toArray e)->∃ (ap:an) (g f:Nat),∃ l,(Builtin.append_ #[S,S] S #[(.slice a n cap),(.slice (some ⟨b1,0,none⟩) 1 1)]).run prog D=.ok (.slice ap g f) l/\K b1 ap g f l:=by
 rintro b1 D E hw;obtain⟨B,p⟩:=bo E hw;have I:(n+1)*i.bytes<=1000000001*1000:=vO (by omega) w;obtain⟨ap,d,G,q,j,y,r⟩:=aZ.append (P:=prog) (t:=S) (ty:=S) M J ax C A (aZ.new p F)
  (s:=some ⟨b1,0,none⟩) (m:=1) (c:=1) (news:=vs) (by omega) (e6 B (by simp)) L (by omega) (by omega)
 refine⟨ap,n+1,d,G,q,x b1 ap d G E j ((ao.b7 p).trans y λ_ _ h=>h) λk x=>?_⟩;rcases r with e | e
 ·grind
 ·obtain⟨o,F⟩:=x
  simp_all
theorem gF {M:a6}{w:aj}{a:an}{xs:au}(h:bh w a xs)(c:∀ k,aP a k->¬ M k):xs=[]\/gn M a:=by
 rcases h with h | ⟨b,o,rfl,_⟩
 ·grind
 ·exact .inr (c b ⟨o,rfl⟩)
theorem aZ.setCell {w:aj}{e sz n cap g:Nat}{xs:au}(h:aZ w e sz (some ⟨g,0,none⟩) n cap xs){i:Nat}(f:i<n*sz)(v:bl):aZ (w.setCell ⟨g,i,none⟩ v) e sz (some ⟨g,0,none⟩) n cap (xs.set i v):=by
 rcases h.2 with⟨a,_⟩ | ⟨d,cur,he,b,hle,c,j,k⟩
 ·cases a
 ·simp only[hA,Addr.mk.injEq,and_true]at he;subst he;refine⟨by simp[h.1],.inr ⟨g,cur.set i v,rfl,b.setCell v,hle,c,by grind,?_⟩⟩
  grind[List.take_set]
end
section
abbrev jp (a:aw):bl:=.pointer (some a)
abbrev a7 (a:aw)(k:Nat):bl:=.pointer (some ⟨a.block,a.off+k,none⟩)
abbrev ab (x:Int):bl:=.int .i64 x
abbrev cd (x:Nat):bl:=.int .i64 x
abbrev ag (x:Int):bl:=.int .u64 x
abbrev ad (x:Bool):bl:=.bool x
abbrev af (a:an)(n c:Nat):bl:=.slice a n c
abbrev a4:bl:=.slice none 0 0
abbrev aB (j:au)(n:Nat):bl:=j.getD n undef
abbrev al:=au
abbrev bH:=Exit->al->aK
abbrev ah (b k:Nat):aw:=⟨b,k,none⟩
abbrev br (a:aw)(k:Nat):aw:=⟨a.block,a.off+k,none⟩
abbrev bs (b:Nat):an:=some ⟨b,0,none⟩
abbrev bb (b:Nat):bl:=.pointer (some ⟨b,0,none⟩)
abbrev aS (f:Func)(p:cV)(R:bg):Exit->au->aK:=aM (λenv w=>W prog (sub (ay f) p) env (cS prog f R) w) (cS prog f R)
abbrev sb (f:Func)(p:cV):Code:=sub (ay f) p
abbrev cN (f:Func)(p:cV):Code:=.loop (sub (ay f) p)
abbrev bV (f:Func)(R:bg):Exit->au->aK:=cS prog f R
abbrev aR (w:aj)(l:en)(T:bU)(K:Nat->aK):Prop:=∀ b w1,b=w.heap.size->w1=w.alloc (.cells l T)->K b w1
abbrev ck (w:aj)(K:aj->(aK)->Prop):Prop:=∀ w1,w1=w.drew->∃ S:aK,S w1/\K w1 S
abbrev cM (w:aj)(a:aw)(v:bl)(K:aK):Prop:=(∃ u,w.cell? a=some u)/\w.frozen? a=false/\∀ w1,w1=w.setCell a v->K w1
abbrev a8 (w:aj)(a:aw)(n:Nat)(l:au)(K:aK):Prop:=dT w a n l/\∀ w1,w1=cv w a n l->K w1
abbrev da (T:bU)(x y:bl)(w:aj)(K:an->Nat->Nat->aK):Prop:=∃ (a:an) (n c:Nat),∃ w1,(Builtin.append_ #[T,T] T #[x,y]).run prog w=.ok (.slice a n c) w1/\K a n c w1
end
section
structure bR where
 Code:Int
 Words:an
 dd:Nat
 c0:Nat
def bR.cells (r:bR):au:=[.int .i64 r.Code,.slice r.Words r.dd r.c0]
def bR.val (r:bR):bl:=.agg r.cells.toArray
def bR.ex (K:bR->Prop):Prop:=∃ (d:Int) (c:an) (b:Nat) (a:Nat),K ⟨d,c,b,a⟩
theorem bR.aT {K:bR->Prop}(r:bR)(h:K r):bR.ex K:=⟨_,_,_,_,h⟩
theorem bR.len (r:bR):r.cells.length=2:=rfl
theorem bR.single (r:bR):∀ u ∈ r.cells,single u=true:=by intro u hu;simp only[bR.cells,gw,kS,or_false]at hu;rcases hu with rfl | rfl<;>rfl
structure aI where
 Kind:Int
 Node:Int
 cI:Int
 N:Int
 Old:Int
 ai:Int
 Words:an
 dd:Nat
 c0:Nat
 Key:Int
 cB:Int
def aI.cells (r:aI):au:=[.int .i64 r.Kind,.int .i64 r.Node,.int .i64 r.cI,.int .i64 r.N,.int .u64 r.Old,.int .u64 r.ai,.slice r.Words r.dd r.c0,.int .u64 r.Key,.int .i64 r.cB]
def aI.val (r:aI):bl:=.agg r.cells.toArray
def aI.ex (K:aI->Prop):Prop:=∃ (e:Int) (f:Int) (j:Int) (k:Int) (i:Int) (h:Int) (c:an) (b:Nat) (a:Nat) (g:Int) (d:Int),K ⟨e,f,j,k,i,h,c,b,a,g,d⟩
theorem aI.aT {K:aI->Prop}(r:aI)(h:K r):aI.ex K:=⟨_,_,_,_,_,_,_,_,_,_,_,h⟩
theorem aI.len (r:aI):r.cells.length=9:=rfl
theorem aI.single (r:aI):∀ u ∈ r.cells,single u=true:=by intro u hu;simp only[aI.cells,gw,kS,or_false]at hu;rcases hu with rfl | rfl | rfl | rfl | rfl | rfl | rfl | rfl | rfl<;>rfl
structure oF where
 uF:Int
def oF.cells (r:oF):au:=[.int .i64 r.uF]
def oF.val (r:oF):bl:=.agg r.cells.toArray
def oF.ex (K:oF->Prop):Prop:=∃ (a:Int),K ⟨a⟩
structure oK where
 uF:Int
 Number:Int
 Client:Int
 Round:Int
 ss:Int
def oK.cells (r:oK):au:=[.int .i64 r.uF,.int .i64 r.Number,.int .i64 r.Client,.int .i64 r.Round,.int .u64 r.ss]
def oK.val (r:oK):bl:=.agg r.cells.toArray
def oK.ex (K:oK->Prop):Prop:=∃ (c:Int) (b:Int) (a:Int) (d:Int) (e:Int),K ⟨c,b,a,d,e⟩
structure c1 where
 Number:Int
 fr:an
 e_:Nat
 fS:Nat
def c1.cells (r:c1):au:=[.int .i64 r.Number,.slice r.fr r.e_ r.fS]
def c1.val (r:c1):bl:=.agg r.cells.toArray
def c1.ex (K:c1->Prop):Prop:=∃ (d:Int) (c:an) (b:Nat) (a:Nat),K ⟨d,c,b,a⟩
theorem c1.aT {K:c1->Prop}(r:c1)(h:K r):c1.ex K:=⟨_,_,_,_,h⟩
theorem c1.single (r:c1):∀ u ∈ r.cells,single u=true:=by intro u hu;simp only[c1.cells,gw,kS,or_false]at hu;rcases hu with rfl | rfl<;>rfl
structure cE where
 Client:Int
 Seq:Int
 et:Int
 View:c1
 Reads:an
 k3:Nat
 po:Nat
 de:an
 dj:Nat
 fG:Nat
def cE.cells (r:cE):au:=[.int .i64 r.Client,.int .i64 r.Seq,.int .i64 r.et,.int .i64 r.View.Number,.slice r.View.fr r.View.e_ r.View.fS,.slice r.Reads r.k3 r.po,.slice r.de r.dj r.fG]
def cE.val (r:cE):bl:=.agg r.cells.toArray
def cE.ex (K:cE->Prop):Prop:=∃ (i:Int) (n:Int) (k:Int) (d:Int) (c:an) (b:Nat) (a:Nat) (l:an) (h:Nat) (g:Nat) (j:an) (f:Nat) (e:Nat),K ⟨i,n,k,⟨d,c,b,a⟩,l,h,g,j,f,e⟩
theorem cE.aT {K:cE->Prop}(r:cE)(h:K r):cE.ex K:=⟨_,_,_,_,_,_,_,_,_,_,_,_,_,h⟩
theorem cE.single (r:cE):∀ u ∈ r.cells,single u=true:=by intro u hu;simp only[cE.cells,gw,kS,or_false]at hu;rcases hu with rfl | rfl | rfl | rfl | rfl | rfl | rfl<;>rfl
structure c3 where
 Client:Int
 ia:Int
 et:Int
 View:c1
 eX:Int
 fR:Int
 hU:Int
def c3.cells (r:c3):au:=[.int .i64 r.Client,.int .i64 r.ia,.int .i64 r.et,.int .i64 r.View.Number,.slice r.View.fr r.View.e_ r.View.fS,.int .i64 r.eX,.int .i64 r.fR,.int .u64 r.hU]
def c3.val (r:c3):bl:=.agg r.cells.toArray
def c3.ex (K:c3->Prop):Prop:=∃ (e:Int) (j:Int) (f:Int) (d:Int) (c:an) (b:Nat) (a:Nat) (g:Int) (h:Int) (i:Int),K ⟨e,j,f,⟨d,c,b,a⟩,g,h,i⟩
theorem c3.aT {K:c3->Prop}(r:c3)(h:K r):c3.ex K:=⟨_,_,_,_,_,_,_,_,_,_,h⟩
structure cr where
 Kind:Int
 Client:Int
 Ko:oF
 uH:oK
 iQ:cE
 Recover:c3
 Af:an
 wS:Nat
 Ah:Nat
 lL:Bool
 wx:Bool
 Code:Int
 View:c1
 Status:Int
 Doors:an
 z2:Nat
 t_:Nat
 ss:Int
 qp:Int
 k4:Int
 Seq:Int
 k2:Int
def cr.cells (r:cr):au:=[.int .i64 r.Kind,.int .i64 r.Client,.int .i64 r.Ko.uF,.int .i64 r.uH.uF,.int .i64 r.uH.Number,.int .i64 r.uH.Client,.int .i64 r.uH.Round,.int .u64 r.uH.ss,.int .i64 r.iQ.Client,.int .i64 r.iQ.Seq,.int .i64 r.iQ.et,.int .i64 r.iQ.View.Number,.slice r.iQ.View.fr r.iQ.View.e_ r.iQ.View.fS,.slice r.iQ.Reads r.iQ.k3 r.iQ.po,.slice r.iQ.de r.iQ.dj r.iQ.fG,.int .i64 r.Recover.Client,.int .i64 r.Recover.ia,.int .i64 r.Recover.et,.int .i64 r.Recover.View.Number,.slice r.Recover.View.fr r.Recover.View.e_ r.Recover.View.fS,.int .i64 r.Recover.eX,.int .i64 r.Recover.fR,.int .u64 r.Recover.hU,.slice r.Af r.wS r.Ah,.bool r.lL,.bool r.wx,.int .i64 r.Code,.int .i64 r.View.Number,.slice r.View.fr r.View.e_ r.View.fS,.int .i64 r.Status,.slice r.Doors r.z2 r.t_,.int .u64 r.ss,.int .i64 r.qp,.int .i64 r.k4,.int .i64 r.Seq,.int .i64 r.k2]
def cr.val (r:cr):bl:=.agg r.cells.toArray
def cr.ex (K:cr->Prop):Prop:=∃ (V:Int) (O:Int) (n:Int) (D:Int) (y:Int) (x:Int) (E:Int) (I:Int) (r:Int) (H:Int) (u:Int) (h:Int) (f:an) (d:Nat) (c:Nat) (w:an) (l:Nat) (k:Nat) (s:an) (j:Nat) (i:Nat) (o:Int) (F:Int) (t:Int) (g:Int) (e:an) (b:Nat) (a:Nat) (z:Int) (A:Int) (B:Int) (Y:an) (S:Nat) (R:Nat) (W:Bool) (X:Bool) (T:Int) (G:Int) (C:an) (q:Nat) (p:Nat) (P:Int) (Q:an) (L:Nat) (J:Nat) (ab:Int) (U:Int) (N:Int) (Z:Int) (M:Int),K ⟨V,O,⟨n⟩,⟨D,y,x,E,I⟩,⟨r,H,u,⟨h,f,d,c⟩,w,l,k,s,j,i⟩,⟨o,F,t,⟨g,e,b,a⟩,z,A,B⟩,Y,S,R,W,X,T,⟨G,C,q,p⟩,P,Q,L,J,ab,U,N,Z,M⟩
theorem cr.aT {K:cr->Prop}(r:cr)(h:K r):cr.ex K:=⟨_,_,_,_,_,_,_,_,_,_,_,_,_,_,_,_,_,_,_,_,_,_,_,_,_,_,_,_,_,_,_,_,_,_,_,_,_,_,_,_,_,_,_,_,_,_,_,_,_,_,h⟩
theorem cr.len (r:cr):r.cells.length=36:=rfl
theorem cr.single (r:cr):∀ u ∈ r.cells,single u=true:=by intro u hu;simp only[cr.cells,gw,kS,or_false]at hu;rcases hu with rfl | rfl | rfl | rfl | rfl | rfl | rfl | rfl | rfl | rfl | rfl | rfl | rfl | rfl | rfl | rfl | rfl | rfl | rfl | rfl | rfl | rfl | rfl | rfl | rfl | rfl | rfl | rfl | rfl | rfl | rfl | rfl | rfl | rfl | rfl | rfl<;>rfl
structure aD where
 bw:Int
 Head:Int
 qo:Int
 tU:Int
 tV:Int
 tW:Int
 tX:Int
 tY:Int
 tZ:Int
def aD.cells (r:aD):au:=[.int .i64 r.bw,.int .u64 r.Head,.int .u64 r.qo,.int .u64 r.tU,.int .u64 r.tV,.int .u64 r.tW,.int .u64 r.tX,.int .u64 r.tY,.int .u64 r.tZ]
def aD.val (r:aD):bl:=.agg r.cells.toArray
def aD.ex (K:aD->Prop):Prop:=∃ (i:Int) (h:Int) (a:Int) (b:Int) (c:Int) (d:Int) (e:Int) (f:Int) (g:Int),K ⟨i,h,a,b,c,d,e,f,g⟩
theorem aD.aT {K:aD->Prop}(r:aD)(h:K r):aD.ex K:=⟨_,_,_,_,_,_,_,_,_,h⟩
theorem aD.len (r:aD):r.cells.length=9:=rfl
theorem aD.single (r:aD):∀ u ∈ r.cells,single u=true:=by intro u hu;simp only[aD.cells,gw,kS,or_false]at hu;rcases hu with rfl | rfl | rfl | rfl | rfl | rfl | rfl | rfl | rfl<;>rfl
structure pH where
 cI:Int
 Kind:Int
 A:Int
def pH.cells (r:pH):au:=[.int .i64 r.cI,.int .i64 r.Kind,.int .i64 r.A]
def pH.val (r:pH):bl:=.agg r.cells.toArray
def pH.ex (K:pH->Prop):Prop:=∃ (b:Int) (a:Int) (c:Int),K ⟨b,a,c⟩
structure aU where
 Node:Int
 cB:Int
 Full:Bool
def aU.cells (r:aU):au:=[.int .i64 r.Node,.int .i64 r.cB,.bool r.Full]
def aU.val (r:aU):bl:=.agg r.cells.toArray
def aU.ex (K:aU->Prop):Prop:=∃ (c:Int) (a:Int) (b:Bool),K ⟨c,a,b⟩
theorem aU.aT {K:aU->Prop}(r:aU)(h:K r):aU.ex K:=⟨_,_,_,h⟩
theorem aU.len (r:aU):r.cells.length=3:=rfl
theorem aU.single (r:aU):∀ u ∈ r.cells,single u=true:=by intro u hu;simp only[aU.cells,gw,kS,or_false]at hu;rcases hu with rfl | rfl | rfl<;>rfl
structure cX where
 Seq:Int
 de:an
 dj:Nat
 fG:Nat
def cX.cells (r:cX):au:=[.int .i64 r.Seq,.slice r.de r.dj r.fG]
def cX.val (r:cX):bl:=.agg r.cells.toArray
def cX.ex (K:cX->Prop):Prop:=∃ (d:Int) (c:an) (b:Nat) (a:Nat),K ⟨d,c,b,a⟩
theorem cX.aT {K:cX->Prop}(r:cX)(h:K r):cX.ex K:=⟨_,_,_,_,h⟩
theorem cX.single (r:cX):∀ u ∈ r.cells,single u=true:=by intro u hu;simp only[cX.cells,gw,kS,or_false]at hu;rcases hu with rfl | rfl<;>rfl
structure q1 where
 Code:Int
 Number:Int
 View:c1
 Status:Int
 Pt:Bool
 Hint:Int
 J4:an
 J6:Nat
 J5:Nat
 Keys:an
 MP:Nat
 MO:Nat
 Doors:an
 z2:Nat
 t_:Nat
def q1.cells (r:q1):au:=[.int .i64 r.Code,.int .i64 r.Number,.int .i64 r.View.Number,.slice r.View.fr r.View.e_ r.View.fS,.int .i64 r.Status,.bool r.Pt,.int .u64 r.Hint,.slice r.J4 r.J6 r.J5,.slice r.Keys r.MP r.MO,.slice r.Doors r.z2 r.t_]
def q1.val (r:q1):bl:=.agg r.cells.toArray
def q1.ex (K:q1->Prop):Prop:=∃ (q:Int) (k:Int) (d:Int) (c:an) (b:Nat) (a:Nat) (n:Int) (l:Bool) (r:Int) (o:an) (f:Nat) (e:Nat) (s:an) (j:Nat) (i:Nat) (p:an) (h:Nat) (g:Nat),K ⟨q,k,⟨d,c,b,a⟩,n,l,r,o,f,e,s,j,i,p,h,g⟩
structure q2 where
 Code:Int
 ss:Int
 Round:Int
def q2.cells (r:q2):au:=[.int .i64 r.Code,.int .u64 r.ss,.int .i64 r.Round]
def q2.val (r:q2):bl:=.agg r.cells.toArray
def q2.ex (K:q2->Prop):Prop:=∃ (b:Int) (c:Int) (a:Int),K ⟨b,c,a⟩
structure bG where
 Code:Int
 qp:Int
def bG.cells (r:bG):au:=[.int .i64 r.Code,.int .i64 r.qp]
def bG.val (r:bG):bl:=.agg r.cells.toArray
def bG.ex (K:bG->Prop):Prop:=∃ (a:Int) (b:Int),K ⟨a,b⟩
theorem bG.aT {K:bG->Prop}(r:bG)(h:K r):bG.ex K:=⟨_,_,h⟩
theorem bG.single (r:bG):∀ u ∈ r.cells,single u=true:=by intro u hu;simp only[bG.cells,gw,kS,or_false]at hu;rcases hu with rfl | rfl<;>rfl
structure dA where
 Code:Int
 k4:Int
 Seq:Int
 k2:Int
 Ly:Int
def dA.cells (r:dA):au:=[.int .i64 r.Code,.int .i64 r.k4,.int .i64 r.Seq,.int .i64 r.k2,.int .u64 r.Ly]
def dA.val (r:dA):bl:=.agg r.cells.toArray
def dA.ex (K:dA->Prop):Prop:=∃ (d:Int) (b:Int) (e:Int) (a:Int) (c:Int),K ⟨d,b,e,a,c⟩
theorem dA.aT {K:dA->Prop}(r:dA)(h:K r):dA.ex K:=⟨_,_,_,_,_,h⟩
theorem dA.single (r:dA):∀ u ∈ r.cells,single u=true:=by intro u hu;simp only[dA.cells,gw,kS,or_false]at hu;rcases hu with rfl | rfl | rfl | rfl | rfl<;>rfl
structure iC where
 l:ba
def iC.cells (r:iC):au:=r.l.map λx=>.int .u64 x
def iC.val (r:iC):bl:=.agg r.cells.toArray
def iC.ex (K:iC->Prop):Prop:=G7 256 λl=>K ⟨l⟩
theorem iC.aT {K:iC->Prop}(r:iC)(a:r.l.length=256)(h:K r):iC.ex K:=F3 256 r.l a h
structure bX where
 Seq:Int
 de:an
 dj:Nat
 fG:Nat
def bX.cells (r:bX):au:=[.int .i64 r.Seq,.slice r.de r.dj r.fG]
def bX.val (r:bX):bl:=.agg r.cells.toArray
def bX.ex (K:bX->Prop):Prop:=∃ (d:Int) (c:an) (b:Nat) (a:Nat),K ⟨d,c,b,a⟩
theorem bX.aT {K:bX->Prop}(r:bX)(h:K r):bX.ex K:=⟨_,_,_,_,h⟩
theorem bX.single (r:bX):∀ u ∈ r.cells,single u=true:=by intro u hu;simp only[bX.cells,gw,kS,or_false]at hu;rcases hu with rfl | rfl<;>rfl
structure eK where
 bw:Int
 Head:Int
def eK.cells (r:eK):au:=[.int .i64 r.bw,.int .u64 r.Head]
def eK.val (r:eK):bl:=.agg r.cells.toArray
def eK.ex (K:eK->Prop):Prop:=∃ (b:Int) (a:Int),K ⟨b,a⟩
theorem eK.aT {K:eK->Prop}(r:eK)(h:K r):eK.ex K:=⟨_,_,h⟩
theorem eK.len (r:eK):r.cells.length=2:=rfl
theorem eK.single (r:eK):∀ u ∈ r.cells,single u=true:=by intro u hu;simp only[eK.cells,gw,kS,or_false]at hu;rcases hu with rfl | rfl<;>rfl
structure dq where
 a3:Int
 least:Int
 exact:Bool
def dq.cells (r:dq):au:=[.int .i64 r.a3,.int .u64 r.least,.bool r.exact]
def dq.val (r:dq):bl:=.agg r.cells.toArray
def dq.ex (K:dq->Prop):Prop:=∃ (a:Int) (c:Int) (b:Bool),K ⟨a,c,b⟩
theorem dq.aT {K:dq->Prop}(r:dq)(h:K r):dq.ex K:=⟨_,_,_,h⟩
theorem dq.len (r:dq):r.cells.length=3:=rfl
theorem dq.single (r:dq):∀ u ∈ r.cells,single u=true:=by intro u hu;simp only[dq.cells,gw,kS,or_false]at hu;rcases hu with rfl | rfl | rfl<;>rfl
abbrev lY (n:Nat)(l:en)(w:aj)(K:an->aK):Prop:=Calls prog n l w λe w1=>∃ (v0:an),e=.returned (.pointer v0)/\K v0 w1
abbrev rf (n:Nat)(l:en)(w:aj)(K:an->Nat->Nat->Int->aK):Prop:=Calls prog n l w λe w1=>∃ (v0:an) (v1:Nat) (v2:Nat) (a:Int),e=.returned (.tuple #[.slice v0 v1 v2,.int .i64 a])/\K v0 v1 v2 a w1
abbrev dp (w:aj)(a:aw)(K:Int->Prop):Prop:=∃ (v0:Int),w.cell? a=some (.int .u64 v0)/\K v0
abbrev BZ (n:Nat)(l:en)(w:aj)(K:an->Int->aK):Prop:=Calls prog n l w λe w1=>∃ (v0:an) (v1:Int),e=.returned (.tuple #[.pointer v0,.int .i64 v1])/\K v0 v1 w1
abbrev cx (n:Nat)(l:en)(w:aj)(K:Int->aK):Prop:=Calls prog n l w λe w1=>∃ (v0:Int),e=.returned (.int .i64 v0)/\K v0 w1
abbrev bN (w:aj)(a:aw)(K:Int->Prop):Prop:=∃ (v0:Int),w.cell? a=some (.int .i64 v0)/\K v0
abbrev c6 (n:Nat)(l:en)(w:aj)(K:Bool->aK):Prop:=Calls prog n l w λe w1=>∃ (v0:Bool),e=.returned (.bool v0)/\K v0 w1
abbrev cA (S:aK)(a:aw)(K:Int->Prop):Prop:=∃ (v0:Int),(∀ u,S u->u.cell? a=some (.int .i64 v0))/\K v0
abbrev vy (n:Nat)(l:en)(w:aj)(K:aK):Prop:=Calls prog n l w λe w1=>e=.returned (.tuple #[])/\K  w1
abbrev eV (n:Nat)(l:en)(w:aj)(K:an->Nat->Nat->aK):Prop:=Calls prog n l w λe w1=>∃ (v0:an) (v1:Nat) (v2:Nat),e=.returned (.slice v0 v1 v2)/\K v0 v1 v2 w1
abbrev Ii (w:aj)(a:aw)(K:Int->Int->Int->Prop):Prop:=∃ (v0:Int) (v1:Int) (v2:Int),b6 w a 0 [.int .i64 v0,.int .i64 v1,.int .i64 v2]/\K v0 v1 v2
abbrev bY (w:aj)(a:aw)(K:an->Nat->a6):Prop:=∃ (v0:an) (v1:Nat) (v2:Nat),w.cell? a=some (.slice v0 v1 v2)/\K v0 v1 v2
abbrev dS (S:aK)(a:aw)(K:an->Nat->a6):Prop:=∃ (v0:an) (v1:Nat) (v2:Nat),(∀ u,S u->u.cell? a=some (.slice v0 v1 v2))/\K v0 v1 v2
abbrev js (w:aj)(a:aw)(K:Bool->Prop):Prop:=∃ (v0:Bool),w.cell? a=some (.bool v0)/\K v0
abbrev iJ (n:Nat)(l:en)(w:aj)(K:Int->aK):Prop:=Calls prog n l w λe w1=>∃ (v0:Int),e=.returned (.int .u64 v0)/\K v0 w1
abbrev vx (w:aj)(a:aw)(K:Int->an->Nat->a6):Prop:=∃ (v0:Int) (v1:an) (v2:Nat) (b:Nat),b6 w a 0 [.int .i64 v0,.slice v1 v2 b]/\K v0 v1 v2 b
abbrev jt (w:aj)(a:aw)(K:Int->Int->Int->Int->Int->Int->an->Nat->Nat->Int->Int->Prop):Prop:=∃ (v0:Int) (v1:Int) (v2:Int) (b:Int) (v4:Int) (c:Int) (v6:an) (d:Nat) (e:Nat) (f:Int) (v10:Int),b6 w a 0 [.int .i64 v0,.int .i64 v1,.int .i64 v2,.int .i64 b,.int .u64 v4,.int .u64 c,.slice v6 d e,.int .u64 f,.int .i64 v10]/\K v0 v1 v2 b v4 c v6 d e f v10
abbrev mK (S:aK)(a:aw)(K:Int->Int->Int->Int->Int->Int->an->Nat->Nat->Int->Int->Prop):Prop:=∃ (v0:Int) (v1:Int) (v2:Int) (b:Int) (v4:Int) (c:Int) (v6:an) (d:Nat) (e:Nat) (f:Int) (v10:Int),(∀ u,S u->b6 u a 0 [.int .i64 v0,.int .i64 v1,.int .i64 v2,.int .i64 b,.int .u64 v4,.int .u64 c,.slice v6 d e,.int .u64 f,.int .i64 v10])/\K v0 v1 v2 b v4 c v6 d e f v10
abbrev Wz (S:aK)(a:aw)(K:Int->Int->Prop):Prop:=∃ (v0:Int) (v1:Int),(∀ u,S u->b6 u a 0 [.int .i64 v0,.int .i64 v1])/\K v0 v1
abbrev g6 (n:Nat)(l:en)(w:aj)(K:Int->Int->aK):Prop:=Calls prog n l w λe w1=>∃ (v0:Int) (v1:Int),e=.returned (.tuple #[.int .u64 v0,.int .i64 v1])/\K v0 v1 w1
abbrev Ij (n:Nat)(l:en)(w:aj)(K:Int->Int->aK):Prop:=Calls prog n l w λe w1=>∃ (v0:Int) (v1:Int),e=.returned (.tuple #[.int .i64 v0,.int .i64 v1])/\K v0 v1 w1
abbrev WA (n:Nat)(l:en)(w:aj)(K:Int->Int->Int->Int->Int->Int->an->Nat->Nat->Int->Int->aK):Prop:=Calls prog n l w λe w1=>∃ (v0:Int) (v1:Int) (v2:Int) (a:Int) (v4:Int) (b:Int) (v6:an) (c:Nat) (d:Nat) (f:Int) (v10:Int),e=.returned (.agg #[.int .i64 v0,.int .i64 v1,.int .i64 v2,.int .i64 a,.int .u64 v4,.int .u64 b,.slice v6 c d,.int .u64 f,.int .i64 v10])/\K v0 v1 v2 a v4 b v6 c d f v10 w1
abbrev BY (S:aK)(a:aw)(K:Int->an->Nat->a6):Prop:=∃ (v0:Int) (v1:an) (v2:Nat) (b:Nat),(∀ u,S u->b6 u a 0 [.int .i64 v0,.slice v1 v2 b])/\K v0 v1 v2 b
abbrev hd (S:aK)(a:aw)(K:Int->Prop):Prop:=∃ (v0:Int),(∀ u,S u->u.cell? a=some (.int .u64 v0))/\K v0
abbrev h4 (n:Nat)(l:en)(w:aj)(K:an->Nat->Nat->Bool->aK):Prop:=Calls prog n l w λe w1=>∃ (v0:an) (v1:Nat) (v2:Nat) (a:Bool),e=.returned (.tuple #[.slice v0 v1 v2,.bool a])/\K v0 v1 v2 a w1
abbrev mL (w:aj)(a:aw)(K:an->Prop):Prop:=∃ (v0:an),w.cell? a=some (.pointer v0)/\K v0
abbrev Iq (w:aj)(a:aw)(K:Int->Prop):Prop:=∃ (v0:Int),w.cell? a=some (.int .u8 v0)/\K v0
abbrev Ir (w:aj)(a:aw)(K:an->an->Nat->a6):Prop:=∃ (v0:an) (v1:an) (v2:Nat) (b:Nat),b6 w a 0 [.pointer v0,.slice v1 v2 b]/\K v0 v1 v2 b
abbrev s9 (S:aK)(a:aw)(K:an->Prop):Prop:=∃ (v0:an),(∀ u,S u->u.cell? a=some (.pointer v0))/\K v0
abbrev WG (w:aj)(a:aw)(K:Bool->Int->an->Nat->Nat->an->Nat->Nat->Int->Int->Int->Prop):Prop:=∃ (v0:Bool) (v1:Int) (v2:an) (b:Nat) (v4:Nat) (c:an) (v6:Nat) (d:Nat) (e:Int) (f:Int) (v10:Int),b6 w a 0 [.bool v0,.int .i64 v1,.slice v2 b v4,.slice c v6 d,.int .i64 e,.int .i64 f,.int .i64 v10]/\K v0 v1 v2 b v4 c v6 d e f v10
abbrev B2 (n:Nat)(l:en)(w:aj)(K:Int->an->Nat->Nat->Bool->aK):Prop:=Calls prog n l w λe w1=>∃ (v0:Int) (v1:an) (v2:Nat) (a:Nat) (v4:Bool),e=.returned (.tuple #[.agg #[.int .i64 v0,.slice v1 v2 a],.bool v4])/\K v0 v1 v2 a v4 w1
abbrev Is (n:Nat)(l:en)(w:aj)(K:an->Bool->aK):Prop:=Calls prog n l w λe w1=>∃ (v0:an) (v1:Bool),e=.returned (.tuple #[.pointer v0,.bool v1])/\K v0 v1 w1
abbrev WH (n:Nat)(l:en)(w:aj)(K:bg):Prop:=Calls prog n l w λe w1=>∃ (v0:bl),e=.returned v0/\K v0 w1
abbrev B3 (n:Nat)(l:en)(w:aj)(K:Int->Int->Bool->aK):Prop:=Calls prog n l w λe w1=>∃ (v0:Int) (v1:Int) (v2:Bool),e=.returned (.tuple #[.int .i64 v0,.int .i64 v1,.bool v2])/\K v0 v1 v2 w1
abbrev WL (n:Nat)(l:en)(w:aj)(K:Int->Bool->aK):Prop:=Calls prog n l w λe w1=>∃ (v0:Int) (v1:Bool),e=.returned (.tuple #[.int .i64 v0,.bool v1])/\K v0 v1 w1
abbrev WM (n:Nat)(l:en)(w:aj)(K:Int->Bool->aK):Prop:=Calls prog n l w λe w1=>∃ (v0:Int) (v1:Bool),e=.returned (.tuple #[.int .u64 v0,.bool v1])/\K v0 v1 w1
abbrev lZ (w:aj)(a:aw)(K:aI->Prop):Prop:=aI.ex λr=>b6 w a 0 r.cells/\K r
abbrev pU (w:aj)(a:aw)(K:bR->Prop):Prop:=bR.ex λr=>b6 w a 0 r.cells/\K r
abbrev rh (X:aK)(a:aw)(K:aD->Prop):Prop:=aD.ex λr=>(∀ u,X u->b6 u a 0 r.cells)/\K r
abbrev WB (w:aj)(a:aw)(K:pH->Prop):Prop:=pH.ex λr=>b6 w a 0 r.cells/\K r
abbrev eN (w:aj)(a:aw)(K:cr->Prop):Prop:=cr.ex λr=>b6 w a 0 r.cells/\K r
abbrev pV (n:Nat)(l:en)(w:aj)(K:cr->aK):Prop:=Calls prog n l w λe w1=>cr.ex λr=>e=.returned r.val/\K r w1
abbrev WC (w:aj)(a:aw)(K:oF->Prop):Prop:=oF.ex λr=>b6 w a 0 r.cells/\K r
abbrev B0 (X:aK)(a:aw)(K:c1->Prop):Prop:=c1.ex λr=>(∀ u,X u->b6 u a 0 r.cells)/\K r
abbrev s6 (X:aK)(a:aw)(K:cr->Prop):Prop:=cr.ex λr=>(∀ u,X u->b6 u a 0 r.cells)/\K r
abbrev WD (w:aj)(a:aw)(K:oK->Prop):Prop:=oK.ex λr=>b6 w a 0 r.cells/\K r
abbrev s7 (w:aj)(a:aw)(K:cE->Prop):Prop:=cE.ex λr=>b6 w a 0 r.cells/\K r
abbrev Ik (w:aj)(a:aw)(K:c3->Prop):Prop:=c3.ex λr=>b6 w a 0 r.cells/\K r
abbrev hf (X:aK)(a:aw)(K:aU->Prop):Prop:=aU.ex λr=>(∀ u,X u->b6 u a 0 r.cells)/\K r
abbrev Il (X:aK)(a:aw)(K:aI->Prop):Prop:=aI.ex λr=>(∀ u,X u->b6 u a 0 r.cells)/\K r
abbrev eH (n:Nat)(l:en)(w:aj)(K:aI->aK):Prop:=Calls prog n l w λe w1=>aI.ex λr=>e=.returned r.val/\K r w1
abbrev dW (w:aj)(a:aw)(K:bG->Prop):Prop:=bG.ex λr=>b6 w a 0 r.cells/\K r
abbrev hJ (w:aj)(a:aw)(K:aD->Prop):Prop:=aD.ex λr=>b6 w a 0 r.cells/\K r
abbrev iq (w:aj)(a:aw)(K:aU->Prop):Prop:=aU.ex λr=>b6 w a 0 r.cells/\K r
abbrev pW (X:aK)(a:aw)(K:cE->Prop):Prop:=cE.ex λr=>(∀ u,X u->b6 u a 0 r.cells)/\K r
abbrev Im (n:Nat)(l:en)(w:aj)(K:bX->aK):Prop:=Calls prog n l w λe w1=>bX.ex λr=>e=.returned r.val/\K r w1
abbrev l0 (w:aj)(a:aw)(K:c1->Prop):Prop:=c1.ex λr=>b6 w a 0 r.cells/\K r
abbrev B1 (w:aj)(a:aw)(K:eK->Prop):Prop:=eK.ex λr=>b6 w a 0 r.cells/\K r
abbrev yS (X:aK)(a:aw)(K:bR->Prop):Prop:=bR.ex λr=>(∀ u,X u->b6 u a 0 r.cells)/\K r
abbrev WE (n:Nat)(l:en)(w:aj)(K:bG->aK):Prop:=Calls prog n l w λe w1=>bG.ex λr=>e=.returned r.val/\K r w1
abbrev Io (X:aK)(a:aw)(K:bG->Prop):Prop:=bG.ex λr=>(∀ u,X u->b6 u a 0 r.cells)/\K r
abbrev hK (w:aj)(a:aw)(K:bX->Prop):Prop:=bX.ex λr=>b6 w a 0 r.cells/\K r
abbrev WF (n:Nat)(l:en)(w:aj)(K:iC->aK):Prop:=Calls prog n l w λe w1=>iC.ex λr=>e=.returned r.val/\K r w1
abbrev Ip (w:aj)(a:aw)(K:iC->Prop):Prop:=iC.ex λr=>b6 w a 0 r.cells/\K r
abbrev It (n:Nat)(l:en)(w:aj)(K:c1->aK):Prop:=Calls prog n l w λe w1=>c1.ex λr=>e=.returned r.val/\K r w1
abbrev WI (n:Nat)(l:en)(w:aj)(K:aD->aK):Prop:=Calls prog n l w λe w1=>aD.ex λr=>e=.returned r.val/\K r w1
abbrev s_ (X:aK)(a:aw)(K:bX->Prop):Prop:=bX.ex λr=>(∀ u,X u->b6 u a 0 r.cells)/\K r
abbrev Iu (w:aj)(a:aw)(K:dq->Prop):Prop:=dq.ex λr=>b6 w a 0 r.cells/\K r
abbrev Iv (X:aK)(a:aw)(K:dq->Prop):Prop:=dq.ex λr=>(∀ u,X u->b6 u a 0 r.cells)/\K r
abbrev yT (w:aj)(a:aw)(K:dA->Prop):Prop:=dA.ex λr=>b6 w a 0 r.cells/\K r
abbrev WJ (X:aK)(a:aw)(K:c3->Prop):Prop:=c3.ex λr=>(∀ u,X u->b6 u a 0 r.cells)/\K r
abbrev WK (X:aK)(a:aw)(K:dA->Prop):Prop:=dA.ex λr=>(∀ u,X u->b6 u a 0 r.cells)/\K r
end
end Go.Proofs.YtmkljjbioomepaaGreat
