import Derived.Test.YtmkljjbioomepaaGreatc10
set_option linter.all false
set_option maxHeartbeats 4000000
set_option maxRecDepth 100000
namespace Go.Proofs.YtmkljjbioomepaaGreat
open Go.Proofs.Tryz Go.br
variable {A A':a5} {X:bQ} {ap la c1:al} {dt aY aN i j k lcap fA:Nat} {c c' x:cd} {cs:List cd} {l:dk} {ls:List dk} {p':dE} {raw:List aG} {v bj:aG} {vs:List aP} {w w':ak} {aw χ':Nat->Tag}
section
theorem bZ.jB (h:bZ A aw w aN X) (a:aw k≠.cr):k<w.heap.size:=h.low k (h.fj k a)
theorem bZ.fresh (h:bZ A aw w aN X) (b:w.heap.size<=k):aw k=.cr:=by
 by_cases a:aw k=.cr
 ·exact a
 ·have:=h.jB a;omega
theorem bZ.refl {A:a5} {aw:Nat->Tag} {w w':ak} {aN:Nat} {X:bQ} (h:bZ A aw w aN X) (a:ai w w'):Next A A aw aw w w':=Next.refl h.fj h.low a
def d8 (A:a5) (aw:Nat->Tag) (w:ak) (aN:Nat) (F:aM) (w':ak) (K:(a5)->Prop):Prop:=∃ A' χ' a,Next A A' aw χ' w w'/\bZ A' χ' w' aN a/\a.pure=F/\K A'
theorem d8.same (h:bZ A aw w aN X) (a:ai w w') {K:(a5)->Prop} (b:K A):d8 A aw w aN X.pure w' K:=⟨A,aw,X,h.refl a,h.new a,rfl,b⟩
def lR (i:Nat) (t:Tag):Prop:=t=.aX\/iy i t
theorem DL (h:i≠j):∀ t,iy j t->¬ lR i t:=by intro t a;cases t<;>simp [iy,lR] at a ⊢<;>omega
theorem bQ.xt (X:bQ) (i:Nat) (c:cd):({ X with aX:=X.aX.set i c }:bQ).pure=X.pure.fp i c.pure:=by simp [bQ.pure,aM.fp,il]
theorem bZ.qY (h:bZ A aw w aN X) (b:X.aX[i]?=some c)
  (g:ao (λk=>lR i (aw k)) w w') (n:∀ k,k<w.heap.size->χ' k≠.cr->aw k≠.cr) (q:∀ k,k<w.heap.size->¬ lR i (aw k)->aw k≠.cr->χ' k=aw k) (o:∀ k,χ' k≠.cr->k<w'.heap.size)
  (f:av w' X.aY ((fv X.aX).set i c'.cells).flatten jN) (e:χ' X.aY=.aX) (d:kq (gi A aw χ' w) χ' w' i c') :
  Next A (gi A aw χ' w) aw χ' w w'/\bZ (gi A aw χ' w) χ' w' aN { X with aX:=X.aX.set i c' }:=by
 obtain ⟨m,aQ⟩:=h.move g (by simp [lR,iy]) n q;have f1:=av.cK m h.cl h.gG (by simp [lR,iy]) (by simp);have f2:=a2.cK m h.nodes h.jD (by simp [lR,iy]) (by simp);have f3:=a2.cK m h.fU h.jZ (by simp [lR,iy]) (by simp);refine ⟨aQ,m.l9,λk b=>?_,?_,f1.2,f2.1,f2.2,λj x r=>(h.node j x r).cK m (by simp [lR,iy]) (by simp [lR,iy]),?_,e,λj y a=>?_,f3.1,f3.2,λp l=>dM.cK m (h.eC p l).1 (h.eC p l).2 (by simp [lR,iy]) (by simp),h.nodup⟩
 ·rcases b with b | b
  ·exact o k b
  ·exact fX b.1 g.size
 ·simpa [bQ.cells] using f1.1
 ·rw [r_] at f;exact f
 ·simp only [ik] at a;split at a
  ·rename_i he;subst he;split at a
   ·simp only [e8] at a;subst a;exact d
   ·cases a
  ·rename_i he;exact (h.a3 j y a).cK m (DL he)
theorem DM (h:av w aY (fv cs).flatten jN) (a:cs[i]?=some c) (b:k<7) (v:a4) :
  av (w.setCell ⟨aY,0+i * 7+k,none⟩ v) aY ((fv cs).set i (c.cells.set k v)).flatten jN:=by
 rw [g3];have:=h.setCell (i:=i * 7+k) v;rw [yg (Aw cs) v (uB a) b] at this;exact this
open Classical in
theorem NT (h:bZ A aw w aN X) (c:Int):a_ 64 [ptr aN,.int .i64 c] w λv w'=>
  d8 A aw w aN (X.pure.take c).2 w' λA'=>match (X.pure.take c).1 with
   |none=>v=.tuple #[.slice none 0 0,.bool false]
   |some ds=>∃ b raw,v=.tuple #[.slice (some ⟨b,0,none⟩) ds.length ds.length,.bool true]/\av w' b (fM raw).flatten iM/\gS A' w' raw ds/\¬ A' b:=by
 refine bc Tryz.func64 ?_;rw [ptr,Tk];rcases X.rU c with ⟨f,u⟩ | ⟨i,x,rfl,f,u⟩
 ·refine aC (uh h u) ?_;rintro v w' ⟨rfl,rfl⟩;have q:X.pure.take c=(none,X.pure):=by simp [aM.take,f]
  refine ⟨_,rfl,?_⟩;rw [q];exact d8.same h (ao.refl _ _) rfl
 ·refine aC (r6 h f) ?_;rintro v w' ⟨rfl,rfl⟩;refine ⟨_,rfl,⟨_,h.h' (k:=0) f rfl,er (λB=>?_) (λB=>?_)⟩⟩
  ·have q:X.pure.take i=(none,X.pure):=by simp [aM.take,u,cd.pure,B]
   rw [q];exact d8.same h (ao.refl _ _) rfl
  have d:=h.a3 i x f;refine ⟨_,_,_,h.h' (k:=3) f rfl,?_⟩;cases g:x.di with
  |none=>
   have q:X.pure.take i=(none,X.pure):=by simp [aM.take,u,cd.pure,B,g]
   rw [q];exact d8.same h (ao.refl _ _) rfl
  |some b=>
   refine ⟨_,h.h' (k:=4) f rfl,a' (λhw=>?_) (λhw=>?_)⟩
   ·have q:X.pure.take i=(none,X.pure):=by
     have:0<x.waiting:=by omega
     simp [aM.take,u,cd.pure,B,g,this]
    rw [q];exact d8.same h (ao.refl _ _) rfl
   ·have q:X.pure.take i=(some x.batch,X.pure.fp i { x.pure with batch:=none }):=by
     have:x.waiting=0:=by omega
     simp [aM.take,u,cd.pure,B,g,this]
    rw [q];refine ⟨_,_,_,h.h' (k:=3) f rfl,⟨⟨_,h.h' (k:=3) f rfl⟩,?_,?_⟩⟩
    ·exact h.cls.frozen
    intro y s;have D:av y X.aY ((fv X.aX).set i (x.cells.set 3 (.slice none 0 0))).flatten jN:=by rw [s];exact DM h.cls f (by omega) _
    have C:ao (λk=>k=X.aY) w' y:=by rw [s];exact eV _ _ _ _
    clear s;let χ':Nat->Tag:=λk=>if aw k=.batch i then .cr else aw k
    have n:∀ k,χ' k≠.cr->aw k≠.cr/\aw k≠.batch i/\χ' k=aw k:=by
     intro k a;simp only [χ'] at a ⊢;split at a
     ·exact absurd rfl a
     ·rename_i r;exact ⟨a,r,by rw [if_neg r]⟩
    have o:=d.batch b g;have G:∀ k,aw k≠.batch i->χ' k=aw k:=λk r=>by simp only [χ'];rw [if_neg r]
    have p:ao (λk=>aw k=.aX) w' y:=C.mono λk _ e=>by rw [e];exact h.fb
    obtain ⟨m,_⟩:=h.move (χ':=χ') (T:=λt=>t=.aX\/t=.batch i) (w':=y) (p.mono λk _ e=>.inl e) (by simp) (λk _ a=>(n k a).1) (λk _ r _=>G k λe=>r (.inr e));have f1:=a2.cK m d.own d.tag (by simp) (by simp);obtain ⟨aQ,H⟩:=h.qY (χ':=χ') (w':=y) (c':={ x with di:=none,raw:=[],batch:=[] }) f (p.mono λk _ e=>.inl e) (λk _ a=>(n k a).1) (λk _ r _=>G k λe=>r (.inr (by rw [e];rfl)))
     (λk a=>fX (h.jB (n k a).1) C.size) D (by rw [G _ (by rw [h.fb];simp),h.fb])
     ⟨f1.1,f1.2,λj l J=>(d.lane j l J).cK m (by simp) (by simp),λ_=>⟨rfl,rfl⟩,(λ_ I=>nomatch I),⟨rfl,λ_ _ _ a=>by simp at a⟩⟩
    have F:¬ gi A aw χ' w' b:=by
     rintro (a | ⟨_,_,a⟩)
     ·exact (n b a).2.1 o.2
     ·rw [o.2] at a;cases a
    have E:av y b (fM x.raw).flatten iM:=p.aj o.1 (by rw [o.2];simp);refine ⟨_,χ',_,aQ,H,?_,b,x.raw,?_,E,d.ds.az (p.mono λk _ e=>h.fj k (by rw [e];simp)) λk K z=>?_,F⟩
    ·rw [bQ.xt];simp [cd.pure]
    ·have:=d.ds.1;rw [g,this];rfl
    ·rcases z with z | z
     ·exact h.fj k (n k z).1
     ·exact z.2.1
theorem kq.Gm {T:Tag->Prop} (m:ld T A A' aw χ' w w') {l':dk} (h:kq A aw w i c) (l:∀ t,iy i t->T t->t=.aD i\/t=.lane i j\/t=.bT i j)
  (a:a2 w' lz 2 c.la c.aD.length c.lc ((gY c.aD).set j l'.cells).flatten) (g:∀ k,aK c.la k->χ' k=.aD i) (o:te A' χ' w' i j l'):kq A' χ' w' i { c with aD:=c.aD.set j l' }:=by
 refine ⟨?_,g,λk y d=>?_,h.none,λb n=>?_,h.ds.az m.r4 m.old⟩
 ·rw [GT] at a;simpa using a
 ·simp only [ik] at d;split at d
  ·rename_i he;subst he;split at d
   ·simp only [e8] at d;subst d;exact o
   ·cases d
  ·rename_i he;refine (h.lane k y d).cK m (λf=>?_) (λf=>?_)
   ·rcases l (.lane i k) rfl f with e | e | e
    ·cases e
    ·simp at e;exact he e.symm
    ·cases e
   ·rcases l (.bT i k) rfl f with e | e | e
    ·cases e
    ·cases e
    ·simp at e;exact he e.symm
 ·refine av.cK m (h.batch b n).1 (h.batch b n).2 (λf=>?_) (by simp);rcases l (.batch i) rfl f with e | e | e<;>cases e
theorem mm {α:Type} {l:List α} {x:α} (h:l[i]?=some x):l.set i x=l:=by
 apply j';intro k;rw [ik];split
 ·rename_i he;subst he;rw [if_pos (ch h),h]
 ·rfl
def h0 (i j n:Nat) (t:Tag):Prop:=t=.lane i j\/t=.word n
theorem bZ.Gp (h:bZ A aw w aN X) {n:Nat} {y:g_} (f:X.aX[i]?=some c) (F:c.aD[j]?=some l) (G:X.nodes[n]?=some y)
  (E:ao (λk=>h0 i j n (aw k)) w w') (H:∀ k,k<w.heap.size->χ' k≠.cr->aw k≠.cr) (D:∀ k,k<w.heap.size->aw k≠.lane i j->χ' k=aw k) (o:∀ k,χ' k≠.cr->k<w'.heap.size)
  {n':a0} (C:dY w' y.b y.aI n') (s:dM (gi A aw χ' w) w' l.pb p') (I:∀ k,p'.mut l.pb k->χ' k=.lane i j) :
  Next A (gi A aw χ' w) aw χ' w w'/\bZ (gi A aw χ' w) χ' w' aN { X with nodes:=X.nodes.set n { y with n:=n' },aX:=X.aX.set i { c with aD:=c.aD.set j { l with p:=p' } } }:=by
 obtain ⟨m,aQ⟩:=h.move (T:=h0 i j n) E (by simp [h0]) H (λk B C _=>D k B λe=>C (.inl e));have f1:=av.cK m h.cl h.gG (by simp [h0]) (by simp);have f2:=a2.cK m h.nodes h.jD (by simp [h0]) (by simp);have f3:=a2.cK m h.fU h.jZ (by simp [h0]) (by simp);have f4:=av.cK m h.cls h.fb (by simp [h0]) (by simp);have a:=h.node n y G;have d:=h.a3 i c f;refine ⟨aQ,m.l9,λk f=>?_,?_,f1.2,?_,f2.2,?_,?_,f4.2,λq z au=>?_,f3.1,f3.2,λp s=>dM.cK m (h.eC p s).1 (h.eC p s).2 (by simp [h0]) (by simp),h.nodup⟩
 ·rcases f with f | f
  ·exact o k f
  ·exact fX f.1 E.size
 ·simpa [bQ.cells] using f1.1
 ·have e:((X.nodes.set n { y with n:=n' }).map λx=>ptr x.b)=X.nodes.map λx=>ptr x.b:=by rw [il];exact mm (by simp [G])
  rw [e];simpa using f2.1
 ·intro q z au;simp only [ik] at au;split at au
  ·rename_i he;subst he;split at au
   ·simp only [e8] at au;subst au;exact ⟨C,by rw [D _ a.node.node.lt (by rw [a.tag];simp)];exact a.tag,by rw [D _ a.node.words.lt (by rw [a.jJ];simp)];exact a.jJ⟩
   ·cases au
  ·rename_i he;exact (h.node q z au).cK m (by simp [h0]) (by simp [h0];exact λe=>he e.symm)
 ·have e:fv (X.aX.set i { c with aD:=c.aD.set j { l with p:=p' } })=fv X.aX:=by simp only [fv,il];refine mm ?_;simp [f,cd.cells]
  rw [e];exact f4.1
 ·simp only [ik] at au;split at au
  ·rename_i he;subst he;split at au
   ·simp only [e8] at au;subst au;have f5:=a2.cK m d.own d.tag (by simp [h0]) (by simp);have r:=d.lane j l F;refine d.Gm m (λt g u=>?_) ?_ f5.2 ?_
    ·rcases u with e | e
     ·exact .inr (.inl e)
     ·rw [e] at g;cases g
    ·have e:(gY c.aD).set j ({ l with p:=p' }:dk).cells=gY c.aD:=mm (by rw [mi F];rfl);rw [e];exact f5.1
    ·have f6:=a2.cK m r.bT r.sd (by simp [h0]) (by simp);exact ⟨s,I,f6.1,f6.2⟩
   ·cases au
  ·rename_i he;refine (h.a3 q z au).cK m (λt g u=>?_);rcases u with e | e
   ·rw [e] at g;exact he g
   ·rw [e] at g;cases g
end
section
theorem a2.row {w:ak} {e sz n cap:Nat} {a:al} {rows:List ax} (h:a2 w e sz a n cap rows.flatten) (j:∀ r ∈ rows,r.length=sz) (au:0<sz) {i:Nat} {r:ax} (f:rows[i]?=some r) :
  ∃ g,a=some ⟨g,0,none⟩/\i<n/\(∃ cs,av w g cs e)/\b6 w ⟨g,0+i * sz,none⟩ 0 r/\∀ k v,r[k]?=some v->w.cell? ⟨g,0+i * sz+k,none⟩=some v:=by
 obtain ⟨b,o,c,p,q⟩:=h.rd.row j au f;rcases h.2 with ⟨l,_⟩ | ⟨bU,cur,he,d,hle,s,t,u⟩
 ·rw [l] at c;cases c
 ·rw [he] at c;simp only [e8,Addr.mk.injEq,and_true] at c;obtain ⟨rfl,rfl⟩:=c;refine ⟨bU,he,?_,⟨cur,d⟩,p,q⟩;have hlen:=h.1;rw [mf j] at hlen;have:=ch f;exact Nat.lt_of_lt_of_eq this (Nat.eq_of_mul_eq_mul_right au hlen)
def q0 (i j:Nat) (t:Tag):Prop:=t=.bT i j\/t=.aD i
open Classical in
theorem bZ.Gq (h:bZ A aw w aN X) (b:X.aX[i]?=some c) (E:c.aD[j]?=some l)
  (o:ao (λk=>q0 i j (aw k)) w w') {a:cQ} (p:∀ k,aK ap k->aw k=.bT i j\/w.heap.size<=k) (n:a2 w' l6 1 ap a.length dt (is (a.map Int.ofNat)))
  (q:a2 w' lz 2 c.la c.aD.length c.lc ((gY c.aD).set j (dk.cells { l with bT:=a,ky:=ap,k4:=dt })).flatten) :
  ∃ A' χ',Next A A' aw χ' w w'/\bZ A' χ' w' aN { X with aX:=X.aX.set i { c with aD:=c.aD.set j { l with bT:=a,ky:=ap,k4:=dt } } }:=by
 let χ':Nat->Tag:=λk=>if aK ap k then .bT i j else aw k
 have C:∀ k,aK ap k->χ' k=.bT i j:=λk o=>by simp only [χ'];rw [if_pos o]
 have u:∀ k,¬ aK ap k->χ' k=aw k:=λk o=>by simp only [χ'];rw [if_neg o]
 have y:∀ k,k<w.heap.size->χ' k≠.cr->aw k≠.cr:=by
  intro k g b;by_cases d:aK ap k
  ·rcases p k d with e | e
   ·rw [e];simp
   ·omega
  ·rw [u k d] at b;exact b
 have s:∀ k,k<w.heap.size->aw k≠.bT i j->χ' k=aw k:=by
  intro k g b;by_cases d:aK ap k
  ·rcases p k d with e | e
   ·exact absurd e b
   ·omega
  ·exact u k d
 have f:=h.a3 i c b;have r:=f.lane j l E;obtain ⟨m,_⟩:=h.move (T:=q0 i j) (χ':=χ') o (by simp [q0]) y (λk g x _=>s k g λe=>x (.inl e));obtain ⟨z,B⟩:=dM.cK m r.pair r.tag (by simp [q0]) (by simp);have G:ao (λk=>lR i (aw k)) w w':=o.mono λk _ b=>by
  rcases b with e | e
  ·exact .inr (by rw [e];rfl)
  ·exact .inr (by rw [e];rfl)
 have H:∀ k,χ' k≠.cr->k<w'.heap.size:=λk b=>by
  by_cases d:aK ap k
  ·exact n.lt d
  ·rw [u k d] at b;exact fX (h.jB b) o.size
 have I:av w' X.aY ((fv X.aX).set i (cd.cells { c with aD:=c.aD.set j { l with bT:=a,ky:=ap,k4:=dt } })).flatten jN:=by have e:(fv X.aX).set i (cd.cells { c with aD:=c.aD.set j { l with bT:=a,ky:=ap,k4:=dt } })=fv X.aX:=mm (by rw [uB b];simp [cd.cells]);rw [e];exact (av.cK m h.cls h.fb (by simp [q0]) (by simp)).1
 have J:kq (gi A aw χ' w) χ' w' i { c with aD:=c.aD.set j { l with bT:=a,ky:=ap,k4:=dt } }:=by refine f.Gm m (λt _ F=>F.elim (λe=>.inr (.inr e)) .inl) q (λk d=>?_) ⟨z,B,n,C⟩;rw [s k (f.own.lt d) (by rw [f.tag k d];simp)];exact f.tag k d
 obtain ⟨aQ,D⟩:=h.qY b G y (λk g x _=>s k g λe=>x (.inr (by rw [e];rfl))) H I (by rw [s _ h.cls.lt (by rw [h.fb];simp)];exact h.fb) J;exact ⟨_,_,aQ,D⟩
theorem HI (C:bP) (k:Nat):C.gN k []=C:=rfl
theorem Hf (C:bP) (k:Nat) (v:aP) (vs:List aP):C.gN k (v::vs)=(C.gk k v).gN (k+1) vs:=rfl
structure vK (A:a5) (aw:Nat->Tag) (w:ak) (aN:Nat) (X:bQ) (i:Nat) (x:cd) (vs:List aP) (k:Nat) (u:ak) (A':a5) (χ':Nat->Tag) (ls:List dk):Prop where
 next:Next A A' aw χ' w u
 cl:bZ A' χ' u aN { X with aX:=X.aX.set i { x with aD:=ls } }
 pure:(cd.pure { x with aD:=ls }).gN k (vs.drop k)=x.pure.gN 0 vs
 len:ls.length=X.nodes.length
 lane:∀ (j:Nat) (l:dk),ls[j]?=some l->l.p.node=j/\l.p.ba.length<=k/\l.bT.length<=k
theorem jf {α:Type} (l:List α) (i:Nat) (a b:α):(l.set i a).set i b=l.set i b:=List.set_set ..
open Classical in
theorem J1 {u:ak}
  (aW:vK A aw w aN X i x vs k u A' χ' ls) (Q:i<X.aX.length) (an:k<vs.length) (U:vs.length<=1024) (K:ls[j]?=some l) (P:vs[k].node=j) (N:0<X.nodes.length)
  {w1:ak} (F:p'=l.p.post bj vs[k] c1 fA)
  (r:∀ M':a5,tA A' M' u (aK c1)->(∀ k,p'.mut l.pb k->M' k)->dM M' w1 l.pb p') (g:ao (λk=>k=l.pb\/aK l.p.c1 k) u w1) (G:c1=l.p.c1\/∀ k,aK c1 k->u.heap.size<=k) (B:∀ k,aK c1 k->k<w1.heap.size) :
  ∃ I d,Next A' I χ' d u w1/\bZ I d w1 aN { X with aX:=X.aX.set i { x with aD:=ls.set j { l with p:=p' } } }:=by
 have h:=aW.cl;have f:(X.aX.set i { x with aD:=ls })[i]?=some { x with aD:=ls }:=by simp [Q]
 have D:=h.a3 i _ f;have o:=D.lane j l K;obtain ⟨y,H⟩:∃ y,X.nodes[0]?=some y:=⟨X.nodes[0],by simp [N]⟩;have s:=h.node 0 y H;let d:Nat->Tag:=λk=>if aK c1 k then .lane i j else χ' k
 have C:∀ k,aK c1 k->d k=.lane i j:=λk a=>by simp only [d];rw [if_pos a]
 have t:∀ k,¬ aK c1 k->d k=χ' k:=λk a=>by simp only [d];rw [if_neg a]
 have q:∀ k,aK c1 k->χ' k=.lane i j\/u.heap.size<=k:=by
  intro k a;rcases G with e | e
  ·exact .inl (o.tag k (.inr (.inl (e▸a))))
  ·exact .inr (e k a)
 have M:∀ k,k<u.heap.size->d k≠.cr->χ' k≠.cr:=by
  intro k E f;by_cases c:aK c1 k
  ·rcases q k c with e | e
   ·rw [e];simp
   ·omega
  ·rw [t k c] at f;exact f
 have O:∀ k,k<u.heap.size->χ' k≠.lane i j->d k=χ' k:=by
  intro k E f;by_cases c:aK c1 k
  ·rcases q k c with e | e
   ·exact absurd e f
   ·omega
  ·exact t k c
 have L:∀ k,p'.mut l.pb k->d k=.lane i j:=by
  subst F;rintro k (a | a | a)
  ·by_cases c:aK c1 k
   ·exact C k c
   ·rw [t k c];exact o.tag k (.inl a)
  ·exact C k a
  ·by_cases c:aK c1 k
   ·exact C k c
   ·rw [t k c];exact o.tag k (.inr (.inr a))
 have z:ao (λk=>χ' k=.lane i j) u w1:=g.mono λk _ f=>o.tag k (f.elim .inl λe=>.inr (.inl e))
 have R:∀ k,d k≠.cr->k<w1.heap.size:=λk f=>by
  by_cases c:aK c1 k
  ·exact B k c
  ·rw [t k c] at f;exact fX (h.jB f) g.size
 have S:dY w1 y.b y.aI y.n:=s.node.az z (by rw [s.tag];simp) (by rw [s.jJ];simp);have T:dM (gi A' χ' d u) w1 l.pb p':=by
  refine r _ (λk a=>?_) (λk a=>.inl (by rw [L k a];simp));rcases a with a | a
  ·by_cases c:aK c1 k
   ·exact .inr c
   ·rw [t k c] at a;exact .inl ⟨h.jB a,h.fj k a⟩
  ·exact .inl ⟨a.1,a.2.1⟩
 obtain ⟨aQ,J⟩:=h.Gp (χ':=d) (n':=y.n) (p':=p') f K H (z.mono λk _ e=>.inl e) M O R S T L;rw [mm H,jf] at J;exact ⟨_,_,aQ,J⟩
theorem HJ (a b:Int):jz a b []=0:=rfl
theorem GH (a b:Int) (v:aP) (vs:List aP):jz a b (v::vs)=if v.v.valid a b≠0 then v.v.valid a b else jz a b vs:=rfl
theorem GI {a b:Int}:∀ {vs:List aP},jz a b vs=0->∀ v ∈ vs,v.v.valid a b=0
 | [],_,v,an=>by cases an
 |x::xs,h,v,an=>by
  rw [GH] at h;split at h
  ·contradiction
  ·rename_i c;rcases e9.1 an with e | e
   ·subst e;exact Decidable.not_not.1 c
   ·exact GI h v e
theorem Fr {a b:Int} (h:v.valid a b=0):0<=v.Node/\v.Node<a/\v.valid 5 b=0:=by obtain ⟨f,e⟩:=xw h;have c:=pk e;refine ⟨c.2.2.2.2.1,c.2.2.2.2.2.1,?_⟩;have d:v.inside 5 b=true:=decide_eq_true ⟨by omega,by omega,c.2.2.1,c.2.2.2.1,c.2.2.2.2.1,by omega,c.2.2.2.2.2.2⟩;unfold aG.valid at h ⊢;rw [e] at h;rw [d];exact h
theorem Hg {v:aP} (c:ls[j]?=some l) (an:v.node=j) :
  cd.pure { x with aD:=ls.set j ⟨l.pb,l.p.post bj v c1 fA,l.bT++[k],ap,dt⟩ }=(cd.pure { x with aD:=ls }).gk k v:=by
 simp only [cd.pure,bP.gk,bP.mk.injEq,true_and,and_true];rw [an,il,fY];apply j';intro q;rw [ik,sY];have a:=ch c;by_cases he:j=q
 ·subst he;have b:ls[j]=l:=by simpa [a] using c
  simp [a,b,dk.pure,dE.post,dE.pure]
 ·simp [he]
theorem NU (a:cQ) (k:Nat):is ((a++[k]).map Int.ofNat)=is (a.map Int.ofNat)++[.int .i64 k]:=by simp [is]
theorem bh.next (n:Next A A' aw χ' w w') (f:∀ k,aw k≠.cr->A k) {a:al} {xs:ax} (h:bh w a xs) (c:xs=[]\/gd A a):bh w' a xs/\(xs=[]\/gd A' a):=by
 refine ⟨h.az (n.az.mono λk _ b=>f k b) c,?_⟩;by_cases e:xs=[]
 ·exact .inl e
 ·refine .inr ?_;rcases c with c | c
  ·exact absurd c e
  ·cases a with
   |none=>trivial
   |some a=>
    intro b;have d:=h.lt e;rcases (n.iff _).1 b with b | b
    ·exact c (f _ (n.grow _ d b))
    ·exact c b.2.1
theorem cE.next (n:Next A A' aw χ' w w') (c:∀ k,aw k≠.cr->A k) {x:aP} (h:cE A w v x):cE A' w' v x:=
 h.az (n.az.mono λk _ a=>c k a) λk b a=>by
  rcases (n.iff _).1 a with a | a
  ·exact c _ (n.grow _ b a)
  ·exact a.2.1
theorem xB {α:Type} {l:List α} (h:k<l.length):l.drop k=l[k]::l.drop (k+1):=oM h
theorem Jg (h:bZ A aw w aN X) (VX:nU X.pure) (WH:X.aX[i]?=some x) (Wi:x.alive=true) (Wm:x.di=none)
  (W0:bh w la (dP raw).flatten) (VW:(dP raw).flatten=[]\/gd A la) (V2:en A w raw vs) (WZ:vs.length<=1024) (Vw:jz X.nodes.length X.lines vs=0)
  {j:ax} {R:cA} (WR:∀ u A' χ' ls,vK A aw w aN X i x vs vs.length u A' χ' ls->∀ Wd,W prog (sub (bo f66) [1,1,1,1,1]) (zP la raw.length lcap (some ⟨X.aY,0+i * 7,none⟩) Wd) (dB prog f66 R) u) :
  cu prog (.loop (sub (bo f66) [1,1,1,1,0,1,0,0])) (tW ⟨aN,0,none⟩ la raw.length lcap (some ⟨X.aY,0+i * 7,none⟩) la raw.length lcap raw.length 0 j)
   (aO 3 (aV (λenv w=>W prog (sub (bo f66) [1,1,1,1,1]) env (dB prog f66 R) w) (dB prog f66 R))) w:=by
 have hlen:raw.length=vs.length:=V2.1;have VG:=ch WH;have O:=VX.a3 i x.pure (by simp [bQ.pure,WH]);have Wx:x.aD.length=X.nodes.length:=by have:=O.aD;simp [cd.pure,Wi,bQ.pure] at this;exact this
 have WC:=VX.nodes;have VC:gZ x.pure.aD=0:=by have Wb:=O.waiting;have WQ:=O.batch.1;simp [cd.pure,Wm] at WQ;have W9:x.pure.waiting=x.waiting:=rfl;omega
 have S:∀ (q:Nat) (l:dk),x.aD[q]?=some l->l.p.node=q/\l.p.ba.length<=0/\l.bT.length<=0:=by
  intro q l Ww;have VV:=O.lane q l.pure (by simp [cd.pure,Ww]);have au:l.p.ba.length=0:=by
   have hm:l.pure.pair.ba.length ∈ x.pure.aD.map λl=>l.pair.ba.length:=cW.2 ⟨l.pure,cg (i:=q) (by simp [cd.pure,Ww]),rfl⟩
   have:=List.sum_eq_zero_iff_forall_eq_nat.1 VC _ hm;exact this
  have WD:=VV.bT;refine ⟨VV.node,by omega,?_⟩;have:l.pure.bT.length=l.pure.pair.ba.length:=WD;have e:l.pure.pair.ba.length=l.p.ba.length:=rfl;have W8:l.pure.bT.length=l.bT.length:=rfl;omega
 refine c2 mix (λm env u=>∃ (k:Nat) (Wd:ax) (A':a5) (χ':Nat->Tag) (ls:List dk),k<=vs.length/\m=vs.length - k/\env=tW ⟨aN,0,none⟩ la raw.length lcap (some ⟨X.aY,0+i * 7,none⟩) la raw.length lcap raw.length k Wd/\
   vK A aw w aN X i x vs k u A' χ' ls) vs.length ⟨0,_,A,aw,x.aD,by omega,by omega,rfl,h.refl (ao.refl _ _),?_,rfl,Wx,S⟩ ?_
 ·have:({ x with aD:=x.aD }:cd)=x:=rfl;rw [this,mm WH];exact h
 rintro m env u ⟨k,Wd,A',χ',ls,F,rfl,rfl,aW⟩;rw [QS];refine a' (λWy=>?_) (λWy=>?_)
 ·have Q:k<vs.length:=by omega
  have Wv:k<raw.length:=by omega
  have an:raw[k]?=some raw[k]:=by simp [Wv]
  have V3:cE A w raw[k] vs[k]:=V2.2 k _ _ an (by simp [Q]);have V4:cE A' u raw[k] vs[k]:=V3.next aW.next h.fj;obtain ⟨WE,W1⟩:=bh.next aW.next h.fj W0 VW;obtain ⟨W7,dy,rfl,Wo,Wp⟩:=WE.row (uA raw) (by omega) (AK an);have V1:=GI Vw vs[k] (kb Q);obtain ⟨Wz,WA,VE⟩:=Fr V1;have VA:vs[k].v.Node=vs[k].node:=rfl;rw [VA] at Wz WA;have WF:raw[k].Node=vs[k].node:=by rw [V3.eq];rfl
  obtain ⟨q,Wc⟩:∃ q:Nat,vs[k].node=q:=⟨vs[k].node.toNat,by omega⟩;have VZ:q<ls.length:=by rw [aW.len];omega
  have VH:ls[q]?=some ls[q]:=by simp [VZ]
  generalize Ww:ls[q]=l at VH;obtain ⟨VT,WX,WY⟩:=aW.lane q l VH;have Vv:(X.aX.set i { x with aD:=ls })[i]?=some { x with aD:=ls }:=by simp [VG]
  refine ed (by omega) (by omega) ?_;refine iT (v:=raw[k]) (by simpa using Wo) ?_;rintro b1 w1 Wk V6;obtain ⟨au,Vr⟩:=bl Wk V6;refine ⟨f7 (vs:=aG.cells raw[k]) au (by simp [aG.cells]) (aG.single raw[k]),?_⟩;rintro W3 V7 We V8;obtain ⟨VO,WB⟩:=ow (vs:=aG.cells raw[k]) au (by simp [aG.cells]) Vr (by omega) V7;have VU:Go.br.ai W3 We:=by rw [V8];exact cD _
  have G:=ai.aj VU VO;have Vs:Go.br.ai u We:=WB.new VU;have VK:=aW.cl.new Vs;clear V6 V7 au Vr V8;refine ⟨λz=>Go.br.ai We z,ao.refl _ _,_,_,_,λz au=>(VK.new au).h' (k:=2) Vv rfl,_,λz au=>(ai.aj au G).cell (i:=1) rfl,?_⟩;obtain ⟨g,Wq,WV,⟨WP,WT⟩,WU,Ws⟩:=a2.row (VK.a3 i _ Vv).own (nh ls) (by omega) (mi VH);show bk x.la ls.length raw[k].Node 2 _;have I:x.la=some ⟨g,0,none⟩:=Wq;rw [I,WF,Wc];refine ed (by omega) (by omega) ?_;rw [fY];intro VI V9;have Vz:Go.br.ai We VI:=by rw [V9];exact cD _
  clear V9;have Vu:=ai.aj Vz G;have L:Go.br.ai u VI:=Vs.new Vz;have Vt:=aW.cl.new L;have VP:=Vt.a3 i _ Vv;have B:=VP.lane q l VH;refine ⟨λz=>Go.br.ai VI z,ao.refl _ _,some ⟨l.pb,0,none⟩,λz au=>?_,?_⟩
  ·exact jy (Vz.new au) (Ws 0 _ rfl) id
  refine mF (v:=raw[k]) (λz au=>g2 (ai.aj au Vu)) ?_;refine ⟨_,λz au=>(Vt.new au).cl.cell (i:=0) rfl,?_⟩;have V5:cE A' VI raw[k] vs[k]:=V4.az (ao.b3 L) λ_ _ h=>h
  refine aC (Mn B.pair V5 VE (by rw [Wc];exact VT.symm) (by omega)) ?_;rintro r W4 ⟨rfl,bj,c1,fA,N,Vx,WG⟩;have VD:∀ k,aK c1 k->k<W4.heap.size:=by
   intro b WS;have WD:=N (λk=>(k<VI.heap.size/\A' k)\/aK c1 k) (λk F=>F) (λk F=>?_)
   ·exact WD.own.lt WS
   ·rcases F with F | F | F
    ·exact .inl ⟨F▸B.pair.aj.lt,B.pair.ia k (.inl F)⟩
    ·exact .inr F
    ·exact .inl ⟨B.pair.j7.lt F,B.pair.ia k (.inr (.inr F))⟩
  have WM:vK A aw w aN X i x vs k VI A' χ' ls:=⟨aW.next.new L,Vt,aW.pure,aW.len,aW.lane⟩;obtain ⟨W6,Wh,WK,VL⟩:=J1 WM VG Q WZ VH Wc (by have:=WC.1;simp [bQ.pure] at this;omega) rfl N Vx WG VD;have H:(X.aX.set i { x with aD:=ls.set q { l with p:=l.p.post bj vs[k] c1 fA } })[i]?=some { x with aD:=ls.set q { l with p:=l.p.post bj vs[k] c1 fA } }:=by simp [VG]
  have J:(ls.set q { l with p:=l.p.post bj vs[k] c1 fA })[q]?=some { l with p:=l.p.post bj vs[k] c1 fA }:=by simp [VZ]
  have d:=VL.a3 i _ H;have WN:=d.lane q _ J;obtain ⟨bU,f,_,⟨VJ,Y⟩,_,Z⟩:=a2.row d.own (nh _) (by omega) (mi J);have Wr:bU=g:=by have:x.la=some ⟨bU,0,none⟩:=f;rw [I] at this;simp at this;exact this.symm
  subst Wr;refine ⟨_,rfl,_,_,_,Z 1 _ rfl,?_⟩;rintro aA Wf Wl V_;obtain ⟨WI,E⟩:=bl Wl V_;have VM:=VL.new E;clear V_;have K:=(VM.a3 i _ H).lane q _ J;obtain ⟨W2,WW,WJ,U,Wn⟩:=fL (T:=3) (z:=.int .i64 0) (n:=1) (m:=8) (by kernel_rfl);have VY:a2 Wf 3 W2.size l.ky l.bT.length l.k4 (is (l.bT.map Int.ofNat)):=by rw [U];exact K.bT
  obtain ⟨ap,dt,Wa,V0,M,Wu,Wj⟩:=VY.append (P:=prog) (t:=22) (ty:=22) Tryz.underlying22 WW WJ (by rw [U];rfl) (by omega)
   (s:=some ⟨aA,0,none⟩) (m:=1) (c:=1) (news:=[.int .i64 k]) (by rw [U];rfl) (fk WI (by simp)) (by simp [single]) (by omega) (by rw [Wn];omega)
  rw [U] at M;refine ⟨ap,_,dt,Wa,V0,?_⟩;have C:ao (λz=>Wh z=.bT i q) Wf Wa:=Wu.mono λz _ au=>K.sd z au
  have VQ:av Wa bU VJ lz:=C.aj (ai.aj E Y) (by rw [d.tag bU ⟨0,f⟩];simp);have D:a2 Wa lz 2 x.la (ls.set q { l with p:=l.p.post bj vs[k] c1 fA }).length x.lc (gY (ls.set q { l with p:=l.p.post bj vs[k] c1 fA })).flatten:=(d.own.new E).az C λz au=>by rw [d.tag z au];simp
  refine ⟨⟨_,jy C (jy E (Z 1 _ rfl) id) (by rw [d.tag bU ⟨0,f⟩];simp)⟩,VQ.frozen,?_⟩;intro Wg VF;have VS:ao (λz=>z=bU) Wa Wg:=by rw [VF];exact eV _ _ _ _
  have VR:ao (λz=>q0 i q (Wh z)) Wf Wg:=(C.mono λz _ e=>.inl e).trans VS λz _ e=>.inr (by rw [e];exact d.tag bU ⟨0,f⟩)
  have Vy:a2 Wg lz 2 x.la (ls.set q { l with p:=l.p.post bj vs[k] c1 fA }).length x.lc ((gY (ls.set q { l with p:=l.p.post bj vs[k] c1 fA })).set q (dk.cells ⟨l.pb,l.p.post bj vs[k] c1 fA,l.bT++[k],ap,dt⟩)).flatten:=by rw [I] at D ⊢;rw [VF];have:=a2.setCell D (i:=q * 2+1) (by simp;omega) (.slice ap (l.bT.length+1) dt);rw [yg (nh _) _ (mi J) (by omega)] at this;simpa [dk.cells] using this
  have Wt:Wh bU=.aD i:=d.tag bU ⟨0,f⟩;have V:∀ z,aK ap z->Wh z=.bT i q\/Wf.heap.size<=z:=by
   intro z au;rcases Wj with e | e
   ·exact .inl (K.sd z (e▸au))
   ·obtain ⟨o,VV⟩:=au;rw [e] at VV;simp at VV;exact .inr (by omega)
  have VB:a2 Wg l6 1 ap (l.bT++[k]).length dt (is ((l.bT++[k]).map Int.ofNat)):=by
   rw [NU];have:=M.az VS (λz au e=>?_)
   ·simpa using this
   ·rcases V z au with Wb | Wb
    ·rw [e,Wt] at Wb;cases Wb
    ·have:=(ai.aj E Y).lt;omega
  clear VF;obtain ⟨WO,W5,WL,VN⟩:=VM.Gq H J VR V VB Vy;rw [jf,jf] at VN;rw [show IntKind.i64.wrap ((k:Int)+1)=((k+1:Nat):Int) by rw [bC (by omega) (by omega)];rfl];refine ⟨vs.length - (k+1),by omega,k+1,_,WO,W5,ls.set q ⟨l.pb,l.p.post bj vs[k] c1 fA,l.bT++[k],ap,dt⟩,by omega,rfl,rfl,?_⟩;refine ⟨((WM.next.trans WK).new E).trans WL,VN,?_,by simp [aW.len],?_⟩
  ·rw [Hg VH Wc,<-aW.pure,xB Q,Hf]
  ·intro z y V';rw [ik] at V';split at V'
   ·rename_i he;subst he;simp only [e8] at V';subst V';refine ⟨VT,?_,?_⟩
    ·simp [dE.post];omega
    ·simp;omega
   ·obtain ⟨a,b,c⟩:=aW.lane z y V';exact ⟨a,by omega,by omega⟩
 ·have:k=vs.length:=by omega
  subst this;exact WR u A' χ' ls aW _
theorem IW (n:Nat):jr n [.int .i64 0,.slice none 0 0]=(fM (List.replicate n ⟨0,none,0,0⟩)).flatten:=by
 induction n with
 |zero=>rfl
 |succ n a=>rw [q',fM,gA,gR,<-fM,<-a];rfl
theorem Mo (A:a5) (w:ak) (n:Nat):gS A w (List.replicate n ⟨0,none,0,0⟩) (List.replicate n ⟨0,[]⟩):=by
 refine ⟨by simp,λi v x an a=>?_⟩;rw [AV] at an a;split at an
 ·rw [if_pos ‹_›] at a;simp only [e8] at an a;subst an;subst a;exact ⟨rfl,rfl,.inl rfl,λ_=>rfl,.inl rfl,by simp,cO _⟩
 ·cases an
theorem kX (h:av w aY (fv cs).flatten jN) (a:cs[i]?=some c) (b:k<7) {v:a4} (e:c.cells.set k v=c'.cells) :
  av (w.setCell ⟨aY,0+i * 7+k,none⟩ v) aY (fv (cs.set i c')).flatten jN/\(cs.set i c')[i]?=some c':=by
 have:=DM h a b v;rw [e,r_] at this;exact ⟨this,by simp [ch a]⟩
theorem k7 (h:av w aY (fv cs).flatten jN) {v:a4} (a:cs[i]?=some c) (an:c.cells[k]?=some v):w.cell? ⟨aY,0+i * 7+k,none⟩=some v:=by rw [g3];exact h.cell (xQ (Aw _) (uB a) an)
open Classical in
theorem NV (h:bZ A aw w aN X) (VW:nU X.pure) (c:Int)
  (V3:bh w la (dP raw).flatten) (VG:(dP raw).flatten=[]\/gd A la) (Vr:en A w raw vs) :
  a_ 66 [ptr aN,.int .i64 c,.slice la raw.length lcap] w λv w'=>v=.int .i64 (X.pure.post c vs).1/\d8 A aw w aN (X.pure.post c vs).2 w' λ_=>True:=by
 refine bc Tryz.func66 ?_;rw [ptr,Tl];have hlen:raw.length=vs.length:=Vr.1;rcases X.rU c with ⟨N,S⟩ | ⟨i,x,rfl,N,S⟩
 ·refine aC (uh h S) ?_;rintro v w' ⟨rfl,rfl⟩;have J:X.pure.post c vs=(1,X.pure):=by simp [aM.post,N]
  refine ⟨_,rfl,?_⟩;rw [J];exact ⟨rfl,d8.same h (ao.refl _ _) trivial⟩
 refine aC (r6 h N) ?_;rintro v w' ⟨rfl,rfl⟩;refine ⟨_,rfl,⟨_,h.h' (k:=0) N rfl,er (λU=>?_) (λU=>?_)⟩⟩
 ·have J:X.pure.post i vs=(1,X.pure):=by simp [aM.post,S,cd.pure,U]
  rw [J];exact ⟨rfl,d8.same h (ao.refl _ _) trivial⟩
 have V6:=h.a3 i x N;refine ⟨_,_,_,h.h' (k:=3) N rfl,?_⟩;cases B:x.di with
 |some b=>
  have J:X.pure.post i vs=(3,X.pure):=by simp [aM.post,S,cd.pure,U,B]
  rw [J];exact ⟨rfl,d8.same h (ao.refl _ _) trivial⟩
 |none=>
  refine cR rfl (dJ (λV0=>?_) (λV0=>?_))
  ·have au:vs=[]:=fB (by omega);have J:X.pure.post i vs=(1,X.pure):=by simp [aM.post,S,cd.pure,U,B,au]
   rw [J];exact ⟨rfl,d8.same h (ao.refl _ _) trivial⟩
  have VE:¬ vs=[]:=λe=>V0 (by rw [hlen,e];rfl)
  refine a' (λV7=>?_) (λV7=>?_)
  ·have J:X.pure.post i vs=(18,X.pure):=by
    have:1024<vs.length:=by omega
    simp [aM.post,S,cd.pure,U,B,VE,this]
   rw [J];exact ⟨rfl,d8.same h (ao.refl _ _) trivial⟩
  have hle:vs.length<=1024:=by omega
  have J:X.pure.post i vs=if jz X.nodes.length X.lines vs≠0 then (jz X.nodes.length X.lines vs,X.pure) else (0,X.pure.fp i (x.pure.kz vs)):=by
   have V5:¬ vs.length>1024:=by omega
   have VL:X.pure.nodes.length=X.nodes.length:=by simp [bQ.pure]
   have VI:X.pure.lines=X.lines:=rfl;simp only [aM.post,S,VL,VI];rw [if_neg (by simp [cd.pure,U]),if_neg (by simp [cd.pure,B]),if_neg (by simpa using VE),if_neg V5]
  rw [J];refine c2 mix (λm env u=>∃ (k:Nat) (V4:ax),k<=vs.length/\m=vs.length - k/\env=wG ⟨aN,0,none⟩ la raw.length lcap (some ⟨X.aY,0+i * 7,none⟩) la raw.length lcap raw.length k V4/\
   Go.br.ai w' u/\jz X.nodes.length X.lines vs=jz X.nodes.length X.lines (vs.drop k)) vs.length ⟨0,_,by omega,by omega,rfl,ao.refl _ _,rfl⟩ ?_
  rintro m env u ⟨k,V4,G,rfl,rfl,p,a⟩;rw [QR];refine a' (λVU=>?_) (λVU=>?_)
  ·have VB:k<vs.length:=by omega
   have VT:k<raw.length:=by omega
   have an:raw[k]?=some raw[k]:=by simp [VT]
   have VY:cE A w' raw[k] vs[k]:=Vr.2 k _ _ an (by simp [VB]);obtain ⟨Wa,dy,rfl,VN,VO⟩:=(bh.new p V3).row (uA raw) (by omega) (AK an);refine ed (by omega) (by omega) ?_;refine iT (v:=raw[k]) (by simpa using VN) ?_;rintro b1 w1 W q;obtain ⟨au,Q⟩:=bl W q;refine ⟨f7 (vs:=aG.cells raw[k]) au (by simp [aG.cells]) (aG.single raw[k]),?_⟩;rintro VK s Vu y;obtain ⟨Vy,VV⟩:=ow (vs:=aG.cells raw[k]) au (by simp [aG.cells]) Q (by omega) s;have VD:Go.br.ai VK Vu:=by rw [y];exact cD _
   have Y:=ai.aj VD Vy;have I:Go.br.ai w' Vu:=(p.new VV).new VD;have Vv:=h.new I;clear q s au Q y;refine ⟨λz=>Go.br.ai Vu z,ao.refl _ _,mF (v:=raw[k]) (λz au=>g2 (ai.aj au Y)) ?_⟩;refine ⟨_,_,_,λz au=>(Vv.new au).cl.cell (i:=1) rfl,_,λz au=>(Vv.new au).cl.cell (i:=0) rfl,?_⟩;refine aC (yL _ raw[k] _ _) ?_;rintro r VZ ⟨rfl,H⟩;refine ⟨_,rfl,H,?_⟩;rw [VY.valid];rw [xB VB,GH] at a;refine dw (λV=>?_) (λV=>?_)
   ·rw [if_pos V] at a;rw [a,if_pos V];exact ⟨rfl,d8.same h (I.new H) trivial⟩
   ·rw [if_neg (λo=>o V)] at a;rw [show IntKind.i64.wrap ((k:Int)+1)=((k+1:Nat):Int) by rw [bC (by omega) (by omega)];rfl];exact ⟨vs.length - (k+1),by omega,k+1,_,by omega,rfl,rfl,I.new H,a⟩
  ·have:k=vs.length:=by omega
   subst this;rw [rb,HJ] at a;rw [if_neg (λo=>o a)];rw [Rq];have hu:=h.new p;have VX:bh u la (dP raw).flatten:=bh.new p V3;have VH:en A u raw vs:=Vr.az (ao.b3 p) λ_ _ h=>h
   refine Jg hu VW N U B VX VG VH hle a ?_;intro VJ A' χ' ls aW V9;rw [Rr];have L:=aW.cl;have M:(X.aX.set i { x with aD:=ls })[i]?=some { x with aD:=ls }:=by simp [ch N]
   have F:=L.a3 i _ M;refine ⟨by omega,by omega,by omega,by omega,?_⟩;rintro b1 w1 W q;rw [IW] at q;obtain ⟨Vz,VC⟩:=bl W q;clear q;simp only at Vz;have VM:=L.new VC;have E:av w1 X.aY (fv (X.aX.set i { x with aD:=ls })).flatten jN:=VM.cls;refine ⟨⟨_,k7 (k:=3) E M rfl⟩,E.frozen,?_⟩;intro VK s;obtain ⟨g,O⟩:=kX (k:=3) (c':={ x with aD:=ls,di:=some b1,raw:=List.replicate raw.length ⟨0,none,0,0⟩,batch:=List.replicate vs.length ⟨0,[]⟩ }) E M (by omega) (v:=.slice (some ⟨b1,0,none⟩) (Int.toNat raw.length) (Int.toNat raw.length)) (by simp [cd.cells]);rw [<-s] at g;have VP:ao (λz=>z=X.aY) w1 VK:=by rw [s];exact eV _ _ _ _
   clear s;refine ⟨⟨_,k7 (k:=4) g O rfl⟩,g.frozen,?_⟩;intro Vu y;obtain ⟨d,C⟩:=kX (k:=4) (c':={ x with aD:=ls,di:=some b1,raw:=List.replicate raw.length ⟨0,none,0,0⟩,batch:=List.replicate vs.length ⟨0,[]⟩,waiting:=vs.length }) g O (by omega) (v:=.int .i64 raw.length) (by simp [cd.cells,hlen]);rw [<-y] at d;have VQ:ao (λz=>z=X.aY) VK Vu:=by rw [y];exact eV _ _ _ _
   clear y;refine ⟨_,k7 (k:=5) d C rfl,⟨_,k7 (k:=5) d C rfl⟩,d.frozen,?_⟩;intro VZ Vs;obtain ⟨f,D⟩:=kX (k:=5) (c':={ x with aD:=ls,di:=some b1,raw:=List.replicate raw.length ⟨0,none,0,0⟩,batch:=List.replicate vs.length ⟨0,[]⟩,waiting:=vs.length,kD:=IntKind.i64.wrap (x.kD+1) }) d C (by omega) (v:=.int .i64 (IntKind.i64.wrap (x.kD+1))) (by simp [cd.cells]);rw [<-Vs] at f;have H:ao (λz=>z=X.aY) Vu VZ:=by rw [Vs];exact eV _ _ _ _
   clear Vs;refine ⟨_,k7 (k:=6) f D rfl,⟨_,k7 (k:=6) f D rfl⟩,f.frozen,?_⟩;intro R Vt;obtain ⟨n,V1⟩:=kX (k:=6) (c':={ x with aD:=ls,di:=some b1,raw:=List.replicate raw.length ⟨0,none,0,0⟩,batch:=List.replicate vs.length ⟨0,[]⟩,waiting:=vs.length,kD:=IntKind.i64.wrap (x.kD+1),nt:=IntKind.i64.wrap (x.nt+vs.length) }) f D (by omega) (v:=.int .i64 (IntKind.i64.wrap (x.nt+raw.length))) (by simp [cd.cells,hlen]);rw [<-Vt] at n;have VR:ao (λz=>z=X.aY) VZ R:=by rw [Vt];exact eV _ _ _ _
   clear Vt;have P:ao (λz=>z=X.aY) w1 R:=((VP.trans VQ λ_ _ h=>h).trans H λ_ _ h=>h).trans VR λ_ _ h=>h
   have VS:ao (λz=>χ' z=.aX) w1 R:=P.mono λz _ e=>by rw [e];exact L.fb
   have Z:ao (λz=>χ' z=.aX) VJ R:=(ao.b3 VC).trans VS λ_ _ h=>h
   let K:Nat->Tag:=λk=>if k=b1 then .batch i else χ' k
   have VL:K b1=.batch i:=if_pos rfl;have VI:∀ k,k≠b1->K k=χ' k:=λk G=>by simp only [K];rw [if_neg G]
   have hold:∀ k,k<VJ.heap.size->K k=χ' k:=λk G=>VI k (by omega)
   obtain ⟨m,_⟩:=L.move (T:=λt=>t=.aX) (χ':=K) Z (by simp) (λk G o=>by rw [hold k G] at o;exact o) (λk G _ _=>hold k G);have f1:=a2.cK m F.own F.tag (by simp) (by simp);have Vx:av R b1 (fM (List.replicate raw.length ⟨0,none,0,0⟩)).flatten iM:=by
    have VF:b1≠X.aY:=by have:=L.cls.lt;have e:({ X with aX:=X.aX.set i { x with aD:=ls } }:bQ).aY=X.aY:=rfl;omega
    have:=P.aj Vz VF;simpa using this
   have V_:kq (gi A' χ' K VJ) K R i { x with aD:=ls,di:=some b1,raw:=List.replicate raw.length ⟨0,none,0,0⟩,batch:=List.replicate vs.length ⟨0,[]⟩,waiting:=vs.length,kD:=IntKind.i64.wrap (x.kD+1),nt:=IntKind.i64.wrap (x.nt+vs.length) }:=by
    refine ⟨f1.1,f1.2,λj l V8=>(F.lane j l V8).cK m (by simp) (by simp),(λo=>nomatch o),λb V=>?_,?_⟩
    ·simp only [e8] at V;subst V;exact ⟨Vx,VL⟩
    ·have:=Mo (gi A' χ' K VJ) R vs.length;simpa [hlen] using this
   have V':∀ k,K k≠.cr->k<R.heap.size:=λk o=>by
    by_cases VA:k=b1
    ·rw [VA];exact Vx.lt
    ·rw [VI k VA] at o;exact fX (L.jB o) Z.size
   obtain ⟨aQ,Vw⟩:=L.qY (χ':=K) M (Z.mono λk _ e=>.inl e) (λk G o=>by rw [hold k G] at o;exact o) (λk G _ _=>hold k G) V' (by rw [r_];rw [jf,jf,jf] at n;exact n) (by rw [hold _ L.cls.lt];exact L.fb) V_
   rw [jf] at Vw;refine ⟨rfl,_,_,_,((h.refl p).trans aW.next).trans aQ,Vw,?_,trivial⟩;refine (bQ.xt X i _).trans ?_;congr 1;have V2:=aW.pure;rw [rb,HI] at V2;simp only [bP.kz,<-V2];simp [cd.pure]
end
end Go.Proofs.YtmkljjbioomepaaGreat
