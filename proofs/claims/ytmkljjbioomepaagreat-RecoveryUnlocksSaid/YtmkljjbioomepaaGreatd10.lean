import Derived.Test.YtmkljjbioomepaaGreatd09
set_option linter.all false
set_option maxHeartbeats 4000000
set_option maxRecDepth 100000
namespace Go.Proofs.YtmkljjbioomepaaGreat
open Go.Proofs.Tryz Go.bs
variable {A A':a6} {X:bR} {ap la c4:an} {dr aY aJ i j k lcap fP:Nat} {c c' x:cn} {cs:List cn} {l:dk} {ls:List dk} {p':dF} {raw:List aG} {v bj:aG} {vs:List aQ} {w w':ak} {aw χ':Nat->Tag}
section
theorem b6.jV (h:b6 A aw w aJ X) (a:aw k≠.cx):k<w.heap.size:=h.low k (h.e9 k a)
theorem b6.fresh (h:b6 A aw w aJ X) (b:w.heap.size<=k):aw k=.cx:=by
 by_cases a:aw k=.cx
 ·exact a
 ·have:=h.jV a;omega
theorem b6.refl {A:a6} {aw:Nat->Tag} {w w':ak} {aJ:Nat} {X:bR} (h:b6 A aw w aJ X) (a:ai w w'):Next A A aw aw w w':=Next.refl h.e9 h.low a
def dR (A:a6) (aw:Nat->Tag) (w:ak) (aJ:Nat) (F:aE) (w':ak) (K:(a6)->Prop):Prop:=∃ A' χ' a,Next A A' aw χ' w w'/\b6 A' χ' w' aJ a/\a.pure=F/\K A'
theorem dR.same (h:b6 A aw w aJ X) (a:ai w w') {K:(a6)->Prop} (b:K A):dR A aw w aJ X.pure w' K:=⟨A,aw,X,h.refl a,h.new a,rfl,b⟩
def l7 (i:Nat) (t:Tag):Prop:=t=.aR\/iO i t
theorem E4 (h:i≠j):∀ t,iO j t->¬ l7 i t:=by intro t a;cases t<;>simp [iO,l7] at a ⊢<;>omega
theorem bR.x8 (X:bR) (i:Nat) (c:cn):({ X with aR:=X.aR.set i c }:bR).pure=X.pure.dO i c.pure:=by simp [bR.pure,aE.dO,iH]
theorem b6.q_ (h:b6 A aw w aJ X) (b:X.aR[i]?=some c)
  (g:ao (λk=>l7 i (aw k)) w w') (n:∀ k,k<w.heap.size->χ' k≠.cx->aw k≠.cx) (q:∀ k,k<w.heap.size->¬ l7 i (aw k)->aw k≠.cx->χ' k=aw k) (o:∀ k,χ' k≠.cx->k<w'.heap.size)
  (f:av w' X.aY ((fL X.aR).set i c'.cells).flatten j8) (e:χ' X.aY=.aR) (d:pp (gC A aw χ' w) χ' w' i c') :
  Next A (gC A aw χ' w) aw χ' w w'/\b6 (gC A aw χ' w) χ' w' aJ { X with aR:=X.aR.set i c' }:=by
 obtain ⟨m,aU⟩:=h.move g (by simp [l7,iO]) n q;have f1:=av.cU m h.ck h.gT (by simp [l7,iO]) (by simp);have f2:=a1.cU m h.nodes h.jY (by simp [l7,iO]) (by simp);have f3:=a1.cU m h.gb h.ki (by simp [l7,iO]) (by simp);refine ⟨aU,m.mo,λk b=>?_,?_,f1.2,f2.1,f2.2,λj x r=>(h.node j x r).cU m (by simp [l7,iO]) (by simp [l7,iO]),?_,e,λj y a=>?_,f3.1,f3.2,λp l=>dM.cU m (h.eC p l).1 (h.eC p l).2 (by simp [l7,iO]) (by simp),h.nodup⟩
 ·rcases b with b | b
  ·exact o k b
  ·exact gi b.1 g.size
 ·simpa [bR.cells] using f1.1
 ·rw [sK] at f;exact f
 ·simp only [im] at a;split at a
  ·rename_i he;subst he;split at a
   ·simp only [fg] at a;subst a;exact d
   ·cases a
  ·rename_i he;exact (h.aW j y a).cU m (E4 he)
theorem E5 (h:av w aY (fL cs).flatten j8) (a:cs[i]?=some c) (b:k<7) (v:a4) :
  av (w.setCell ⟨aY,0+i * 7+k,none⟩ v) aY ((fL cs).set i (c.cells.set k v)).flatten j8:=by
 rw [gM];have:=h.setCell (i:=i * 7+k) v;rw [y1 (Bp cs) v (u3 a) b] at this;exact this
open Classical in
theorem Ph (h:b6 A aw w aJ X) (c:Int):bb 64 [ptr aJ,.int .i64 c] w λv w'=>
  dR A aw w aJ (X.pure.take c).2 w' λA'=>match (X.pure.take c).1 with
   |none=>v=.tuple #[.slice none 0 0,.bool false]
   |some ds=>∃ b raw,v=.tuple #[.slice (some ⟨b,0,none⟩) ds.length ds.length,.bool true]/\av w' b (fW raw).flatten jd/\g6 A' w' raw ds/\¬ A' b:=by
 refine bd Tryz.func64 ?_;rw [ptr,Vo];rcases X.sk c with ⟨f,u⟩ | ⟨i,x,rfl,f,u⟩
 ·refine aD (uO h u) ?_;rintro v w' ⟨rfl,rfl⟩;have q:X.pure.take c=(none,X.pure):=by simp [aE.take,f]
  refine ⟨_,rfl,?_⟩;rw [q];exact dR.same h (ao.refl _ _) rfl
 ·refine aD (sC h f) ?_;rintro v w' ⟨rfl,rfl⟩;refine ⟨_,rfl,⟨_,h.iy (k:=0) f rfl,ev (λB=>?_) (λB=>?_)⟩⟩
  ·have q:X.pure.take i=(none,X.pure):=by simp [aE.take,u,cn.pure,B]
   rw [q];exact dR.same h (ao.refl _ _) rfl
  have d:=h.aW i x f;refine ⟨_,_,_,h.iy (k:=3) f rfl,?_⟩;cases g:x.dm with
  |none=>
   have q:X.pure.take i=(none,X.pure):=by simp [aE.take,u,cn.pure,B,g]
   rw [q];exact dR.same h (ao.refl _ _) rfl
  |some b=>
   refine ⟨_,h.iy (k:=4) f rfl,bc (λhw=>?_) (λhw=>?_)⟩
   ·have q:X.pure.take i=(none,X.pure):=by
     have:0<x.waiting:=by omega
     simp [aE.take,u,cn.pure,B,g,this]
    rw [q];exact dR.same h (ao.refl _ _) rfl
   ·have q:X.pure.take i=(some x.batch,X.pure.dO i { x.pure with batch:=none }):=by
     have:x.waiting=0:=by omega
     simp [aE.take,u,cn.pure,B,g,this]
    rw [q];refine ⟨_,_,_,h.iy (k:=3) f rfl,⟨⟨_,h.iy (k:=3) f rfl⟩,?_,?_⟩⟩
    ·exact h.cls.frozen
    intro y s;have D:av y X.aY ((fL X.aR).set i (x.cells.set 3 (.slice none 0 0))).flatten j8:=by rw [s];exact E5 h.cls f (by omega) _
    have C:ao (λk=>k=X.aY) w' y:=by rw [s];exact eX _ _ _ _
    clear s;let χ':Nat->Tag:=λk=>if aw k=.batch i then .cx else aw k
    have n:∀ k,χ' k≠.cx->aw k≠.cx/\aw k≠.batch i/\χ' k=aw k:=by
     intro k a;simp only [χ'] at a ⊢;split at a
     ·exact absurd rfl a
     ·rename_i r;exact ⟨a,r,by rw [if_neg r]⟩
    have o:=d.batch b g;have G:∀ k,aw k≠.batch i->χ' k=aw k:=λk r=>by simp only [χ'];rw [if_neg r]
    have p:ao (λk=>aw k=.aR) w' y:=C.mono λk _ e=>by rw [e];exact h.fk
    obtain ⟨m,_⟩:=h.move (χ':=χ') (T:=λt=>t=.aR\/t=.batch i) (w':=y) (p.mono λk _ e=>.inl e) (by simp) (λk _ a=>(n k a).1) (λk _ r _=>G k λe=>r (.inr e));have f1:=a1.cU m d.own d.tag (by simp) (by simp);obtain ⟨aU,H⟩:=h.q_ (χ':=χ') (w':=y) (c':={ x with dm:=none,raw:=[],batch:=[] }) f (p.mono λk _ e=>.inl e) (λk _ a=>(n k a).1) (λk _ r _=>G k λe=>r (.inr (by rw [e];rfl)))
     (λk a=>gi (h.jV (n k a).1) C.size) D (by rw [G _ (by rw [h.fk];simp),h.fk])
     ⟨f1.1,f1.2,λj l J=>(d.lane j l J).cU m (by simp) (by simp),λ_=>⟨rfl,rfl⟩,(λ_ I=>nomatch I),⟨rfl,λ_ _ _ a=>by simp at a⟩⟩
    have F:¬ gC A aw χ' w' b:=by
     rintro (a | ⟨_,_,a⟩)
     ·exact (n b a).2.1 o.2
     ·rw [o.2] at a;cases a
    have E:av y b (fW x.raw).flatten jd:=p.aj o.1 (by rw [o.2];simp);refine ⟨_,χ',_,aU,H,?_,b,x.raw,?_,E,d.ds.aA (p.mono λk _ e=>h.e9 k (by rw [e];simp)) λk K z=>?_,F⟩
    ·rw [bR.x8];simp [cn.pure]
    ·have:=d.ds.1;rw [g,this];rfl
    ·rcases z with z | z
     ·exact h.e9 k (n k z).1
     ·exact z.2.1
theorem pp.He {T:Tag->Prop} (m:lA T A A' aw χ' w w') {l':dk} (h:pp A aw w i c) (l:∀ t,iO i t->T t->t=.az i\/t=.lane i j\/t=.bC i j)
  (a:a1 w' lP 2 c.la c.az.length c.lc ((hc c.az).set j l'.cells).flatten) (g:∀ k,aL c.la k->χ' k=.az i) (o:tC A' χ' w' i j l'):pp A' χ' w' i { c with az:=c.az.set j l' }:=by
 refine ⟨?_,g,λk y d=>?_,h.none,λb n=>?_,h.ds.aA m.sA m.old⟩
 ·rw [Km] at a;simpa using a
 ·simp only [im] at d;split at d
  ·rename_i he;subst he;split at d
   ·simp only [fg] at d;subst d;exact o
   ·cases d
  ·rename_i he;refine (h.lane k y d).cU m (λf=>?_) (λf=>?_)
   ·rcases l (.lane i k) rfl f with e | e | e
    ·cases e
    ·simp at e;exact he e.symm
    ·cases e
   ·rcases l (.bC i k) rfl f with e | e | e
    ·cases e
    ·cases e
    ·simp at e;exact he e.symm
 ·refine av.cU m (h.batch b n).1 (h.batch b n).2 (λf=>?_) (by simp);rcases l (.batch i) rfl f with e | e | e<;>cases e
theorem lm {α:Type} {l:List α} {x:α} (h:l[i]?=some x):l.set i x=l:=by
 apply jK;intro k;rw [im];split
 ·rename_i he;subst he;rw [if_pos (b3 h),h]
 ·rfl
def ib (i j n:Nat) (t:Tag):Prop:=t=.lane i j\/t=.word n
theorem b6.Hg (h:b6 A aw w aJ X) {n:Nat} {y:hF} (f:X.aR[i]?=some c) (F:c.az[j]?=some l) (G:X.nodes[n]?=some y)
  (E:ao (λk=>ib i j n (aw k)) w w') (H:∀ k,k<w.heap.size->χ' k≠.cx->aw k≠.cx) (D:∀ k,k<w.heap.size->aw k≠.lane i j->χ' k=aw k) (o:∀ k,χ' k≠.cx->k<w'.heap.size)
  {n':aN} (C:ea w' y.b y.aH n') (s:dM (gC A aw χ' w) w' l.pb p') (I:∀ k,p'.mut l.pb k->χ' k=.lane i j) :
  Next A (gC A aw χ' w) aw χ' w w'/\b6 (gC A aw χ' w) χ' w' aJ { X with nodes:=X.nodes.set n { y with n:=n' },aR:=X.aR.set i { c with az:=c.az.set j { l with p:=p' } } }:=by
 obtain ⟨m,aU⟩:=h.move (T:=ib i j n) E (by simp [ib]) H (λk B C _=>D k B λe=>C (.inl e));have f1:=av.cU m h.ck h.gT (by simp [ib]) (by simp);have f2:=a1.cU m h.nodes h.jY (by simp [ib]) (by simp);have f3:=a1.cU m h.gb h.ki (by simp [ib]) (by simp);have f4:=av.cU m h.cls h.fk (by simp [ib]) (by simp);have a:=h.node n y G;have d:=h.aW i c f;refine ⟨aU,m.mo,λk f=>?_,?_,f1.2,?_,f2.2,?_,?_,f4.2,λq z au=>?_,f3.1,f3.2,λp s=>dM.cU m (h.eC p s).1 (h.eC p s).2 (by simp [ib]) (by simp),h.nodup⟩
 ·rcases f with f | f
  ·exact o k f
  ·exact gi f.1 E.size
 ·simpa [bR.cells] using f1.1
 ·have e:((X.nodes.set n { y with n:=n' }).map λx=>ptr x.b)=X.nodes.map λx=>ptr x.b:=by rw [iH];exact lm (by simp [G])
  rw [e];simpa using f2.1
 ·intro q z au;simp only [im] at au;split at au
  ·rename_i he;subst he;split at au
   ·simp only [fg] at au;subst au;exact ⟨C,by rw [D _ a.node.node.lt (by rw [a.tag];simp)];exact a.tag,by rw [D _ a.node.words.lt (by rw [a.j5];simp)];exact a.j5⟩
   ·cases au
  ·rename_i he;exact (h.node q z au).cU m (by simp [ib]) (by simp [ib];exact λe=>he e.symm)
 ·have e:fL (X.aR.set i { c with az:=c.az.set j { l with p:=p' } })=fL X.aR:=by simp only [fL,iH];refine lm ?_;simp [f,cn.cells]
  rw [e];exact f4.1
 ·simp only [im] at au;split at au
  ·rename_i he;subst he;split at au
   ·simp only [fg] at au;subst au;have f5:=a1.cU m d.own d.tag (by simp [ib]) (by simp);have r:=d.lane j l F;refine d.He m (λt g u=>?_) ?_ f5.2 ?_
    ·rcases u with e | e
     ·exact .inr (.inl e)
     ·rw [e] at g;cases g
    ·have e:(hc c.az).set j ({ l with p:=p' }:dk).cells=hc c.az:=lm (by rw [mz F];rfl);rw [e];exact f5.1
    ·have f6:=a1.cU m r.bC r.sG (by simp [ib]) (by simp);exact ⟨s,I,f6.1,f6.2⟩
   ·cases au
  ·rename_i he;refine (h.aW q z au).cU m (λt g u=>?_);rcases u with e | e
   ·rw [e] at g;exact he g
   ·rw [e] at g;cases g
end
section
theorem a1.row {w:ak} {e sz n cap:Nat} {a:an} {rows:List ax} (h:a1 w e sz a n cap rows.flatten) (j:∀ r ∈ rows,r.length=sz) (au:0<sz) {i:Nat} {r:ax} (f:rows[i]?=some r) :
  ∃ g,a=some ⟨g,0,none⟩/\i<n/\(∃ cs,av w g cs e)/\cf w ⟨g,0+i * sz,none⟩ 0 r/\∀ k v,r[k]?=some v->w.cell? ⟨g,0+i * sz+k,none⟩=some v:=by
 obtain ⟨b,o,c,p,q⟩:=h.rd.row j au f;rcases h.2 with ⟨l,_⟩ | ⟨bW,cur,he,d,hle,s,t,u⟩
 ·rw [l] at c;cases c
 ·rw [he] at c;simp only [fg,Addr.mk.injEq,and_true] at c;obtain ⟨rfl,rfl⟩:=c;refine ⟨bW,he,?_,⟨cur,d⟩,p,q⟩;have hlen:=h.1;rw [mx j] at hlen;have:=b3 f;exact Nat.lt_of_lt_of_eq this (Nat.eq_of_mul_eq_mul_right au hlen)
def ra (i j:Nat) (t:Tag):Prop:=t=.bC i j\/t=.az i
open Classical in
theorem b6.Hh (h:b6 A aw w aJ X) (b:X.aR[i]?=some c) (D:c.az[j]?=some l)
  (o:ao (λk=>ra i j (aw k)) w w') {a:cT} (p:∀ k,aL ap k->aw k=.bC i j\/w.heap.size<=k) (n:a1 w' mj 1 ap a.length dr (is (a.map Int.ofNat)))
  (q:a1 w' lP 2 c.la c.az.length c.lc ((hc c.az).set j (dk.cells { l with bC:=a,kN:=ap,ln:=dr })).flatten) :
  ∃ A' χ',Next A A' aw χ' w w'/\b6 A' χ' w' aJ { X with aR:=X.aR.set i { c with az:=c.az.set j { l with bC:=a,kN:=ap,ln:=dr } } }:=by
 let χ':Nat->Tag:=λk=>if aL ap k then .bC i j else aw k
 have B:∀ k,aL ap k->χ' k=.bC i j:=λk o=>by simp only [χ'];rw [if_pos o]
 have u:∀ k,¬ aL ap k->χ' k=aw k:=λk o=>by simp only [χ'];rw [if_neg o]
 have y:∀ k,k<w.heap.size->χ' k≠.cx->aw k≠.cx:=by
  intro k g b;by_cases d:aL ap k
  ·rcases p k d with e | e
   ·rw [e];simp
   ·omega
  ·rw [u k d] at b;exact b
 have s:∀ k,k<w.heap.size->aw k≠.bC i j->χ' k=aw k:=by
  intro k g b;by_cases d:aL ap k
  ·rcases p k d with e | e
   ·exact absurd e b
   ·omega
  ·exact u k d
 have f:=h.aW i c b;have r:=f.lane j l D;obtain ⟨m,_⟩:=h.move (T:=ra i j) (χ':=χ') o (by simp [ra]) y (λk g x _=>s k g λe=>x (.inl e));obtain ⟨z,b2⟩:=dM.cU m r.pair r.tag (by simp [ra]) (by simp);have F:ao (λk=>l7 i (aw k)) w w':=o.mono λk _ b=>by
  rcases b with e | e
  ·exact .inr (by rw [e];rfl)
  ·exact .inr (by rw [e];rfl)
 have G:∀ k,χ' k≠.cx->k<w'.heap.size:=λk b=>by
  by_cases d:aL ap k
  ·exact n.lt d
  ·rw [u k d] at b;exact gi (h.jV b) o.size
 have H:av w' X.aY ((fL X.aR).set i (cn.cells { c with az:=c.az.set j { l with bC:=a,kN:=ap,ln:=dr } })).flatten j8:=by have e:(fL X.aR).set i (cn.cells { c with az:=c.az.set j { l with bC:=a,kN:=ap,ln:=dr } })=fL X.aR:=lm (by rw [u3 b];simp [cn.cells]);rw [e];exact (av.cU m h.cls h.fk (by simp [ra]) (by simp)).1
 have I:pp (gC A aw χ' w) χ' w' i { c with az:=c.az.set j { l with bC:=a,kN:=ap,ln:=dr } }:=by refine f.He m (λt _ E=>E.elim (λe=>.inr (.inr e)) .inl) q (λk d=>?_) ⟨z,b2,n,B⟩;rw [s k (f.own.lt d) (by rw [f.tag k d];simp)];exact f.tag k d
 obtain ⟨aU,C⟩:=h.q_ b F y (λk g x _=>s k g λe=>x (.inr (by rw [e];rfl))) G H (by rw [s _ h.cls.lt (by rw [h.fk];simp)];exact h.fk) I;exact ⟨_,_,aU,C⟩
theorem IM (C:bh) (k:Nat):C.fc k []=C:=rfl
theorem Hz (C:bh) (k:Nat) (v:aQ) (vs:List aQ):C.fc k (v::vs)=(C.e5 k v).fc (k+1) vs:=rfl
structure wo (A:a6) (aw:Nat->Tag) (w:ak) (aJ:Nat) (X:bR) (i:Nat) (x:cn) (vs:List aQ) (k:Nat) (u:ak) (A':a6) (χ':Nat->Tag) (ls:List dk):Prop where
 next:Next A A' aw χ' w u
 ck:b6 A' χ' u aJ { X with aR:=X.aR.set i { x with az:=ls } }
 pure:(cn.pure { x with az:=ls }).fc k (vs.drop k)=x.pure.fc 0 vs
 len:ls.length=X.nodes.length
 lane:∀ (j:Nat) (l:dk),ls[j]?=some l->l.p.node=j/\l.p.a3.length<=k/\l.bC.length<=k
theorem jv {α:Type} (l:List α) (i:Nat) (a b:α):(l.set i a).set i b=l.set i b:=List.set_set ..
open Classical in
theorem Lw {u:ak}
  (a':wo A aw w aJ X i x vs k u A' χ' ls) (Q:i<X.aR.length) (al:k<vs.length) (U:vs.length<=1024) (K:ls[j]?=some l) (P:vs[k].node=j) (N:0<X.nodes.length)
  {w1:ak} (F:p'=l.p.post bj vs[k] c4 fP)
  (r:∀ M':a6,t_ A' M' u (aL c4)->(∀ k,p'.mut l.pb k->M' k)->dM M' w1 l.pb p') (g:ao (λk=>k=l.pb\/aL l.p.c4 k) u w1) (G:c4=l.p.c4\/∀ k,aL c4 k->u.heap.size<=k) (B:∀ k,aL c4 k->k<w1.heap.size) :
  ∃ I d,Next A' I χ' d u w1/\b6 I d w1 aJ { X with aR:=X.aR.set i { x with az:=ls.set j { l with p:=p' } } }:=by
 have h:=a'.ck;have f:(X.aR.set i { x with az:=ls })[i]?=some { x with az:=ls }:=by simp [Q]
 have D:=h.aW i _ f;have o:=D.lane j l K;obtain ⟨y,H⟩:∃ y,X.nodes[0]?=some y:=⟨X.nodes[0],by simp [N]⟩;have s:=h.node 0 y H;let d:Nat->Tag:=λk=>if aL c4 k then .lane i j else χ' k
 have C:∀ k,aL c4 k->d k=.lane i j:=λk a=>by simp only [d];rw [if_pos a]
 have t:∀ k,¬ aL c4 k->d k=χ' k:=λk a=>by simp only [d];rw [if_neg a]
 have q:∀ k,aL c4 k->χ' k=.lane i j\/u.heap.size<=k:=by
  intro k a;rcases G with e | e
  ·exact .inl (o.tag k (.inr (.inl (e▸a))))
  ·exact .inr (e k a)
 have M:∀ k,k<u.heap.size->d k≠.cx->χ' k≠.cx:=by
  intro k E f;by_cases c:aL c4 k
  ·rcases q k c with e | e
   ·rw [e];simp
   ·omega
  ·rw [t k c] at f;exact f
 have O:∀ k,k<u.heap.size->χ' k≠.lane i j->d k=χ' k:=by
  intro k E f;by_cases c:aL c4 k
  ·rcases q k c with e | e
   ·exact absurd e f
   ·omega
  ·exact t k c
 have L:∀ k,p'.mut l.pb k->d k=.lane i j:=by
  subst F;rintro k (a | a | a)
  ·by_cases c:aL c4 k
   ·exact C k c
   ·rw [t k c];exact o.tag k (.inl a)
  ·exact C k a
  ·by_cases c:aL c4 k
   ·exact C k c
   ·rw [t k c];exact o.tag k (.inr (.inr a))
 have z:ao (λk=>χ' k=.lane i j) u w1:=g.mono λk _ f=>o.tag k (f.elim .inl λe=>.inr (.inl e))
 have R:∀ k,d k≠.cx->k<w1.heap.size:=λk f=>by
  by_cases c:aL c4 k
  ·exact B k c
  ·rw [t k c] at f;exact gi (h.jV f) g.size
 have S:ea w1 y.b y.aH y.n:=s.node.aA z (by rw [s.tag];simp) (by rw [s.j5];simp);have T:dM (gC A' χ' d u) w1 l.pb p':=by
  refine r _ (λk a=>?_) (λk a=>.inl (by rw [L k a];simp));rcases a with a | a
  ·by_cases c:aL c4 k
   ·exact .inr c
   ·rw [t k c] at a;exact .inl ⟨h.jV a,h.e9 k a⟩
  ·exact .inl ⟨a.1,a.2.1⟩
 obtain ⟨aU,J⟩:=h.Hg (χ':=d) (n':=y.n) (p':=p') f K H (z.mono λk _ e=>.inl e) M O R S T L;rw [lm H,jv] at J;exact ⟨_,_,aU,J⟩
theorem IN (a b:Int):jS a b []=0:=rfl
theorem HA (a b:Int) (v:aQ) (vs:List aQ):jS a b (v::vs)=if v.v.valid a b≠0 then v.v.valid a b else jS a b vs:=rfl
theorem HB {a b:Int}:∀ {vs:List aQ},jS a b vs=0->∀ v ∈ vs,v.v.valid a b=0
 | [],_,v,al=>by cases al
 |x::xs,h,v,al=>by
  rw [HA] at h;split at h
  ·contradiction
  ·rename_i c;rcases eU.1 al with e | e
   ·subst e;exact Decidable.not_not.1 c
   ·exact HB h v e
theorem Jp {a b:Int} (h:v.valid a b=0):0<=v.Node/\v.Node<a/\v.valid 5 b=0:=by obtain ⟨f,e⟩:=x' h;have c:=i0 e;refine ⟨c.2.2.2.2.1,c.2.2.2.2.2.1,?_⟩;have d:v.inside 5 b=true:=decide_eq_true ⟨by omega,by omega,c.2.2.1,c.2.2.2.1,c.2.2.2.2.1,by omega,c.2.2.2.2.2.2⟩;unfold aG.valid at h ⊢;rw [e] at h;rw [d];exact h
theorem IC {v:aQ} (c:ls[j]?=some l) (al:v.node=j) :
  cn.pure { x with az:=ls.set j ⟨l.pb,l.p.post bj v c4 fP,l.bC++[k],ap,dr⟩ }=(cn.pure { x with az:=ls }).e5 k v:=by
 simp only [cn.pure,bh.e5,bh.mk.injEq,true_and,and_true];rw [al,iH,fD];apply jK;intro q;rw [im,rA];have a:=b3 c;by_cases he:j=q
 ·subst he;have b:ls[j]=l:=by simpa [a] using c
  simp [a,b,dk.pure,dF.post,dF.pure]
 ·simp [he]
theorem Pj (a:cT) (k:Nat):is ((a++[k]).map Int.ofNat)=is (a.map Int.ofNat)++[.int .i64 k]:=by simp [is]
theorem bk.next (n:Next A A' aw χ' w w') (f:∀ k,aw k≠.cx->A k) {a:an} {xs:ax} (h:bk w a xs) (c:xs=[]\/gA A a):bk w' a xs/\(xs=[]\/gA A' a):=by
 refine ⟨h.aA (n.aA.mono λk _ b=>f k b) c,?_⟩;by_cases e:xs=[]
 ·exact .inl e
 ·refine .inr ?_;rcases c with c | c
  ·exact absurd c e
  ·cases a with
   |none=>trivial
   |some a=>
    intro b;have d:=h.lt e;rcases (n.iff _).1 b with b | b
    ·exact c (f _ (n.grow _ d b))
    ·exact c b.2.1
theorem cL.next (n:Next A A' aw χ' w w') (c:∀ k,aw k≠.cx->A k) {x:aQ} (h:cL A w v x):cL A' w' v x:=
 h.aA (n.aA.mono λk _ a=>c k a) λk b a=>by
  rcases (n.iff _).1 a with a | a
  ·exact c _ (n.grow _ b a)
  ·exact a.2.1
theorem yf {α:Type} {l:List α} (h:k<l.length):l.drop k=l[k]::l.drop (k+1):=oZ h
theorem Kq (h:b6 A aw w aJ X) (X1:n9 X.pure) (YL:X.aR[i]?=some x) (Ym:x.alive=true) (Yq:x.dm=none)
  (Y4:bk w la (dP raw).flatten) (X0:(dP raw).flatten=[]\/gA A la) (X6:et A w raw vs) (Y3:vs.length<=1024) (XA:jS X.nodes.length X.lines vs=0)
  {j:ax} {R:cz} (YV:∀ u A' χ' ls,wo A aw w aJ X i x vs vs.length u A' χ' ls->∀ Yh,W prog (sub (bn f66) [1,1,1,1,1]) (Au la raw.length lcap (some ⟨X.aY,0+i * 7,none⟩) Yh) (dC prog f66 R) u) :
  cG prog (.loop (sub (bn f66) [1,1,1,1,0,1,0,0])) (uA ⟨aJ,0,none⟩ la raw.length lcap (some ⟨X.aY,0+i * 7,none⟩) la raw.length lcap raw.length 0 j)
   (aP 3 (aZ (λenv w=>W prog (sub (bn f66) [1,1,1,1,1]) env (dC prog f66 R) w) (dC prog f66 R))) w:=by
 have hlen:raw.length=vs.length:=X6.1;have XK:=b3 YL;have O:=X1.aW i x.pure (by simp [bR.pure,YL]);have YB:x.az.length=X.nodes.length:=by have:=O.az;simp [cn.pure,Ym,bR.pure] at this;exact this
 have YG:=X1.nodes;have XG:gz x.pure.az=0:=by have Yf:=O.waiting;have YU:=O.batch.1;simp [cn.pure,Yq] at YU;have Zb:x.pure.waiting=x.waiting:=rfl;omega
 have S:∀ (q:Nat) (l:dk),x.az[q]?=some l->l.p.node=q/\l.p.a3.length<=0/\l.bC.length<=0:=by
  intro q l YA;have XZ:=O.lane q l.pure (by simp [cn.pure,YA]);have au:l.p.a3.length=0:=by
   have hm:l.pure.pair.a3.length ∈ x.pure.az.map λl=>l.pair.a3.length:=cZ.2 ⟨l.pure,b5 (i:=q) (by simp [cn.pure,YA]),rfl⟩
   have:=List.sum_eq_zero_iff_forall_eq_nat.1 XG _ hm;exact this
  have YH:=XZ.bC;refine ⟨XZ.node,by omega,?_⟩;have:l.pure.bC.length=l.pure.pair.a3.length:=YH;have e:l.pure.pair.a3.length=l.p.a3.length:=rfl;have Za:l.pure.bC.length=l.bC.length:=rfl;omega
 refine c8 mix (λm env u=>∃ (k:Nat) (Yh:ax) (A':a6) (χ':Nat->Tag) (ls:List dk),k<=vs.length/\m=vs.length - k/\env=uA ⟨aJ,0,none⟩ la raw.length lcap (some ⟨X.aY,0+i * 7,none⟩) la raw.length lcap raw.length k Yh/\
   wo A aw w aJ X i x vs k u A' χ' ls) vs.length ⟨0,_,A,aw,x.az,by omega,by omega,rfl,h.refl (ao.refl _ _),?_,rfl,YB,S⟩ ?_
 ·have:({ x with az:=x.az }:cn)=x:=rfl;rw [this,lm YL];exact h
 rintro m env u ⟨k,Yh,A',χ',ls,F,rfl,rfl,a'⟩;rw [Tj];refine bc (λYC=>?_) (λYC=>?_)
 ·have Q:k<vs.length:=by omega
  have Yz:k<raw.length:=by omega
  have al:raw[k]?=some raw[k]:=by simp [Yz]
  have X7:cL A w raw[k] vs[k]:=X6.2 k _ _ al (by simp [Q]);have X8:cL A' u raw[k] vs[k]:=X7.next a'.next h.e9;obtain ⟨YI,Y5⟩:=bk.next a'.next h.e9 Y4 X0;obtain ⟨Y',dw,rfl,Ys,Yt⟩:=YI.row (u2 raw) (by omega) (Bo al);have X5:=HB XA vs[k] (kY Q);obtain ⟨YD,YE,XI⟩:=Jp X5;have XE:vs[k].v.Node=vs[k].node:=rfl;rw [XE] at YD YE;have YJ:raw[k].Node=vs[k].node:=by rw [X7.eq];rfl
  obtain ⟨q,Yg⟩:∃ q:Nat,vs[k].node=q:=⟨vs[k].node.toNat,by omega⟩;have X3:q<ls.length:=by rw [a'.len];omega
  have XL:ls[q]?=some ls[q]:=by simp [X3]
  generalize YA:ls[q]=l at XL;obtain ⟨XX,Y1,Y2⟩:=a'.lane q l XL;have Xz:(X.aR.set i { x with az:=ls })[i]?=some { x with az:=ls }:=by simp [XK]
  refine ej (by omega) (by omega) ?_;refine jl (v:=raw[k]) (by simpa using Ys) ?_;rintro b1 w1 Yo X_;obtain ⟨au,Xv⟩:=bl Yo X_;refine ⟨gq (vs:=aG.cells raw[k]) au (by simp [aG.cells]) (aG.single raw[k]),?_⟩;rintro Y7 X' Yi Ya;obtain ⟨XS,YF⟩:=oK (vs:=aG.cells raw[k]) au (by simp [aG.cells]) Xv (by omega) X';have XY:Go.bs.ai Y7 Yi:=by rw [Ya];exact cK _
  have G:=ai.aj XY XS;have Xw:Go.bs.ai u Yi:=YF.new XY;have XO:=a'.ck.new Xw;clear X_ X' au Xv Ya;refine ⟨λz=>Go.bs.ai Yi z,ao.refl _ _,_,_,_,λz au=>(XO.new au).iy (k:=2) Xz rfl,_,λz au=>(ai.aj au G).cell (i:=1) rfl,?_⟩;obtain ⟨g,Yu,YZ,⟨YT,YX⟩,YY,Yw⟩:=a1.row (XO.aW i _ Xz).own (nH ls) (by omega) (mz XL);show bA x.la ls.length raw[k].Node 2 _;have I:x.la=some ⟨g,0,none⟩:=Yu;rw [I,YJ,Yg];refine ej (by omega) (by omega) ?_;rw [fD];intro XM Yb;have XD:Go.bs.ai Yi XM:=by rw [Yb];exact cK _
  clear Yb;have Xy:=ai.aj XD G;have L:Go.bs.ai u XM:=Xw.new XD;have Xx:=a'.ck.new L;have XT:=Xx.aW i _ Xz;have B:=XT.lane q l XL;refine ⟨λz=>Go.bs.ai XM z,ao.refl _ _,some ⟨l.pb,0,none⟩,λz au=>?_,?_⟩
  ·exact jQ (XD.new au) (Yw 0 _ rfl) id
  refine mQ (v:=raw[k]) (λz au=>hf (ai.aj au Xy)) ?_;refine ⟨_,λz au=>(Xx.new au).ck.cell (i:=0) rfl,?_⟩;have X9:cL A' XM raw[k] vs[k]:=X8.aA (ao.b9 L) λ_ _ h=>h
  refine aD (NF B.pair X9 XI (by rw [Yg];exact XX.symm) (by omega)) ?_;rintro r Y8 ⟨rfl,bj,c4,fP,N,XB,YK⟩;have XH:∀ k,aL c4 k->k<Y8.heap.size:=by
   intro b YW;have YH:=N (λk=>(k<XM.heap.size/\A' k)\/aL c4 k) (λk F=>F) (λk F=>?_)
   ·exact YH.own.lt YW
   ·rcases F with F | F | F
    ·exact .inl ⟨F▸B.pair.aj.lt,B.pair.iz k (.inl F)⟩
    ·exact .inr F
    ·exact .inl ⟨B.pair.ks.lt F,B.pair.iz k (.inr (.inr F))⟩
  have YQ:wo A aw w aJ X i x vs k XM A' χ' ls:=⟨a'.next.new L,Xx,a'.pure,a'.len,a'.lane⟩;obtain ⟨Y_,Yl,YO,XP⟩:=Lw YQ XK Q Y3 XL Yg (by have:=YG.1;simp [bR.pure] at this;omega) rfl N XB YK XH;have H:(X.aR.set i { x with az:=ls.set q { l with p:=l.p.post bj vs[k] c4 fP } })[i]?=some { x with az:=ls.set q { l with p:=l.p.post bj vs[k] c4 fP } }:=by simp [XK]
  have J:(ls.set q { l with p:=l.p.post bj vs[k] c4 fP })[q]?=some { l with p:=l.p.post bj vs[k] c4 fP }:=by simp [X3]
  have d:=XP.aW i _ H;have YR:=d.lane q _ J;obtain ⟨bW,f,_,⟨XN,Y⟩,_,Z⟩:=a1.row d.own (nH _) (by omega) (mz J);have Yv:bW=g:=by have:x.la=some ⟨bW,0,none⟩:=f;rw [I] at this;simp at this;exact this.symm
  subst Yv;refine ⟨_,rfl,_,_,_,Z 1 _ rfl,?_⟩;rintro aB Yj Yp Yc;obtain ⟨YM,E⟩:=bl Yp Yc;have XQ:=XP.new E;clear Yc;have K:=(XQ.aW i _ H).lane q _ J;obtain ⟨Y6,Y0,YN,U,Yr⟩:=fV (T:=3) (z:=.int .i64 0) (n:=1) (m:=8) (by kernel_rfl);have X2:a1 Yj 3 Y6.size l.kN l.bC.length l.ln (is (l.bC.map Int.ofNat)):=by rw [U];exact K.bC
  obtain ⟨ap,dr,Ye,X4,M,Yy,Yn⟩:=X2.append (P:=prog) (t:=22) (ty:=22) Tryz.underlying22 Y0 YN (by rw [U];rfl) (by omega)
   (s:=some ⟨aB,0,none⟩) (m:=1) (c:=1) (news:=[.int .i64 k]) (by rw [U];rfl) (fu YM (by simp)) (by simp [single]) (by omega) (by rw [Yr];omega)
  rw [U] at M;refine ⟨ap,_,dr,Ye,X4,?_⟩;have C:ao (λz=>Yl z=.bC i q) Yj Ye:=Yy.mono λz _ au=>K.sG z au
  have XU:av Ye bW XN lP:=C.aj (ai.aj E Y) (by rw [d.tag bW ⟨0,f⟩];simp);have D:a1 Ye lP 2 x.la (ls.set q { l with p:=l.p.post bj vs[k] c4 fP }).length x.lc (hc (ls.set q { l with p:=l.p.post bj vs[k] c4 fP })).flatten:=(d.own.new E).aA C λz au=>by rw [d.tag z au];simp
  refine ⟨⟨_,jQ C (jQ E (Z 1 _ rfl) id) (by rw [d.tag bW ⟨0,f⟩];simp)⟩,XU.frozen,?_⟩;intro Yk XJ;have XW:ao (λz=>z=bW) Ye Yk:=by rw [XJ];exact eX _ _ _ _
  have XV:ao (λz=>ra i q (Yl z)) Yj Yk:=(C.mono λz _ e=>.inl e).trans XW λz _ e=>.inr (by rw [e];exact d.tag bW ⟨0,f⟩)
  have XC:a1 Yk lP 2 x.la (ls.set q { l with p:=l.p.post bj vs[k] c4 fP }).length x.lc ((hc (ls.set q { l with p:=l.p.post bj vs[k] c4 fP })).set q (dk.cells ⟨l.pb,l.p.post bj vs[k] c4 fP,l.bC++[k],ap,dr⟩)).flatten:=by rw [I] at D ⊢;rw [XJ];have:=a1.setCell D (i:=q * 2+1) (by simp;omega) (.slice ap (l.bC.length+1) dr);rw [y1 (nH _) _ (mz J) (by omega)] at this;simpa [dk.cells] using this
  have Yx:Yl bW=.az i:=d.tag bW ⟨0,f⟩;have V:∀ z,aL ap z->Yl z=.bC i q\/Yj.heap.size<=z:=by
   intro z au;rcases Yn with e | e
   ·exact .inl (K.sG z (e▸au))
   ·obtain ⟨o,XZ⟩:=au;rw [e] at XZ;simp at XZ;exact .inr (by omega)
  have XF:a1 Yk mj 1 ap (l.bC++[k]).length dr (is ((l.bC++[k]).map Int.ofNat)):=by
   rw [Pj];have:=M.aA XW (λz au e=>?_)
   ·simpa using this
   ·rcases V z au with Yf | Yf
    ·rw [e,Yx] at Yf;cases Yf
    ·have:=(ai.aj E Y).lt;omega
  clear XJ;obtain ⟨YS,Y9,YP,XR⟩:=XQ.Hh H J XV V XF XC;rw [jv,jv] at XR;rw [show IntKind.i64.wrap ((k:Int)+1)=((k+1:Nat):Int) by rw [bH (by omega) (by omega)];rfl];refine ⟨vs.length - (k+1),by omega,k+1,_,YS,Y9,ls.set q ⟨l.pb,l.p.post bj vs[k] c4 fP,l.bC++[k],ap,dr⟩,by omega,rfl,rfl,?_⟩;refine ⟨((YQ.next.trans YO).new E).trans YP,XR,?_,by simp [a'.len],?_⟩
  ·rw [IC XL Yg,<-a'.pure,yf Q,Hz]
  ·intro z y Yd;rw [im] at Yd;split at Yd
   ·rename_i he;subst he;simp only [fg] at Yd;subst Yd;refine ⟨XX,?_,?_⟩
    ·simp [dF.post];omega
    ·simp;omega
   ·obtain ⟨a,b,c⟩:=a'.lane z y Yd;exact ⟨a,by omega,by omega⟩
 ·have:k=vs.length:=by omega
  subst this;exact YV u A' χ' ls a' _
theorem Jq (n:Nat):jE n [.int .i64 0,.slice none 0 0]=(fW (List.replicate n ⟨0,none,0,0⟩)).flatten:=by
 induction n with
 |zero=>rfl
 |succ n a=>rw [rq,fW,gj,hg,<-fW,<-a];rfl
theorem NG (A:a6) (w:ak) (n:Nat):g6 A w (List.replicate n ⟨0,none,0,0⟩) (List.replicate n ⟨0,[]⟩):=by
 refine ⟨by simp,λi v x al a=>?_⟩;rw [BJ] at al a;split at al
 ·rw [if_pos ‹_›] at a;simp only [fg] at al a;subst al;subst a;exact ⟨rfl,rfl,.inl rfl,λ_=>rfl,.inl rfl,by simp,cY _⟩
 ·cases al
theorem lh (h:av w aY (fL cs).flatten j8) (a:cs[i]?=some c) (b:k<7) {v:a4} (e:c.cells.set k v=c'.cells) :
  av (w.setCell ⟨aY,0+i * 7+k,none⟩ v) aY (fL (cs.set i c')).flatten j8/\(cs.set i c')[i]?=some c':=by
 have:=E5 h a b v;rw [e,sK] at this;exact ⟨this,by simp [b3 a]⟩
theorem lv (h:av w aY (fL cs).flatten j8) {v:a4} (a:cs[i]?=some c) (al:c.cells[k]?=some v):w.cell? ⟨aY,0+i * 7+k,none⟩=some v:=by rw [gM];exact h.cell (yu (Bp _) (u3 a) al)
open Classical in
theorem Pk (h:b6 A aw w aJ X) (X0:n9 X.pure) (c:Int)
  (X7:bk w la (dP raw).flatten) (XK:(dP raw).flatten=[]\/gA A la) (Xv:et A w raw vs) :
  bb 66 [ptr aJ,.int .i64 c,.slice la raw.length lcap] w λv w'=>v=.int .i64 (X.pure.post c vs).1/\dR A aw w aJ (X.pure.post c vs).2 w' λ_=>True:=by
 refine bd Tryz.func66 ?_;rw [ptr,Vp];have hlen:raw.length=vs.length:=Xv.1;rcases X.sk c with ⟨N,S⟩ | ⟨i,x,rfl,N,S⟩
 ·refine aD (uO h S) ?_;rintro v w' ⟨rfl,rfl⟩;have J:X.pure.post c vs=(1,X.pure):=by simp [aE.post,N]
  refine ⟨_,rfl,?_⟩;rw [J];exact ⟨rfl,dR.same h (ao.refl _ _) trivial⟩
 refine aD (sC h N) ?_;rintro v w' ⟨rfl,rfl⟩;refine ⟨_,rfl,⟨_,h.iy (k:=0) N rfl,ev (λU=>?_) (λU=>?_)⟩⟩
 ·have J:X.pure.post i vs=(1,X.pure):=by simp [aE.post,S,cn.pure,U]
  rw [J];exact ⟨rfl,dR.same h (ao.refl _ _) trivial⟩
 have X_:=h.aW i x N;refine ⟨_,_,_,h.iy (k:=3) N rfl,?_⟩;cases B:x.dm with
 |some b=>
  have J:X.pure.post i vs=(3,X.pure):=by simp [aE.post,S,cn.pure,U,B]
  rw [J];exact ⟨rfl,dR.same h (ao.refl _ _) trivial⟩
 |none=>
  refine di rfl (d' (λX4=>?_) (λX4=>?_))
  ·have au:vs=[]:=fF (by omega);have J:X.pure.post i vs=(1,X.pure):=by simp [aE.post,S,cn.pure,U,B,au]
   rw [J];exact ⟨rfl,dR.same h (ao.refl _ _) trivial⟩
  have XI:¬ vs=[]:=λe=>X4 (by rw [hlen,e];rfl)
  refine bc (λX'=>?_) (λX'=>?_)
  ·have J:X.pure.post i vs=(18,X.pure):=by
    have:1024<vs.length:=by omega
    simp [aE.post,S,cn.pure,U,B,XI,this]
   rw [J];exact ⟨rfl,dR.same h (ao.refl _ _) trivial⟩
  have hle:vs.length<=1024:=by omega
  have J:X.pure.post i vs=if jS X.nodes.length X.lines vs≠0 then (jS X.nodes.length X.lines vs,X.pure) else (0,X.pure.dO i (x.pure.j0 vs)):=by
   have X9:¬ vs.length>1024:=by omega
   have XP:X.pure.nodes.length=X.nodes.length:=by simp [bR.pure]
   have XM:X.pure.lines=X.lines:=rfl;simp only [aE.post,S,XP,XM];rw [if_neg (by simp [cn.pure,U]),if_neg (by simp [cn.pure,B]),if_neg (by simpa using XI),if_neg X9]
  rw [J];refine c8 mix (λm env u=>∃ (k:Nat) (X8:ax),k<=vs.length/\m=vs.length - k/\env=xi ⟨aJ,0,none⟩ la raw.length lcap (some ⟨X.aY,0+i * 7,none⟩) la raw.length lcap raw.length k X8/\
   Go.bs.ai w' u/\jS X.nodes.length X.lines vs=jS X.nodes.length X.lines (vs.drop k)) vs.length ⟨0,_,by omega,by omega,rfl,ao.refl _ _,rfl⟩ ?_
  rintro m env u ⟨k,X8,G,rfl,rfl,p,a⟩;rw [SN];refine bc (λXY=>?_) (λXY=>?_)
  ·have XF:k<vs.length:=by omega
   have XX:k<raw.length:=by omega
   have al:raw[k]?=some raw[k]:=by simp [XX]
   have X2:cL A w' raw[k] vs[k]:=Xv.2 k _ _ al (by simp [XF]);obtain ⟨Ye,dw,rfl,XR,XS⟩:=(bk.new p X7).row (u2 raw) (by omega) (Bo al);refine ej (by omega) (by omega) ?_;refine jl (v:=raw[k]) (by simpa using XR) ?_;rintro b1 w1 W q;obtain ⟨au,Q⟩:=bl W q;refine ⟨gq (vs:=aG.cells raw[k]) au (by simp [aG.cells]) (aG.single raw[k]),?_⟩;rintro XO s Xy y;obtain ⟨XC,XZ⟩:=oK (vs:=aG.cells raw[k]) au (by simp [aG.cells]) Q (by omega) s;have XH:Go.bs.ai XO Xy:=by rw [y];exact cK _
   have Y:=ai.aj XH XC;have I:Go.bs.ai w' Xy:=(p.new XZ).new XH;have Xz:=h.new I;clear q s au Q y;refine ⟨λz=>Go.bs.ai Xy z,ao.refl _ _,mQ (v:=raw[k]) (λz au=>hf (ai.aj au Y)) ?_⟩;refine ⟨_,_,_,λz au=>(Xz.new au).ck.cell (i:=1) rfl,_,λz au=>(Xz.new au).ck.cell (i:=0) rfl,?_⟩;refine aD (y4 _ raw[k] _ _) ?_;rintro r X3 ⟨rfl,H⟩;refine ⟨_,rfl,H,?_⟩;rw [X2.valid];rw [yf XF,HA] at a;refine du (λV=>?_) (λV=>?_)
   ·rw [if_pos V] at a;rw [a,if_pos V];exact ⟨rfl,dR.same h (I.new H) trivial⟩
   ·rw [if_neg (λo=>o V)] at a;rw [show IntKind.i64.wrap ((k:Int)+1)=((k+1:Nat):Int) by rw [bH (by omega) (by omega)];rfl];exact ⟨vs.length - (k+1),by omega,k+1,_,by omega,rfl,rfl,I.new H,a⟩
  ·have:k=vs.length:=by omega
   subst this;rw [ru,IN] at a;rw [if_neg (λo=>o a)];rw [Tw];have hu:=h.new p;have X1:bk u la (dP raw).flatten:=bk.new p X7;have XL:et A u raw vs:=Xv.aA (ao.b9 p) λ_ _ h=>h
   refine Kq hu X0 N U B X1 XK XL hle a ?_;intro XN A' χ' ls a' Yb;rw [Tx];have L:=a'.ck;have M:(X.aR.set i { x with az:=ls })[i]?=some { x with az:=ls }:=by simp [b3 N]
   have F:=L.aW i _ M;refine ⟨by omega,by omega,by omega,by omega,?_⟩;rintro b1 w1 W q;rw [Jq] at q;obtain ⟨XD,XG⟩:=bl W q;clear q;simp only at XD;have XQ:=L.new XG;have E:av w1 X.aY (fL (X.aR.set i { x with az:=ls })).flatten j8:=XQ.cls;refine ⟨⟨_,lv (k:=3) E M rfl⟩,E.frozen,?_⟩;intro XO s;obtain ⟨g,O⟩:=lh (k:=3) (c':={ x with az:=ls,dm:=some b1,raw:=List.replicate raw.length ⟨0,none,0,0⟩,batch:=List.replicate vs.length ⟨0,[]⟩ }) E M (by omega) (v:=.slice (some ⟨b1,0,none⟩) (Int.toNat raw.length) (Int.toNat raw.length)) (by simp [cn.cells]);rw [<-s] at g;have XT:ao (λz=>z=X.aY) w1 XO:=by rw [s];exact eX _ _ _ _
   clear s;refine ⟨⟨_,lv (k:=4) g O rfl⟩,g.frozen,?_⟩;intro Xy y;obtain ⟨d,C⟩:=lh (k:=4) (c':={ x with az:=ls,dm:=some b1,raw:=List.replicate raw.length ⟨0,none,0,0⟩,batch:=List.replicate vs.length ⟨0,[]⟩,waiting:=vs.length }) g O (by omega) (v:=.int .i64 raw.length) (by simp [cn.cells,hlen]);rw [<-y] at d;have XU:ao (λz=>z=X.aY) XO Xy:=by rw [y];exact eX _ _ _ _
   clear y;refine ⟨_,lv (k:=5) d C rfl,⟨_,lv (k:=5) d C rfl⟩,d.frozen,?_⟩;intro X3 Xw;obtain ⟨f,D⟩:=lh (k:=5) (c':={ x with az:=ls,dm:=some b1,raw:=List.replicate raw.length ⟨0,none,0,0⟩,batch:=List.replicate vs.length ⟨0,[]⟩,waiting:=vs.length,hJ:=IntKind.i64.wrap (x.hJ+1) }) d C (by omega) (v:=.int .i64 (IntKind.i64.wrap (x.hJ+1))) (by simp [cn.cells]);rw [<-Xw] at f;have H:ao (λz=>z=X.aY) Xy X3:=by rw [Xw];exact eX _ _ _ _
   clear Xw;refine ⟨_,lv (k:=6) f D rfl,⟨_,lv (k:=6) f D rfl⟩,f.frozen,?_⟩;intro R Xx;obtain ⟨n,X5⟩:=lh (k:=6) (c':={ x with az:=ls,dm:=some b1,raw:=List.replicate raw.length ⟨0,none,0,0⟩,batch:=List.replicate vs.length ⟨0,[]⟩,waiting:=vs.length,hJ:=IntKind.i64.wrap (x.hJ+1),iS:=IntKind.i64.wrap (x.iS+vs.length) }) f D (by omega) (v:=.int .i64 (IntKind.i64.wrap (x.iS+raw.length))) (by simp [cn.cells,hlen]);rw [<-Xx] at n;have XV:ao (λz=>z=X.aY) X3 R:=by rw [Xx];exact eX _ _ _ _
   clear Xx;have P:ao (λz=>z=X.aY) w1 R:=((XT.trans XU λ_ _ h=>h).trans H λ_ _ h=>h).trans XV λ_ _ h=>h
   have XW:ao (λz=>χ' z=.aR) w1 R:=P.mono λz _ e=>by rw [e];exact L.fk
   have Z:ao (λz=>χ' z=.aR) XN R:=(ao.b9 XG).trans XW λ_ _ h=>h
   let K:Nat->Tag:=λk=>if k=b1 then .batch i else χ' k
   have XP:K b1=.batch i:=if_pos rfl;have XM:∀ k,k≠b1->K k=χ' k:=λk G=>by simp only [K];rw [if_neg G]
   have hold:∀ k,k<XN.heap.size->K k=χ' k:=λk G=>XM k (by omega)
   obtain ⟨m,_⟩:=L.move (T:=λt=>t=.aR) (χ':=K) Z (by simp) (λk G o=>by rw [hold k G] at o;exact o) (λk G _ _=>hold k G);have f1:=a1.cU m F.own F.tag (by simp) (by simp);have XB:av R b1 (fW (List.replicate raw.length ⟨0,none,0,0⟩)).flatten jd:=by
    have XJ:b1≠X.aY:=by have:=L.cls.lt;have e:({ X with aR:=X.aR.set i { x with az:=ls } }:bR).aY=X.aY:=rfl;omega
    have:=P.aj XD XJ;simpa using this
   have Yc:pp (gC A' χ' K XN) K R i { x with az:=ls,dm:=some b1,raw:=List.replicate raw.length ⟨0,none,0,0⟩,batch:=List.replicate vs.length ⟨0,[]⟩,waiting:=vs.length,hJ:=IntKind.i64.wrap (x.hJ+1),iS:=IntKind.i64.wrap (x.iS+vs.length) }:=by
    refine ⟨f1.1,f1.2,λj l Ya=>(F.lane j l Ya).cU m (by simp) (by simp),(λo=>nomatch o),λb V=>?_,?_⟩
    ·simp only [fg] at V;subst V;exact ⟨XB,XP⟩
    ·have:=NG (gC A' χ' K XN) R vs.length;simpa [hlen] using this
   have Yd:∀ k,K k≠.cx->k<R.heap.size:=λk o=>by
    by_cases XE:k=b1
    ·rw [XE];exact XB.lt
    ·rw [XM k XE] at o;exact gi (L.jV o) Z.size
   obtain ⟨aU,XA⟩:=L.q_ (χ':=K) M (Z.mono λk _ e=>.inl e) (λk G o=>by rw [hold k G] at o;exact o) (λk G _ _=>hold k G) Yd (by rw [sK];rw [jv,jv,jv] at n;exact n) (by rw [hold _ L.cls.lt];exact L.fk) Yc
   rw [jv] at XA;refine ⟨rfl,_,_,_,((h.refl p).trans a'.next).trans aU,XA,?_,trivial⟩;refine (bR.x8 X i _).trans ?_;congr 1;have X6:=a'.pure;rw [ru,IM] at X6;simp only [bh.j0,<-X6];simp [cn.pure]
end
end Go.Proofs.YtmkljjbioomepaaGreat
