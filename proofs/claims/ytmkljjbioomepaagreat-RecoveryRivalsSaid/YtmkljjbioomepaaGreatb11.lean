import Derived.Test.YtmkljjbioomepaaGreatb10
set_option linter.all false
set_option maxHeartbeats 4000000
set_option maxRecDepth 100000
namespace Go.Proofs.YtmkljjbioomepaaGreat
open Go.Proofs.Tryz Go.bu
variable {A A':a3} {X:bL} {ap la c4:an} {du aX aI i j k lcap fH:Nat} {c c' x:ck} {cs:List ck} {l:dn} {ls:List dn} {p':dG} {raw:List aG} {v bj:aG} {vs:List aW} {w w':ak} {aw χ':Nat->Tag}
section
theorem b2.jH (h:b2 A aw w aI X) (a:aw k≠.cu):k<w.heap.size:=h.low k (h.e9 k a)
theorem b2.fresh (h:b2 A aw w aI X) (b:w.heap.size<=k):aw k=.cu:=by
 by_cases a:aw k=.cu
 ·exact a
 ·have:=h.jH a;omega
theorem b2.refl {A:a3} {aw:Nat->Tag} {w w':ak} {aI:Nat} {X:bL} (h:b2 A aw w aI X) (a:ai w w'):Next A A aw aw w w':=Next.refl h.e9 h.low a
def dT (A:a3) (aw:Nat->Tag) (w:ak) (aI:Nat) (F:aN) (w':ak) (K:(a3)->Prop):Prop:=∃ A' χ' a,Next A A' aw χ' w w'/\b2 A' χ' w' aI a/\a.pure=F/\K A'
theorem dT.same (h:b2 A aw w aI X) (a:ai w w') {K:(a3)->Prop} (b:K A):dT A aw w aI X.pure w' K:=⟨A,aw,X,h.refl a,h.new a,rfl,b⟩
def lU (i:Nat) (t:Tag):Prop:=t=.aV\/iF i t
theorem Ec (h:i≠j):∀ t,iF j t->¬ lU i t:=by intro t a;cases t<;>simp [iF,lU] at a ⊢<;>omega
theorem bL.xQ (X:bL) (i:Nat) (c:ck):({ X with aV:=X.aV.set i c }:bL).pure=X.pure.fs i c.pure:=by simp [bL.pure,aN.fs,iv]
theorem b2.q5 (h:b2 A aw w aI X) (b:X.aV[i]?=some c)
  (g:ao (λk=>lU i (aw k)) w w') (n:∀ k,k<w.heap.size->χ' k≠.cu->aw k≠.cu) (q:∀ k,k<w.heap.size->¬ lU i (aw k)->aw k≠.cu->χ' k=aw k) (o:∀ k,χ' k≠.cu->k<w'.heap.size)
  (f:av w' X.aX ((fC X.aV).set i c'.cells).flatten jY) (e:χ' X.aX=.aV) (d:kC (gp A aw χ' w) χ' w' i c') :
  Next A (gp A aw χ' w) aw χ' w w'/\b2 (gp A aw χ' w) χ' w' aI { X with aV:=X.aV.set i c' }:=by
 obtain ⟨m,aP⟩:=h.move g (by simp [lU,iF]) n q;have f1:=av.cM m h.cd h.gH (by simp [lU,iF]) (by simp);have f2:=a0.cM m h.nodes h.jJ (by simp [lU,iF]) (by simp);have f3:=a0.cM m h.fZ h.j_ (by simp [lU,iF]) (by simp);refine ⟨aP,m.ma,λk b=>?_,?_,f1.2,f2.1,f2.2,λj x r=>(h.node j x r).cM m (by simp [lU,iF]) (by simp [lU,iF]),?_,e,λj y a=>?_,f3.1,f3.2,λp l=>dK.cM m (h.ez p l).1 (h.ez p l).2 (by simp [lU,iF]) (by simp),h.nodup⟩
 ·rcases b with b | b
  ·exact o k b
  ·exact f8 b.1 g.size
 ·simpa [bL.cells] using f1.1
 ·rw [sC] at f;exact f
 ·simp only [iu] at a;split at a
  ·rename_i he;subst he;split at a
   ·simp only [fe] at a;subst a;exact d
   ·cases a
  ·rename_i he;exact (h.a1 j y a).cM m (Ec he)
theorem Ed (h:av w aX (fC cs).flatten jY) (a:cs[i]?=some c) (b:k<7) (v:a2) :
  av (w.setCell ⟨aX,0+i * 7+k,none⟩ v) aX ((fC cs).set i (c.cells.set k v)).flatten jY:=by
 rw [g6];have:=h.setCell (i:=i * 7+k) v;rw [yB (AX cs) v (uU a) b] at this;exact this
open Classical in
theorem NG (h:b2 A aw w aI X) (c:Int):a9 64 [ptr aI,.int .i64 c] w λv w'=>
  dT A aw w aI (X.pure.take c).2 w' λA'=>match (X.pure.take c).1 with
   |none=>v=.tuple #[.slice none 0 0,.bool false]
   |some ds=>∃ b raw,v=.tuple #[.slice (some ⟨b,0,none⟩) ds.length ds.length,.bool true]/\av w' b (fP raw).flatten iR/\gW A' w' raw ds/\¬ A' b:=by
 refine bc Tryz.func64 ?_;rw [ptr,TZ];rcases X.r' c with ⟨f,u⟩ | ⟨i,x,rfl,f,u⟩
 ·refine aC (uF h u) ?_;rintro v w' ⟨rfl,rfl⟩;have q:X.pure.take c=(none,X.pure):=by simp [aN.take,f]
  refine ⟨_,rfl,?_⟩;rw [q];exact dT.same h (ao.refl _ _) rfl
 ·refine aC (sr h f) ?_;rintro v w' ⟨rfl,rfl⟩;refine ⟨_,rfl,⟨_,h.ih (k:=0) f rfl,ev (λB=>?_) (λB=>?_)⟩⟩
  ·have q:X.pure.take i=(none,X.pure):=by simp [aN.take,u,ck.pure,B]
   rw [q];exact dT.same h (ao.refl _ _) rfl
  have d:=h.a1 i x f;refine ⟨_,_,_,h.ih (k:=3) f rfl,?_⟩;cases g:x.dk with
  |none=>
   have q:X.pure.take i=(none,X.pure):=by simp [aN.take,u,ck.pure,B,g]
   rw [q];exact dT.same h (ao.refl _ _) rfl
  |some b=>
   refine ⟨_,h.ih (k:=4) f rfl,a8 (λhw=>?_) (λhw=>?_)⟩
   ·have q:X.pure.take i=(none,X.pure):=by
     have:0<x.waiting:=by omega
     simp [aN.take,u,ck.pure,B,g,this]
    rw [q];exact dT.same h (ao.refl _ _) rfl
   ·have q:X.pure.take i=(some x.batch,X.pure.fs i { x.pure with batch:=none }):=by
     have:x.waiting=0:=by omega
     simp [aN.take,u,ck.pure,B,g,this]
    rw [q];refine ⟨_,_,_,h.ih (k:=3) f rfl,⟨⟨_,h.ih (k:=3) f rfl⟩,?_,?_⟩⟩
    ·exact h.cls.frozen
    intro y s;have D:av y X.aX ((fC X.aV).set i (x.cells.set 3 (.slice none 0 0))).flatten jY:=by rw [s];exact Ed h.cls f (by omega) _
    have C:ao (λk=>k=X.aX) w' y:=by rw [s];exact eY _ _ _ _
    clear s;let χ':Nat->Tag:=λk=>if aw k=.batch i then .cu else aw k
    have n:∀ k,χ' k≠.cu->aw k≠.cu/\aw k≠.batch i/\χ' k=aw k:=by
     intro k a;simp only [χ'] at a ⊢;split at a
     ·exact absurd rfl a
     ·rename_i r;exact ⟨a,r,by rw [if_neg r]⟩
    have o:=d.batch b g;have G:∀ k,aw k≠.batch i->χ' k=aw k:=λk r=>by simp only [χ'];rw [if_neg r]
    have p:ao (λk=>aw k=.aV) w' y:=C.mono λk _ e=>by rw [e];exact h.fg
    obtain ⟨m,_⟩:=h.move (χ':=χ') (T:=λt=>t=.aV\/t=.batch i) (w':=y) (p.mono λk _ e=>.inl e) (by simp) (λk _ a=>(n k a).1) (λk _ r _=>G k λe=>r (.inr e));have f1:=a0.cM m d.own d.tag (by simp) (by simp);obtain ⟨aP,H⟩:=h.q5 (χ':=χ') (w':=y) (c':={ x with dk:=none,raw:=[],batch:=[] }) f (p.mono λk _ e=>.inl e) (λk _ a=>(n k a).1) (λk _ r _=>G k λe=>r (.inr (by rw [e];rfl)))
     (λk a=>f8 (h.jH (n k a).1) C.size) D (by rw [G _ (by rw [h.fg];simp),h.fg])
     ⟨f1.1,f1.2,λj l J=>(d.lane j l J).cM m (by simp) (by simp),λ_=>⟨rfl,rfl⟩,(λ_ I=>nomatch I),⟨rfl,λ_ _ _ a=>by simp at a⟩⟩
    have F:¬ gp A aw χ' w' b:=by
     rintro (a | ⟨_,_,a⟩)
     ·exact (n b a).2.1 o.2
     ·rw [o.2] at a;cases a
    have E:av y b (fP x.raw).flatten iR:=p.aj o.1 (by rw [o.2];simp);refine ⟨_,χ',_,aP,H,?_,b,x.raw,?_,E,d.ds.az (p.mono λk _ e=>h.e9 k (by rw [e];simp)) λk K z=>?_,F⟩
    ·rw [bL.xQ];simp [ck.pure]
    ·have:=d.ds.1;rw [g,this];rfl
    ·rcases z with z | z
     ·exact h.e9 k (n k z).1
     ·exact z.2.1
theorem kC.GM {T:Tag->Prop} (m:ll T A A' aw χ' w w') {l':dn} (h:kC A aw w i c) (l:∀ t,iF i t->T t->t=.aD i\/t=.lane i j\/t=.bR i j)
  (a:a0 w' lE 2 c.la c.aD.length c.lc ((g1 c.aD).set j l'.cells).flatten) (g:∀ k,aL c.la k->χ' k=.aD i) (o:tr A' χ' w' i j l'):kC A' χ' w' i { c with aD:=c.aD.set j l' }:=by
 refine ⟨?_,g,λk y d=>?_,h.none,λb n=>?_,h.ds.az m.sm m.old⟩
 ·rw [J9] at a;simpa using a
 ·simp only [iu] at d;split at d
  ·rename_i he;subst he;split at d
   ·simp only [fe] at d;subst d;exact o
   ·cases d
  ·rename_i he;refine (h.lane k y d).cM m (λf=>?_) (λf=>?_)
   ·rcases l (.lane i k) rfl f with e | e | e
    ·cases e
    ·simp at e;exact he e.symm
    ·cases e
   ·rcases l (.bR i k) rfl f with e | e | e
    ·cases e
    ·cases e
    ·simp at e;exact he e.symm
 ·refine av.cM m (h.batch b n).1 (h.batch b n).2 (λf=>?_) (by simp);rcases l (.batch i) rfl f with e | e | e<;>cases e
theorem mo {α:Type} {l:List α} {x:α} (h:l[i]?=some x):l.set i x=l:=by
 apply kj;intro k;rw [iu];split
 ·rename_i he;subst he;rw [if_pos (cb h),h]
 ·rfl
def h5 (i j n:Nat) (t:Tag):Prop:=t=.lane i j\/t=.word n
theorem b2.GO (h:b2 A aw w aI X) {n:Nat} {y:g'} (f:X.aV[i]?=some c) (F:c.aD[j]?=some l) (G:X.nodes[n]?=some y)
  (E:ao (λk=>h5 i j n (aw k)) w w') (H:∀ k,k<w.heap.size->χ' k≠.cu->aw k≠.cu) (D:∀ k,k<w.heap.size->aw k≠.lane i j->χ' k=aw k) (o:∀ k,χ' k≠.cu->k<w'.heap.size)
  {n':aZ} (C:dZ w' y.b y.aJ n') (s:dK (gp A aw χ' w) w' l.pb p') (I:∀ k,p'.mut l.pb k->χ' k=.lane i j) :
  Next A (gp A aw χ' w) aw χ' w w'/\b2 (gp A aw χ' w) χ' w' aI { X with nodes:=X.nodes.set n { y with n:=n' },aV:=X.aV.set i { c with aD:=c.aD.set j { l with p:=p' } } }:=by
 obtain ⟨m,aP⟩:=h.move (T:=h5 i j n) E (by simp [h5]) H (λk B C _=>D k B λe=>C (.inl e));have f1:=av.cM m h.cd h.gH (by simp [h5]) (by simp);have f2:=a0.cM m h.nodes h.jJ (by simp [h5]) (by simp);have f3:=a0.cM m h.fZ h.j_ (by simp [h5]) (by simp);have f4:=av.cM m h.cls h.fg (by simp [h5]) (by simp);have a:=h.node n y G;have d:=h.a1 i c f;refine ⟨aP,m.ma,λk f=>?_,?_,f1.2,?_,f2.2,?_,?_,f4.2,λq z au=>?_,f3.1,f3.2,λp s=>dK.cM m (h.ez p s).1 (h.ez p s).2 (by simp [h5]) (by simp),h.nodup⟩
 ·rcases f with f | f
  ·exact o k f
  ·exact f8 f.1 E.size
 ·simpa [bL.cells] using f1.1
 ·have e:((X.nodes.set n { y with n:=n' }).map λx=>ptr x.b)=X.nodes.map λx=>ptr x.b:=by rw [iv];exact mo (by simp [G])
  rw [e];simpa using f2.1
 ·intro q z au;simp only [iu] at au;split at au
  ·rename_i he;subst he;split at au
   ·simp only [fe] at au;subst au;exact ⟨C,by rw [D _ a.node.node.lt (by rw [a.tag];simp)];exact a.tag,by rw [D _ a.node.words.lt (by rw [a.jQ];simp)];exact a.jQ⟩
   ·cases au
  ·rename_i he;exact (h.node q z au).cM m (by simp [h5]) (by simp [h5];exact λe=>he e.symm)
 ·have e:fC (X.aV.set i { c with aD:=c.aD.set j { l with p:=p' } })=fC X.aV:=by simp only [fC,iv];refine mo ?_;simp [f,ck.cells]
  rw [e];exact f4.1
 ·simp only [iu] at au;split at au
  ·rename_i he;subst he;split at au
   ·simp only [fe] at au;subst au;have f5:=a0.cM m d.own d.tag (by simp [h5]) (by simp);have r:=d.lane j l F;refine d.GM m (λt g u=>?_) ?_ f5.2 ?_
    ·rcases u with e | e
     ·exact .inr (.inl e)
     ·rw [e] at g;cases g
    ·have e:(g1 c.aD).set j ({ l with p:=p' }:dn).cells=g1 c.aD:=mo (by rw [ml F];rfl);rw [e];exact f5.1
    ·have f6:=a0.cM m r.bR r.sw (by simp [h5]) (by simp);exact ⟨s,I,f6.1,f6.2⟩
   ·cases au
  ·rename_i he;refine (h.a1 q z au).cM m (λt g u=>?_);rcases u with e | e
   ·rw [e] at g;exact he g
   ·rw [e] at g;cases g
end
section
theorem a0.row {w:ak} {e sz n cap:Nat} {a:an} {rows:List ax} (h:a0 w e sz a n cap rows.flatten) (j:∀ r ∈ rows,r.length=sz) (au:0<sz) {i:Nat} {r:ax} (f:rows[i]?=some r) :
  ∃ g,a=some ⟨g,0,none⟩/\i<n/\(∃ cs,av w g cs e)/\b6 w ⟨g,0+i * sz,none⟩ 0 r/\∀ k v,r[k]?=some v->w.cell? ⟨g,0+i * sz+k,none⟩=some v:=by
 obtain ⟨b,o,c,p,q⟩:=h.rd.row j au f;rcases h.2 with ⟨l,_⟩ | ⟨bV,cur,he,d,hle,s,t,u⟩
 ·rw [l] at c;cases c
 ·rw [he] at c;simp only [fe,Addr.mk.injEq,and_true] at c;obtain ⟨rfl,rfl⟩:=c;refine ⟨bV,he,?_,⟨cur,d⟩,p,q⟩;have hlen:=h.1;rw [mj j] at hlen;have:=cb f;exact Nat.lt_of_lt_of_eq this (Nat.eq_of_mul_eq_mul_right au hlen)
def q8 (i j:Nat) (t:Tag):Prop:=t=.bR i j\/t=.aD i
open Classical in
theorem b2.GP (h:b2 A aw w aI X) (b:X.aV[i]?=some c) (D:c.aD[j]?=some l)
  (o:ao (λk=>q8 i j (aw k)) w w') {a:cP} (p:∀ k,aL ap k->aw k=.bR i j\/w.heap.size<=k) (n:a0 w' l7 1 ap a.length du (is (a.map Int.ofNat)))
  (q:a0 w' lE 2 c.la c.aD.length c.lc ((g1 c.aD).set j (dn.cells { l with bR:=a,kB:=ap,k8:=du })).flatten) :
  ∃ A' χ',Next A A' aw χ' w w'/\b2 A' χ' w' aI { X with aV:=X.aV.set i { c with aD:=c.aD.set j { l with bR:=a,kB:=ap,k8:=du } } }:=by
 let χ':Nat->Tag:=λk=>if aL ap k then .bR i j else aw k
 have B:∀ k,aL ap k->χ' k=.bR i j:=λk o=>by simp only [χ'];rw [if_pos o]
 have u:∀ k,¬ aL ap k->χ' k=aw k:=λk o=>by simp only [χ'];rw [if_neg o]
 have y:∀ k,k<w.heap.size->χ' k≠.cu->aw k≠.cu:=by
  intro k g b;by_cases d:aL ap k
  ·rcases p k d with e | e
   ·rw [e];simp
   ·omega
  ·rw [u k d] at b;exact b
 have s:∀ k,k<w.heap.size->aw k≠.bR i j->χ' k=aw k:=by
  intro k g b;by_cases d:aL ap k
  ·rcases p k d with e | e
   ·exact absurd e b
   ·omega
  ·exact u k d
 have f:=h.a1 i c b;have r:=f.lane j l D;obtain ⟨m,_⟩:=h.move (T:=q8 i j) (χ':=χ') o (by simp [q8]) y (λk g x _=>s k g λe=>x (.inl e));obtain ⟨z,b0⟩:=dK.cM m r.pair r.tag (by simp [q8]) (by simp);have F:ao (λk=>lU i (aw k)) w w':=o.mono λk _ b=>by
  rcases b with e | e
  ·exact .inr (by rw [e];rfl)
  ·exact .inr (by rw [e];rfl)
 have G:∀ k,χ' k≠.cu->k<w'.heap.size:=λk b=>by
  by_cases d:aL ap k
  ·exact n.lt d
  ·rw [u k d] at b;exact f8 (h.jH b) o.size
 have H:av w' X.aX ((fC X.aV).set i (ck.cells { c with aD:=c.aD.set j { l with bR:=a,kB:=ap,k8:=du } })).flatten jY:=by have e:(fC X.aV).set i (ck.cells { c with aD:=c.aD.set j { l with bR:=a,kB:=ap,k8:=du } })=fC X.aV:=mo (by rw [uU b];simp [ck.cells]);rw [e];exact (av.cM m h.cls h.fg (by simp [q8]) (by simp)).1
 have I:kC (gp A aw χ' w) χ' w' i { c with aD:=c.aD.set j { l with bR:=a,kB:=ap,k8:=du } }:=by refine f.GM m (λt _ E=>E.elim (λe=>.inr (.inr e)) .inl) q (λk d=>?_) ⟨z,b0,n,B⟩;rw [s k (f.own.lt d) (by rw [f.tag k d];simp)];exact f.tag k d
 obtain ⟨aP,C⟩:=h.q5 b F y (λk g x _=>s k g λe=>x (.inr (by rw [e];rfl))) G H (by rw [s _ h.cls.lt (by rw [h.fg];simp)];exact h.fg) I;exact ⟨_,_,aP,C⟩
theorem H8 (C:bU) (k:Nat):C.gO k []=C:=rfl
theorem HZ (C:bU) (k:Nat) (v:aW) (vs:List aW):C.gO k (v::vs)=(C.gu k v).gO (k+1) vs:=rfl
structure v' (A:a3) (aw:Nat->Tag) (w:ak) (aI:Nat) (X:bL) (i:Nat) (x:ck) (vs:List aW) (k:Nat) (u:ak) (A':a3) (χ':Nat->Tag) (ls:List dn):Prop where
 next:Next A A' aw χ' w u
 cd:b2 A' χ' u aI { X with aV:=X.aV.set i { x with aD:=ls } }
 pure:(ck.pure { x with aD:=ls }).gO k (vs.drop k)=x.pure.gO 0 vs
 len:ls.length=X.nodes.length
 lane:∀ (j:Nat) (l:dn),ls[j]?=some l->l.p.node=j/\l.p.ba.length<=k/\l.bR.length<=k
theorem jh {α:Type} (l:List α) (i:Nat) (a b:α):(l.set i a).set i b=l.set i b:=List.set_set ..
open Classical in
theorem Ls {u:ak}
  (a7:v' A aw w aI X i x vs k u A' χ' ls) (Q:i<X.aV.length) (al:k<vs.length) (U:vs.length<=1024) (K:ls[j]?=some l) (P:vs[k].node=j) (N:0<X.nodes.length)
  {w1:ak} (F:p'=l.p.post bj vs[k] c4 fH)
  (r:∀ M':a3,tS A' M' u (aL c4)->(∀ k,p'.mut l.pb k->M' k)->dK M' w1 l.pb p') (g:ao (λk=>k=l.pb\/aL l.p.c4 k) u w1) (G:c4=l.p.c4\/∀ k,aL c4 k->u.heap.size<=k) (B:∀ k,aL c4 k->k<w1.heap.size) :
  ∃ I d,Next A' I χ' d u w1/\b2 I d w1 aI { X with aV:=X.aV.set i { x with aD:=ls.set j { l with p:=p' } } }:=by
 have h:=a7.cd;have f:(X.aV.set i { x with aD:=ls })[i]?=some { x with aD:=ls }:=by simp [Q]
 have D:=h.a1 i _ f;have o:=D.lane j l K;obtain ⟨y,H⟩:∃ y,X.nodes[0]?=some y:=⟨X.nodes[0],by simp [N]⟩;have s:=h.node 0 y H;let d:Nat->Tag:=λk=>if aL c4 k then .lane i j else χ' k
 have C:∀ k,aL c4 k->d k=.lane i j:=λk a=>by simp only [d];rw [if_pos a]
 have t:∀ k,¬ aL c4 k->d k=χ' k:=λk a=>by simp only [d];rw [if_neg a]
 have q:∀ k,aL c4 k->χ' k=.lane i j\/u.heap.size<=k:=by
  intro k a;rcases G with e | e
  ·exact .inl (o.tag k (.inr (.inl (e▸a))))
  ·exact .inr (e k a)
 have M:∀ k,k<u.heap.size->d k≠.cu->χ' k≠.cu:=by
  intro k E f;by_cases c:aL c4 k
  ·rcases q k c with e | e
   ·rw [e];simp
   ·omega
  ·rw [t k c] at f;exact f
 have O:∀ k,k<u.heap.size->χ' k≠.lane i j->d k=χ' k:=by
  intro k E f;by_cases c:aL c4 k
  ·rcases q k c with e | e
   ·exact absurd e f
   ·omega
  ·exact t k c
 have L:∀ k,p'.mut l.pb k->d k=.lane i j:=by
  subst F;rintro k (a | a | a)
  ·by_cases c:aL c4 k
   ·exact C k c
   ·rw [t k c];exact o.tag k (.inl a)
  ·exact C k a
  ·by_cases c:aL c4 k
   ·exact C k c
   ·rw [t k c];exact o.tag k (.inr (.inr a))
 have z:ao (λk=>χ' k=.lane i j) u w1:=g.mono λk _ f=>o.tag k (f.elim .inl λe=>.inr (.inl e))
 have R:∀ k,d k≠.cu->k<w1.heap.size:=λk f=>by
  by_cases c:aL c4 k
  ·exact B k c
  ·rw [t k c] at f;exact f8 (h.jH f) g.size
 have S:dZ w1 y.b y.aJ y.n:=s.node.az z (by rw [s.tag];simp) (by rw [s.jQ];simp);have T:dK (gp A' χ' d u) w1 l.pb p':=by
  refine r _ (λk a=>?_) (λk a=>.inl (by rw [L k a];simp));rcases a with a | a
  ·by_cases c:aL c4 k
   ·exact .inr c
   ·rw [t k c] at a;exact .inl ⟨h.jH a,h.e9 k a⟩
  ·exact .inl ⟨a.1,a.2.1⟩
 obtain ⟨aP,J⟩:=h.GO (χ':=d) (n':=y.n) (p':=p') f K H (z.mono λk _ e=>.inl e) M O R S T L;rw [mo H,jh] at J;exact ⟨_,_,aP,J⟩
theorem H9 (a b:Int):jF a b []=0:=rfl
theorem G6 (a b:Int) (v:aW) (vs:List aW):jF a b (v::vs)=if v.v.valid a b≠0 then v.v.valid a b else jF a b vs:=rfl
theorem G7 {a b:Int}:∀ {vs:List aW},jF a b vs=0->∀ v ∈ vs,v.v.valid a b=0
 | [],_,v,al=>by cases al
 |x::xs,h,v,al=>by
  rw [G6] at h;split at h
  ·contradiction
  ·rename_i c;rcases e6.1 al with e | e
   ·subst e;exact Decidable.not_not.1 c
   ·exact G7 h v e
theorem IX {a b:Int} (h:v.valid a b=0):0<=v.Node/\v.Node<a/\v.valid 5 b=0:=by obtain ⟨f,e⟩:=xT h;have c:=pr e;refine ⟨c.2.2.2.2.1,c.2.2.2.2.2.1,?_⟩;have d:v.inside 5 b=true:=decide_eq_true ⟨by omega,by omega,c.2.2.1,c.2.2.2.1,c.2.2.2.2.1,by omega,c.2.2.2.2.2.2⟩;unfold aG.valid at h ⊢;rw [e] at h;rw [d];exact h
theorem H0 {v:aW} (c:ls[j]?=some l) (al:v.node=j) :
  ck.pure { x with aD:=ls.set j ⟨l.pb,l.p.post bj v c4 fH,l.bR++[k],ap,du⟩ }=(ck.pure { x with aD:=ls }).gu k v:=by
 simp only [ck.pure,bU.gu,bU.mk.injEq,true_and,and_true];rw [al,iv,fU];apply kj;intro q;rw [iu,te];have a:=cb c;by_cases he:j=q
 ·subst he;have b:ls[j]=l:=by simpa [a] using c
  simp [a,b,dn.pure,dG.post,dG.pure]
 ·simp [he]
theorem NH (a:cP) (k:Nat):is ((a++[k]).map Int.ofNat)=is (a.map Int.ofNat)++[.int .i64 k]:=by simp [is]
theorem bh.next (n:Next A A' aw χ' w w') (f:∀ k,aw k≠.cu->A k) {a:an} {xs:ax} (h:bh w a xs) (c:xs=[]\/gl A a):bh w' a xs/\(xs=[]\/gl A' a):=by
 refine ⟨h.az (n.az.mono λk _ b=>f k b) c,?_⟩;by_cases e:xs=[]
 ·exact .inl e
 ·refine .inr ?_;rcases c with c | c
  ·exact absurd c e
  ·cases a with
   |none=>trivial
   |some a=>
    intro b;have d:=h.lt e;rcases (n.iff _).1 b with b | b
    ·exact c (f _ (n.grow _ d b))
    ·exact c b.2.1
theorem cF.next (n:Next A A' aw χ' w w') (c:∀ k,aw k≠.cu->A k) {x:aW} (h:cF A w v x):cF A' w' v x:=
 h.az (n.az.mono λk _ a=>c k a) λk b a=>by
  rcases (n.iff _).1 a with a | a
  ·exact c _ (n.grow _ b a)
  ·exact a.2.1
theorem xY {α:Type} {l:List α} (h:k<l.length):l.drop k=l[k]::l.drop (k+1):=oU h
theorem Ka (h:b2 A aw w aI X) (Ww:nR X.pure) (Xh:X.aV[i]?=some x) (WT:x.alive=true) (WX:x.dk=none)
  (XA:bh w la (dP raw).flatten) (Wv:(dP raw).flatten=[]\/gl A la) (WB:ep A w raw vs) (Xz:vs.length<=1024) (V7:jF X.nodes.length X.lines vs=0)
  {j:ax} {R:cB} (Xr:∀ u A' χ' ls,v' A aw w aI X i x vs vs.length u A' χ' ls->∀ WO,W prog (sub (bp f66) [1,1,1,1,1]) (Aa la raw.length lcap (some ⟨X.aX,0+i * 7,none⟩) WO) (dD prog f66 R) u) :
  cv prog (.loop (sub (bp f66) [1,1,1,1,0,1,0,0])) (uo ⟨aI,0,none⟩ la raw.length lcap (some ⟨X.aX,0+i * 7,none⟩) la raw.length lcap raw.length 0 j)
   (aM 3 (aU (λenv w=>W prog (sub (bp f66) [1,1,1,1,1]) env (dD prog f66 R) w) (dD prog f66 R))) w:=by
 have hlen:raw.length=vs.length:=WB.1;have Wf:=cb Xh;have O:=Ww.a1 i x.pure (by simp [bL.pure,Xh]);have W8:x.aD.length=X.nodes.length:=by have:=O.aD;simp [ck.pure,WT,bL.pure] at this;exact this
 have Xc:=Ww.nodes;have Wb:g2 x.pure.aD=0:=by have WM:=O.waiting;have Xq:=O.batch.1;simp [ck.pure,WX] at Xq;have XJ:x.pure.waiting=x.waiting:=rfl;omega
 have S:∀ (q:Nat) (l:dn),x.aD[q]?=some l->l.p.node=q/\l.p.ba.length<=0/\l.bR.length<=0:=by
  intro q l W7;have Wu:=O.lane q l.pure (by simp [ck.pure,W7]);have au:l.p.ba.length=0:=by
   have hm:l.pure.pair.ba.length ∈ x.pure.aD.map λl=>l.pair.ba.length:=cT.2 ⟨l.pure,b7 (i:=q) (by simp [ck.pure,W7]),rfl⟩
   have:=List.sum_eq_zero_iff_forall_eq_nat.1 Wb _ hm;exact this
  have Xd:=Wu.bR;refine ⟨Wu.node,by omega,?_⟩;have:l.pure.bR.length=l.pure.pair.ba.length:=Xd;have e:l.pure.pair.ba.length=l.p.ba.length:=rfl;have XI:l.pure.bR.length=l.bR.length:=rfl;omega
 refine c2 mix (λm env u=>∃ (k:Nat) (WO:ax) (A':a3) (χ':Nat->Tag) (ls:List dn),k<=vs.length/\m=vs.length - k/\env=uo ⟨aI,0,none⟩ la raw.length lcap (some ⟨X.aX,0+i * 7,none⟩) la raw.length lcap raw.length k WO/\
   v' A aw w aI X i x vs k u A' χ' ls) vs.length ⟨0,_,A,aw,x.aD,by omega,by omega,rfl,h.refl (ao.refl _ _),?_,rfl,W8,S⟩ ?_
 ·have:({ x with aD:=x.aD }:ck)=x:=rfl;rw [this,mo Xh];exact h
 rintro m env u ⟨k,WO,A',χ',ls,F,rfl,rfl,a7⟩;rw [Q7];refine a8 (λW9=>?_) (λW9=>?_)
 ·have Q:k<vs.length:=by omega
  have W6:k<raw.length:=by omega
  have al:raw[k]?=some raw[k]:=by simp [W6]
  have WC:cF A w raw[k] vs[k]:=WB.2 k _ _ al (by simp [Q]);have WD:cF A' u raw[k] vs[k]:=WC.next a7.next h.e9;obtain ⟨Xe,XB⟩:=bh.next a7.next h.e9 XA Wv;obtain ⟨XH,dy,rfl,WZ,W0⟩:=Xe.row (uT raw) (by omega) (AW al);have WA:=G7 V7 vs[k] (jS Q);obtain ⟨W_,Xa,Wd⟩:=IX WA;have V':vs[k].v.Node=vs[k].node:=rfl;rw [V'] at W_ Xa;have Xf:raw[k].Node=vs[k].node:=by rw [WC.eq];rfl
  obtain ⟨q,WN⟩:∃ q:Nat,vs[k].node=q:=⟨vs[k].node.toNat,by omega⟩;have Wy:q<ls.length:=by rw [a7.len];omega
  have Wg:ls[q]?=some ls[q]:=by simp [Wy]
  generalize W7:ls[q]=l at Wg;obtain ⟨Ws,Xx,Xy⟩:=a7.lane q l Wg;have V6:(X.aV.set i { x with aD:=ls })[i]?=some { x with aD:=ls }:=by simp [Wf]
  refine ee (by omega) (by omega) ?_;refine iY (v:=raw[k]) (by simpa using WZ) ?_;rintro b1 w1 WV WF;obtain ⟨au,V2⟩:=bl WV WF;refine ⟨gg (vs:=aG.cells raw[k]) au (by simp [aG.cells]) (aG.single raw[k]),?_⟩;rintro XD WG WP WH;obtain ⟨Wn,Xb⟩:=oF (vs:=aG.cells raw[k]) au (by simp [aG.cells]) V2 (by omega) WG;have Wt:Go.bu.ai XD WP:=by rw [WH];exact cE _
  have G:=ai.aj Wt Wn;have V3:Go.bu.ai u WP:=Xb.new Wt;have Wj:=a7.cd.new V3;clear WF WG au V2 WH;refine ⟨λz=>Go.bu.ai WP z,ao.refl _ _,_,_,_,λz au=>(Wj.new au).ih (k:=2) V6 rfl,_,λz au=>(ai.aj au G).cell (i:=1) rfl,?_⟩;obtain ⟨g,W1,Xv,⟨Xp,Xt⟩,Xu,W3⟩:=a0.row (Wj.a1 i _ V6).own (nu ls) (by omega) (ml Wg);show bm x.la ls.length raw[k].Node 2 _;have I:x.la=some ⟨g,0,none⟩:=W1;rw [I,Xf,WN];refine ee (by omega) (by omega) ?_;rw [fU];intro Wh WI;have V_:Go.bu.ai WP Wh:=by rw [WI];exact cE _
  clear WI;have V5:=ai.aj V_ G;have L:Go.bu.ai u Wh:=V3.new V_;have V4:=a7.cd.new L;have Wo:=V4.a1 i _ V6;have B:=Wo.lane q l Wg;refine ⟨λz=>Go.bu.ai Wh z,ao.refl _ _,some ⟨l.pb,0,none⟩,λz au=>?_,?_⟩
  ·exact jE (V_.new au) (W3 0 _ rfl) id
  refine mG (v:=raw[k]) (λz au=>g4 (ai.aj au V5)) ?_;refine ⟨_,λz au=>(V4.new au).cd.cell (i:=0) rfl,?_⟩;have WE:cF A' Wh raw[k] vs[k]:=WD.az (ao.b4 L) λ_ _ h=>h
  refine aC (Mr B.pair WE Wd (by rw [WN];exact Ws.symm) (by omega)) ?_;rintro r XE ⟨rfl,bj,c4,fH,N,V8,Xg⟩;have Wc:∀ k,aL c4 k->k<XE.heap.size:=by
   intro b Xs;have Xd:=N (λk=>(k<Wh.heap.size/\A' k)\/aL c4 k) (λk F=>F) (λk F=>?_)
   ·exact Xd.own.lt Xs
   ·rcases F with F | F | F
    ·exact .inl ⟨F▸B.pair.aj.lt,B.pair.iD k (.inl F)⟩
    ·exact .inr F
    ·exact .inl ⟨B.pair.kg.lt F,B.pair.iD k (.inr (.inr F))⟩
  have Xm:v' A aw w aI X i x vs k Wh A' χ' ls:=⟨a7.next.new L,V4,a7.pure,a7.len,a7.lane⟩;obtain ⟨XG,WS,Xk,Wk⟩:=Ls Xm Wf Q Xz Wg WN (by have:=Xc.1;simp [bL.pure] at this;omega) rfl N V8 Xg Wc;have H:(X.aV.set i { x with aD:=ls.set q { l with p:=l.p.post bj vs[k] c4 fH } })[i]?=some { x with aD:=ls.set q { l with p:=l.p.post bj vs[k] c4 fH } }:=by simp [Wf]
  have J:(ls.set q { l with p:=l.p.post bj vs[k] c4 fH })[q]?=some { l with p:=l.p.post bj vs[k] c4 fH }:=by simp [Wy]
  have d:=Wk.a1 i _ H;have Xn:=d.lane q _ J;obtain ⟨bV,f,_,⟨Wi,Y⟩,_,Z⟩:=a0.row d.own (nu _) (by omega) (ml J);have W2:bV=g:=by have:x.la=some ⟨bV,0,none⟩:=f;rw [I] at this;simp at this;exact this.symm
  subst W2;refine ⟨_,rfl,_,_,_,Z 1 _ rfl,?_⟩;rintro aA WQ WW WJ;obtain ⟨Xi,E⟩:=bl WW WJ;have Wl:=Wk.new E;clear WJ;have K:=(Wl.a1 i _ H).lane q _ J;obtain ⟨XC,Xw,Xj,U,WY⟩:=fO (T:=3) (z:=.int .i64 0) (n:=1) (m:=8) (by kernel_rfl);have Wx:a0 WQ 3 XC.size l.kB l.bR.length l.k8 (is (l.bR.map Int.ofNat)):=by rw [U];exact K.bR
  obtain ⟨ap,du,WL,Wz,M,W5,WU⟩:=Wx.append (P:=prog) (t:=22) (ty:=22) Tryz.underlying22 Xw Xj (by rw [U];rfl) (by omega)
   (s:=some ⟨aA,0,none⟩) (m:=1) (c:=1) (news:=[.int .i64 k]) (by rw [U];rfl) (fm Xi (by simp)) (by simp [single]) (by omega) (by rw [WY];omega)
  rw [U] at M;refine ⟨ap,_,du,WL,Wz,?_⟩;have C:ao (λz=>WS z=.bR i q) WQ WL:=W5.mono λz _ au=>K.sw z au
  have Wp:av WL bV Wi lE:=C.aj (ai.aj E Y) (by rw [d.tag bV ⟨0,f⟩];simp);have D:a0 WL lE 2 x.la (ls.set q { l with p:=l.p.post bj vs[k] c4 fH }).length x.lc (g1 (ls.set q { l with p:=l.p.post bj vs[k] c4 fH })).flatten:=(d.own.new E).az C λz au=>by rw [d.tag z au];simp
  refine ⟨⟨_,jE C (jE E (Z 1 _ rfl) id) (by rw [d.tag bV ⟨0,f⟩];simp)⟩,Wp.frozen,?_⟩;intro WR We;have Wr:ao (λz=>z=bV) WL WR:=by rw [We];exact eY _ _ _ _
  have Wq:ao (λz=>q8 i q (WS z)) WQ WR:=(C.mono λz _ e=>.inl e).trans Wr λz _ e=>.inr (by rw [e];exact d.tag bV ⟨0,f⟩)
  have V9:a0 WR lE 2 x.la (ls.set q { l with p:=l.p.post bj vs[k] c4 fH }).length x.lc ((g1 (ls.set q { l with p:=l.p.post bj vs[k] c4 fH })).set q (dn.cells ⟨l.pb,l.p.post bj vs[k] c4 fH,l.bR++[k],ap,du⟩)).flatten:=by rw [I] at D ⊢;rw [We];have:=a0.setCell D (i:=q * 2+1) (by simp;omega) (.slice ap (l.bR.length+1) du);rw [yB (nu _) _ (ml J) (by omega)] at this;simpa [dn.cells] using this
  have W4:WS bV=.aD i:=d.tag bV ⟨0,f⟩;have V:∀ z,aL ap z->WS z=.bR i q\/WQ.heap.size<=z:=by
   intro z au;rcases WU with e | e
   ·exact .inl (K.sw z (e▸au))
   ·obtain ⟨o,Wu⟩:=au;rw [e] at Wu;simp at Wu;exact .inr (by omega)
  have Wa:a0 WR l7 1 ap (l.bR++[k]).length du (is ((l.bR++[k]).map Int.ofNat)):=by
   rw [NH];have:=M.az Wr (λz au e=>?_)
   ·simpa using this
   ·rcases V z au with WM | WM
    ·rw [e,W4] at WM;cases WM
    ·have:=(ai.aj E Y).lt;omega
  clear We;obtain ⟨Xo,XF,Xl,Wm⟩:=Wl.GP H J Wq V Wa V9;rw [jh,jh] at Wm;rw [show IntKind.i64.wrap ((k:Int)+1)=((k+1:Nat):Int) by rw [bC (by omega) (by omega)];rfl];refine ⟨vs.length - (k+1),by omega,k+1,_,Xo,XF,ls.set q ⟨l.pb,l.p.post bj vs[k] c4 fH,l.bR++[k],ap,du⟩,by omega,rfl,rfl,?_⟩;refine ⟨((Xm.next.trans Xk).new E).trans Xl,Wm,?_,by simp [a7.len],?_⟩
  ·rw [H0 Wg WN,<-a7.pure,xY Q,HZ]
  ·intro z y WK;rw [iu] at WK;split at WK
   ·rename_i he;subst he;simp only [fe] at WK;subst WK;refine ⟨Ws,?_,?_⟩
    ·simp [dG.post];omega
    ·simp;omega
   ·obtain ⟨a,b,c⟩:=a7.lane z y WK;exact ⟨a,by omega,by omega⟩
 ·have:k=vs.length:=by omega
  subst this;exact Xr u A' χ' ls a7 _
theorem IY (n:Nat):jt n [.int .i64 0,.slice none 0 0]=(fP (List.replicate n ⟨0,none,0,0⟩)).flatten:=by
 induction n with
 |zero=>rfl
 |succ n a=>rw [rj,fP,f9,gV,<-fP,<-a];rfl
theorem Ms (A:a3) (w:ak) (n:Nat):gW A w (List.replicate n ⟨0,none,0,0⟩) (List.replicate n ⟨0,[]⟩):=by
 refine ⟨by simp,λi v x al a=>?_⟩;rw [Bj] at al a;split at al
 ·rw [if_pos ‹_›] at a;simp only [fe] at al a;subst al;subst a;exact ⟨rfl,rfl,.inl rfl,λ_=>rfl,.inl rfl,by simp,cQ _⟩
 ·cases al
theorem k3 (h:av w aX (fC cs).flatten jY) (a:cs[i]?=some c) (b:k<7) {v:a2} (e:c.cells.set k v=c'.cells) :
  av (w.setCell ⟨aX,0+i * 7+k,none⟩ v) aX (fC (cs.set i c')).flatten jY/\(cs.set i c')[i]?=some c':=by
 have:=Ed h a b v;rw [e,sC] at this;exact ⟨this,by simp [cb a]⟩
theorem lg (h:av w aX (fC cs).flatten jY) {v:a2} (a:cs[i]?=some c) (al:c.cells[k]?=some v):w.cell? ⟨aX,0+i * 7+k,none⟩=some v:=by rw [g6];exact h.cell (yb (AX _) (uU a) al)
open Classical in
theorem NI (h:b2 A aw w aI X) (Wv:nR X.pure) (c:Int)
  (WC:bh w la (dP raw).flatten) (Wf:(dP raw).flatten=[]\/gl A la) (V2:ep A w raw vs) :
  a9 66 [ptr aI,.int .i64 c,.slice la raw.length lcap] w λv w'=>v=.int .i64 (X.pure.post c vs).1/\dT A aw w aI (X.pure.post c vs).2 w' λ_=>True:=by
 refine bc Tryz.func66 ?_;rw [ptr,T0];have hlen:raw.length=vs.length:=V2.1;rcases X.r' c with ⟨N,S⟩ | ⟨i,x,rfl,N,S⟩
 ·refine aC (uF h S) ?_;rintro v w' ⟨rfl,rfl⟩;have J:X.pure.post c vs=(1,X.pure):=by simp [aN.post,N]
  refine ⟨_,rfl,?_⟩;rw [J];exact ⟨rfl,dT.same h (ao.refl _ _) trivial⟩
 refine aC (sr h N) ?_;rintro v w' ⟨rfl,rfl⟩;refine ⟨_,rfl,⟨_,h.ih (k:=0) N rfl,ev (λU=>?_) (λU=>?_)⟩⟩
 ·have J:X.pure.post i vs=(1,X.pure):=by simp [aN.post,S,ck.pure,U]
  rw [J];exact ⟨rfl,dT.same h (ao.refl _ _) trivial⟩
 have WF:=h.a1 i x N;refine ⟨_,_,_,h.ih (k:=3) N rfl,?_⟩;cases B:x.dk with
 |some b=>
  have J:X.pure.post i vs=(3,X.pure):=by simp [aN.post,S,ck.pure,U,B]
  rw [J];exact ⟨rfl,dT.same h (ao.refl _ _) trivial⟩
 |none=>
  refine cV rfl (dY (λWz=>?_) (λWz=>?_))
  ·have au:vs=[]:=fI (by omega);have J:X.pure.post i vs=(1,X.pure):=by simp [aN.post,S,ck.pure,U,B,au]
   rw [J];exact ⟨rfl,dT.same h (ao.refl _ _) trivial⟩
  have Wd:¬ vs=[]:=λe=>Wz (by rw [hlen,e];rfl)
  refine a8 (λWG=>?_) (λWG=>?_)
  ·have J:X.pure.post i vs=(18,X.pure):=by
    have:1024<vs.length:=by omega
    simp [aN.post,S,ck.pure,U,B,Wd,this]
   rw [J];exact ⟨rfl,dT.same h (ao.refl _ _) trivial⟩
  have hle:vs.length<=1024:=by omega
  have J:X.pure.post i vs=if jF X.nodes.length X.lines vs≠0 then (jF X.nodes.length X.lines vs,X.pure) else (0,X.pure.fs i (x.pure.kD vs)):=by
   have WE:¬ vs.length>1024:=by omega
   have Wk:X.pure.nodes.length=X.nodes.length:=by simp [bL.pure]
   have Wh:X.pure.lines=X.lines:=rfl;simp only [aN.post,S,Wk,Wh];rw [if_neg (by simp [ck.pure,U]),if_neg (by simp [ck.pure,B]),if_neg (by simpa using Wd),if_neg WE]
  rw [J];refine c2 mix (λm env u=>∃ (k:Nat) (WD:ax),k<=vs.length/\m=vs.length - k/\env=w2 ⟨aI,0,none⟩ la raw.length lcap (some ⟨X.aX,0+i * 7,none⟩) la raw.length lcap raw.length k WD/\
   Go.bu.ai w' u/\jF X.nodes.length X.lines vs=jF X.nodes.length X.lines (vs.drop k)) vs.length ⟨0,_,by omega,by omega,rfl,ao.refl _ _,rfl⟩ ?_
  rintro m env u ⟨k,WD,G,rfl,rfl,p,a⟩;rw [Rk];refine a8 (λWt=>?_) (λWt=>?_)
  ·have Wa:k<vs.length:=by omega
   have Ws:k<raw.length:=by omega
   have al:raw[k]?=some raw[k]:=by simp [Ws]
   have Wx:cF A w' raw[k] vs[k]:=V2.2 k _ _ al (by simp [Wa]);obtain ⟨WL,dy,rfl,Wm,Wn⟩:=(bh.new p WC).row (uT raw) (by omega) (AW al);refine ee (by omega) (by omega) ?_;refine iY (v:=raw[k]) (by simpa using Wm) ?_;rintro b1 w1 W q;obtain ⟨au,Q⟩:=bl W q;refine ⟨gg (vs:=aG.cells raw[k]) au (by simp [aG.cells]) (aG.single raw[k]),?_⟩;rintro Wj s V5 y;obtain ⟨V9,Wu⟩:=oF (vs:=aG.cells raw[k]) au (by simp [aG.cells]) Q (by omega) s;have Wc:Go.bu.ai Wj V5:=by rw [y];exact cE _
   have Y:=ai.aj Wc V9;have I:Go.bu.ai w' V5:=(p.new Wu).new Wc;have V6:=h.new I;clear q s au Q y;refine ⟨λz=>Go.bu.ai V5 z,ao.refl _ _,mG (v:=raw[k]) (λz au=>g4 (ai.aj au Y)) ?_⟩;refine ⟨_,_,_,λz au=>(V6.new au).cd.cell (i:=1) rfl,_,λz au=>(V6.new au).cd.cell (i:=0) rfl,?_⟩;refine aC (yT _ raw[k] _ _) ?_;rintro r Wy ⟨rfl,H⟩;refine ⟨_,rfl,H,?_⟩;rw [Wx.valid];rw [xY Wa,G6] at a;refine dw (λV=>?_) (λV=>?_)
   ·rw [if_pos V] at a;rw [a,if_pos V];exact ⟨rfl,dT.same h (I.new H) trivial⟩
   ·rw [if_neg (λo=>o V)] at a;rw [show IntKind.i64.wrap ((k:Int)+1)=((k+1:Nat):Int) by rw [bC (by omega) (by omega)];rfl];exact ⟨vs.length - (k+1),by omega,k+1,_,by omega,rfl,rfl,I.new H,a⟩
  ·have:k=vs.length:=by omega
   subst this;rw [rl,H9] at a;rw [if_neg (λo=>o a)];rw [RV];have hu:=h.new p;have Ww:bh u la (dP raw).flatten:=bh.new p WC;have Wg:ep A u raw vs:=V2.az (ao.b4 p) λ_ _ h=>h
   refine Ka hu Wv N U B Ww Wf Wg hle a ?_;intro Wi A' χ' ls a7 WI;rw [RW];have L:=a7.cd;have M:(X.aV.set i { x with aD:=ls })[i]?=some { x with aD:=ls }:=by simp [cb N]
   have F:=L.a1 i _ M;refine ⟨by omega,by omega,by omega,by omega,?_⟩;rintro b1 w1 W q;rw [IY] at q;obtain ⟨V_,Wb⟩:=bl W q;clear q;simp only at V_;have Wl:=L.new Wb;have E:av w1 X.aX (fC (X.aV.set i { x with aD:=ls })).flatten jY:=Wl.cls;refine ⟨⟨_,lg (k:=3) E M rfl⟩,E.frozen,?_⟩;intro Wj s;obtain ⟨g,O⟩:=k3 (k:=3) (c':={ x with aD:=ls,dk:=some b1,raw:=List.replicate raw.length ⟨0,none,0,0⟩,batch:=List.replicate vs.length ⟨0,[]⟩ }) E M (by omega) (v:=.slice (some ⟨b1,0,none⟩) (Int.toNat raw.length) (Int.toNat raw.length)) (by simp [ck.cells]);rw [<-s] at g;have Wo:ao (λz=>z=X.aX) w1 Wj:=by rw [s];exact eY _ _ _ _
   clear s;refine ⟨⟨_,lg (k:=4) g O rfl⟩,g.frozen,?_⟩;intro V5 y;obtain ⟨d,C⟩:=k3 (k:=4) (c':={ x with aD:=ls,dk:=some b1,raw:=List.replicate raw.length ⟨0,none,0,0⟩,batch:=List.replicate vs.length ⟨0,[]⟩,waiting:=vs.length }) g O (by omega) (v:=.int .i64 raw.length) (by simp [ck.cells,hlen]);rw [<-y] at d;have Wp:ao (λz=>z=X.aX) Wj V5:=by rw [y];exact eY _ _ _ _
   clear y;refine ⟨_,lg (k:=5) d C rfl,⟨_,lg (k:=5) d C rfl⟩,d.frozen,?_⟩;intro Wy V3;obtain ⟨f,D⟩:=k3 (k:=5) (c':={ x with aD:=ls,dk:=some b1,raw:=List.replicate raw.length ⟨0,none,0,0⟩,batch:=List.replicate vs.length ⟨0,[]⟩,waiting:=vs.length,kI:=IntKind.i64.wrap (x.kI+1) }) d C (by omega) (v:=.int .i64 (IntKind.i64.wrap (x.kI+1))) (by simp [ck.cells]);rw [<-V3] at f;have H:ao (λz=>z=X.aX) V5 Wy:=by rw [V3];exact eY _ _ _ _
   clear V3;refine ⟨_,lg (k:=6) f D rfl,⟨_,lg (k:=6) f D rfl⟩,f.frozen,?_⟩;intro R V4;obtain ⟨n,WA⟩:=k3 (k:=6) (c':={ x with aD:=ls,dk:=some b1,raw:=List.replicate raw.length ⟨0,none,0,0⟩,batch:=List.replicate vs.length ⟨0,[]⟩,waiting:=vs.length,kI:=IntKind.i64.wrap (x.kI+1),nB:=IntKind.i64.wrap (x.nB+vs.length) }) f D (by omega) (v:=.int .i64 (IntKind.i64.wrap (x.nB+raw.length))) (by simp [ck.cells,hlen]);rw [<-V4] at n;have Wq:ao (λz=>z=X.aX) Wy R:=by rw [V4];exact eY _ _ _ _
   clear V4;have P:ao (λz=>z=X.aX) w1 R:=((Wo.trans Wp λ_ _ h=>h).trans H λ_ _ h=>h).trans Wq λ_ _ h=>h
   have Wr:ao (λz=>χ' z=.aV) w1 R:=P.mono λz _ e=>by rw [e];exact L.fg
   have Z:ao (λz=>χ' z=.aV) Wi R:=(ao.b4 Wb).trans Wr λ_ _ h=>h
   let K:Nat->Tag:=λk=>if k=b1 then .batch i else χ' k
   have Wk:K b1=.batch i:=if_pos rfl;have Wh:∀ k,k≠b1->K k=χ' k:=λk G=>by simp only [K];rw [if_neg G]
   have hold:∀ k,k<Wi.heap.size->K k=χ' k:=λk G=>Wh k (by omega)
   obtain ⟨m,_⟩:=L.move (T:=λt=>t=.aV) (χ':=K) Z (by simp) (λk G o=>by rw [hold k G] at o;exact o) (λk G _ _=>hold k G);have f1:=a0.cM m F.own F.tag (by simp) (by simp);have V8:av R b1 (fP (List.replicate raw.length ⟨0,none,0,0⟩)).flatten iR:=by
    have We:b1≠X.aX:=by have:=L.cls.lt;have e:({ X with aV:=X.aV.set i { x with aD:=ls } }:bL).aX=X.aX:=rfl;omega
    have:=P.aj V_ We;simpa using this
   have WJ:kC (gp A' χ' K Wi) K R i { x with aD:=ls,dk:=some b1,raw:=List.replicate raw.length ⟨0,none,0,0⟩,batch:=List.replicate vs.length ⟨0,[]⟩,waiting:=vs.length,kI:=IntKind.i64.wrap (x.kI+1),nB:=IntKind.i64.wrap (x.nB+vs.length) }:=by
    refine ⟨f1.1,f1.2,λj l WH=>(F.lane j l WH).cM m (by simp) (by simp),(λo=>nomatch o),λb V=>?_,?_⟩
    ·simp only [fe] at V;subst V;exact ⟨V8,Wk⟩
    ·have:=Ms (gp A' χ' K Wi) R vs.length;simpa [hlen] using this
   have WK:∀ k,K k≠.cu->k<R.heap.size:=λk o=>by
    by_cases V':k=b1
    ·rw [V'];exact V8.lt
    ·rw [Wh k V'] at o;exact f8 (L.jH o) Z.size
   obtain ⟨aP,V7⟩:=L.q5 (χ':=K) M (Z.mono λk _ e=>.inl e) (λk G o=>by rw [hold k G] at o;exact o) (λk G _ _=>hold k G) WK (by rw [sC];rw [jh,jh,jh] at n;exact n) (by rw [hold _ L.cls.lt];exact L.fg) WJ
   rw [jh] at V7;refine ⟨rfl,_,_,_,((h.refl p).trans a7.next).trans aP,V7,?_,trivial⟩;refine (bL.xQ X i _).trans ?_;congr 1;have WB:=a7.pure;rw [rl,H8] at WB;simp only [bU.kD,<-WB];simp [ck.pure]
end
end Go.Proofs.YtmkljjbioomepaaGreat
