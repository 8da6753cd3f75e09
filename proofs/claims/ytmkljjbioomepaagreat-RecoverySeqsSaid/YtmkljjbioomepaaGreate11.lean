import Derived.Test.YtmkljjbioomepaaGreate10
set_option linter.all false
set_option maxHeartbeats 4000000
set_option maxRecDepth 100000
namespace Go.Proofs.YtmkljjbioomepaaGreat
open Go.Proofs.Tryz Go.bn
variable {A A':a2} {ap la cT:an} {de aT aM i j k lcap fl:Nat} {v:a0} {w w':al}
section
theorem bX.jl {ar:Nat->Tag} {X:bl} (h:bX A ar w aM X) (a:ar k≠.ck):k<w.heap.size:=h.low k (h.eO k a)
theorem bX.fresh {ar:Nat->Tag} {X:bl} (h:bX A ar w aM X) (b:w.heap.size<=k):ar k=.ck:=by
 by_cases a:ar k=.ck
 ·exact a
 ·have:=h.jl a;omega
theorem bX.refl {A:a2} {ar:Nat->Tag} {w w':al} {aM:Nat} {X:bl} (h:bX A ar w aM X) (a:ai w w'):Next A A ar ar w w':=Next.refl h.eO h.low a
def dD (A:a2) (ar:Nat->Tag) (w:al) (aM:Nat) (F:aB) (w':al) (K:(a2)->Prop):Prop:=∃ A' χ' a,Next A A' ar χ' w w'/\bX A' χ' w' aM a/\a.pure=F/\K A'
theorem dD.same {ar:Nat->Tag} {X:bl} (h:bX A ar w aM X) (a:ai w w') {K:(a2)->Prop} (b:K A):dD A ar w aM X.pure w' K:=⟨A,ar,X,h.refl a,h.new a,rfl,b⟩
def lr (i:Nat) (t:Tag):Prop:=t=.aU\/h4 i t
theorem CL (h:i≠j):∀ t,h4 j t->¬ lr i t:=by intro t a;cases t<;>simp [h4,lr] at a ⊢<;>omega
theorem bl.v' (X:bl) (i:Nat) (c:bU):({ X with aU:=X.aU.set i c }:bl).pure=X.pure.fS i c.pure:=by simp [bl.pure,aB.fS,iD]
theorem bX.pY {ar χ':Nat->Tag} {X:bl} (h:bX A ar w aM X) {c c':bU} (b:X.aU[i]?=some c)
  (g:ao (λk=>lr i (ar k)) w w') (n:∀ k,k<w.heap.size->χ' k≠.ck->ar k≠.ck) (q:∀ k,k<w.heap.size->¬ lr i (ar k)->ar k≠.ck->χ' k=ar k) (o:∀ k,χ' k≠.ck->k<w'.heap.size)
  (f:av w' X.aT ((fj X.aU).set i c'.cells).flatten jz) (e:χ' X.aT=.aU) (d:kd (fQ A ar χ' w) χ' w' i c') :
  Next A (fQ A ar χ' w) ar χ' w w'/\bX (fQ A ar χ' w) χ' w' aM { X with aU:=X.aU.set i c' }:=by
 obtain ⟨m,aZ⟩:=h.move g (by simp [lr,h4]) n q;have f1:=av.cM m h.b9 h.gm (by simp [lr,h4]) (by simp);have f2:=aY.cM m h.nodes h.jq (by simp [lr,h4]) (by simp);have f3:=aY.cM m h.fD h.jK (by simp [lr,h4]) (by simp);refine ⟨aZ,m.lI,λk b=>?_,?_,f1.2,f2.1,f2.2,λj x r=>(h.node j x r).cM m (by simp [lr,h4]) (by simp [lr,h4]),?_,e,λj y a=>?_,f3.1,f3.2,λp l=>dx.cM m (h.ea p l).1 (h.ea p l).2 (by simp [lr,h4]) (by simp),h.nodup⟩
 ·rcases b with b | b
  ·exact o k b
  ·exact fF b.1 g.size
 ·simpa [bl.cells] using f1.1
 ·rw [q9] at f;exact f
 ·simp only [iC] at a;split at a
  ·rename_i he;subst he;split at a
   ·simp only [e7] at a;subst a;exact d
   ·cases a
  ·rename_i he;exact (h.aP j y a).cM m (CL he)
theorem CM {cs:List bU} (h:av w aT (fj cs).flatten jz) {c:bU} (a:cs[i]?=some c) (b:k<7) (v:a0) :
  av (w.setCell ⟨aT,0+i * 7+k,none⟩ v) aT ((fj cs).set i (c.cells.set k v)).flatten jz:=by
 rw [gG];have:=h.setCell (i:=i * 7+k) v;rw [xe (zz cs) v (tn a) b] at this;exact this
open Classical in
theorem L7 {ar:Nat->Tag} {X:bl} (h:bX A ar w aM X) (c:Int):ba 64 [ptr aM,.int .i64 c] w λv w'=>
  dD A ar w aM (X.pure.take c).2 w' λA'=>match (X.pure.take c).1 with
   |none=>v=.tuple #[.slice none 0 0,.bool false]
   |some ds=>∃ b raw,v=.tuple #[.slice (some ⟨b,0,none⟩) ds.length ds.length,.bool true]/\av w' b (fq raw).flatten ij/\gi A' w' raw ds/\¬ A' b:=by
 refine bc Tryz.func64 ?_;rw [ptr,Su];rcases X.qN c with ⟨f,u⟩ | ⟨i,x,rfl,f,u⟩
 ·refine aD (s4 h u) ?_;rintro v w' ⟨rfl,rfl⟩;have q:X.pure.take c=(none,X.pure):=by simp [aB.take,f]
  refine ⟨_,rfl,?_⟩;rw [q];exact dD.same h (ao.refl _ _) rfl
 ·refine aD (qZ h f) ?_;rintro v w' ⟨rfl,rfl⟩;refine ⟨_,rfl,⟨_,h.hO (k:=0) f rfl,dZ (λB=>?_) (λB=>?_)⟩⟩
  ·have q:X.pure.take i=(none,X.pure):=by simp [aB.take,u,bU.pure,B]
   rw [q];exact dD.same h (ao.refl _ _) rfl
  have d:=h.aP i x f;refine ⟨_,_,_,h.hO (k:=3) f rfl,?_⟩;cases g:x.c9 with
  |none=>
   have q:X.pure.take i=(none,X.pure):=by simp [aB.take,u,bU.pure,B,g]
   rw [q];exact dD.same h (ao.refl _ _) rfl
  |some b=>
   refine ⟨_,h.hO (k:=4) f rfl,a9 (λhw=>?_) (λhw=>?_)⟩
   ·have q:X.pure.take i=(none,X.pure):=by
     have:0<x.waiting:=by omega
     simp [aB.take,u,bU.pure,B,g,this]
    rw [q];exact dD.same h (ao.refl _ _) rfl
   ·have q:X.pure.take i=(some x.batch,X.pure.fS i { x.pure with batch:=none }):=by
     have:x.waiting=0:=by omega
     simp [aB.take,u,bU.pure,B,g,this]
    rw [q];refine ⟨_,_,_,h.hO (k:=3) f rfl,⟨⟨_,h.hO (k:=3) f rfl⟩,?_,?_⟩⟩
    ·exact h.cls.frozen
    intro y s;have D:av y X.aT ((fj X.aU).set i (x.cells.set 3 (.slice none 0 0))).flatten jz:=by rw [s];exact CM h.cls f (by omega) _
    have C:ao (λk=>k=X.aT) w' y:=by rw [s];exact eA _ _ _ _
    clear s;let χ':Nat->Tag:=λk=>if ar k=.batch i then .ck else ar k
    have n:∀ k,χ' k≠.ck->ar k≠.ck/\ar k≠.batch i/\χ' k=ar k:=by
     intro k a;simp only [χ'] at a ⊢;split at a
     ·exact absurd rfl a
     ·rename_i r;exact ⟨a,r,by rw [if_neg r]⟩
    have o:=d.batch b g;have G:∀ k,ar k≠.batch i->χ' k=ar k:=λk r=>by simp only [χ'];rw [if_neg r]
    have p:ao (λk=>ar k=.aU) w' y:=C.mono λk _ e=>by rw [e];exact h.eW
    obtain ⟨m,_⟩:=h.move (χ':=χ') (T:=λt=>t=.aU\/t=.batch i) (w':=y) (p.mono λk _ e=>.inl e) (by simp) (λk _ a=>(n k a).1) (λk _ r _=>G k λe=>r (.inr e));have f1:=aY.cM m d.own d.tag (by simp) (by simp);obtain ⟨aZ,H⟩:=h.pY (χ':=χ') (w':=y) (c':={ x with c9:=none,raw:=[],batch:=[] }) f (p.mono λk _ e=>.inl e) (λk _ a=>(n k a).1) (λk _ r _=>G k λe=>r (.inr (by rw [e];rfl)))
     (λk a=>fF (h.jl (n k a).1) C.size) D (by rw [G _ (by rw [h.eW];simp),h.eW])
     ⟨f1.1,f1.2,λj l J=>(d.lane j l J).cM m (by simp) (by simp),λ_=>⟨rfl,rfl⟩,(λ_ I=>nomatch I),⟨rfl,λ_ _ _ a=>by simp at a⟩⟩
    have F:¬ fQ A ar χ' w' b:=by
     rintro (a | ⟨_,_,a⟩)
     ·exact (n b a).2.1 o.2
     ·rw [o.2] at a;cases a
    have E:av y b (fq x.raw).flatten ij:=p.ak o.1 (by rw [o.2];simp);refine ⟨_,χ',_,aZ,H,?_,b,x.raw,?_,E,d.ds.ax (p.mono λk _ e=>h.eO k (by rw [e];simp)) λk K z=>?_,F⟩
    ·rw [bl.v'];simp [bU.pure]
    ·have:=d.ds.1;rw [g,this];rfl
    ·rcases z with z | z
     ·exact h.eO k (n k z).1
     ·exact z.2.1
theorem kd.Fc {T:Tag->Prop} {ar χ':Nat->Tag} (m:kU T A A' ar χ' w w') {c:bU} {l':cV} (h:kd A ar w i c) (l:∀ t,h4 i t->T t->t=.ay i\/t=.lane i j\/t=.bt i j)
  (a:aY w' k5 2 c.la c.ay.length c.lc ((gE c.ay).set j l'.cells).flatten) (g:∀ k,aL c.la k->χ' k=.ay i) (o:r8 A' χ' w' i j l'):kd A' χ' w' i { c with ay:=c.ay.set j l' }:=by
 refine ⟨?_,g,λk y d=>?_,h.none,λb n=>?_,h.ds.ax m.qX m.old⟩
 ·rw [IF] at a;simpa using a
 ·simp only [iC] at d;split at d
  ·rename_i he;subst he;split at d
   ·simp only [e7] at d;subst d;exact o
   ·cases d
  ·rename_i he;refine (h.lane k y d).cM m (λf=>?_) (λf=>?_)
   ·rcases l (.lane i k) rfl f with e | e | e
    ·cases e
    ·simp at e;exact he e.symm
    ·cases e
   ·rcases l (.bt i k) rfl f with e | e | e
    ·cases e
    ·cases e
    ·simp at e;exact he e.symm
 ·refine av.cM m (h.batch b n).1 (h.batch b n).2 (λf=>?_) (by simp);rcases l (.batch i) rfl f with e | e | e<;>cases e
theorem iM {α:Type} {l:List α} {x:α} (h:l[i]?=some x):l.set i x=l:=by
 apply kr;intro k;rw [iC];split
 ·rename_i he;subst he;rw [if_pos (cz h),h]
 ·rfl
def hD (i j n:Nat) (t:Tag):Prop:=t=.lane i j\/t=.word n
theorem bX.Ff {ar χ':Nat->Tag} {X:bl} (h:bX A ar w aM X) {n:Nat} {c:bU} {l:cV} {y:iz} (f:X.aU[i]?=some c) (F:c.ay[j]?=some l) (G:X.nodes[n]?=some y)
  (E:ao (λk=>hD i j n (ar k)) w w') (H:∀ k,k<w.heap.size->χ' k≠.ck->ar k≠.ck) (D:∀ k,k<w.heap.size->ar k≠.lane i j->χ' k=ar k) (o:∀ k,χ' k≠.ck->k<w'.heap.size)
  {n':aH} (C:dK w' y.b y.aK n') {p':da} (s:dx (fQ A ar χ' w) w' l.pb p') (I:∀ k,p'.mut l.pb k->χ' k=.lane i j) :
  Next A (fQ A ar χ' w) ar χ' w w'/\bX (fQ A ar χ' w) χ' w' aM { X with nodes:=X.nodes.set n { y with n:=n' },aU:=X.aU.set i { c with ay:=c.ay.set j { l with p:=p' } } }:=by
 obtain ⟨m,aZ⟩:=h.move (T:=hD i j n) E (by simp [hD]) H (λk B C _=>D k B λe=>C (.inl e));have f1:=av.cM m h.b9 h.gm (by simp [hD]) (by simp);have f2:=aY.cM m h.nodes h.jq (by simp [hD]) (by simp);have f3:=aY.cM m h.fD h.jK (by simp [hD]) (by simp);have f4:=av.cM m h.cls h.eW (by simp [hD]) (by simp);have a:=h.node n y G;have d:=h.aP i c f;refine ⟨aZ,m.lI,λk f=>?_,?_,f1.2,?_,f2.2,?_,?_,f4.2,λq z au=>?_,f3.1,f3.2,λp s=>dx.cM m (h.ea p s).1 (h.ea p s).2 (by simp [hD]) (by simp),h.nodup⟩
 ·rcases f with f | f
  ·exact o k f
  ·exact fF f.1 E.size
 ·simpa [bl.cells] using f1.1
 ·have e:((X.nodes.set n { y with n:=n' }).map λx=>ptr x.b)=X.nodes.map λx=>ptr x.b:=by rw [iD];exact iM (by simp [G])
  rw [e];simpa using f2.1
 ·intro q z au;simp only [iC] at au;split at au
  ·rename_i he;subst he;split at au
   ·simp only [e7] at au;subst au;exact ⟨C,by rw [D _ a.node.node.lt (by rw [a.tag];simp)];exact a.tag,by rw [D _ a.node.words.lt (by rw [a.ju];simp)];exact a.ju⟩
   ·cases au
  ·rename_i he;exact (h.node q z au).cM m (by simp [hD]) (by simp [hD];exact λe=>he e.symm)
 ·have e:fj (X.aU.set i { c with ay:=c.ay.set j { l with p:=p' } })=fj X.aU:=by simp only [fj,iD];refine iM ?_;simp [f,bU.cells]
  rw [e];exact f4.1
 ·simp only [iC] at au;split at au
  ·rename_i he;subst he;split at au
   ·simp only [e7] at au;subst au;have f5:=aY.cM m d.own d.tag (by simp [hD]) (by simp);have r:=d.lane j l F;refine d.Fc m (λt g u=>?_) ?_ f5.2 ?_
    ·rcases u with e | e
     ·exact .inr (.inl e)
     ·rw [e] at g;cases g
    ·have e:(gE c.ay).set j ({ l with p:=p' }:cV).cells=gE c.ay:=iM (by rw [lP F];rfl);rw [e];exact f5.1
    ·have f6:=aY.cM m r.bt r.rb (by simp [hD]) (by simp);exact ⟨s,I,f6.1,f6.2⟩
   ·cases au
  ·rename_i he;refine (h.aP q z au).cM m (λt g u=>?_);rcases u with e | e
   ·rw [e] at g;exact he g
   ·rw [e] at g;cases g
end
section
theorem aY.row {w:al} {e sz n cap:Nat} {a:an} {rows:List aw} (h:aY w e sz a n cap rows.flatten) (j:∀ r ∈ rows,r.length=sz) (au:0<sz) {i:Nat} {r:aw} (f:rows[i]?=some r) :
  ∃ g,a=some ⟨g,0,none⟩/\i<n/\(∃ cs,av w g cs e)/\b7 w ⟨g,0+i * sz,none⟩ 0 r/\∀ k v,r[k]?=some v->w.cell? ⟨g,0+i * sz+k,none⟩=some v:=by
 obtain ⟨b,o,c,q,s⟩:=h.rd.row j au f;rcases h.2 with ⟨p,_⟩ | ⟨l,cur,he,d,hle,t,u,x⟩
 ·rw [p] at c;cases c
 ·rw [he] at c;simp only [e7,Addr.mk.injEq,and_true] at c;obtain ⟨rfl,rfl⟩:=c;refine ⟨l,he,?_,⟨cur,d⟩,q,s⟩;have hlen:=h.1;rw [lN j] at hlen;have:=cz f;exact Nat.lt_of_lt_of_eq this (Nat.eq_of_mul_eq_mul_right au hlen)
def pZ (i j:Nat) (t:Tag):Prop:=t=.bt i j\/t=.ay i
open Classical in
theorem bX.Fg {ar:Nat->Tag} {X:bl} (h:bX A ar w aM X) {c:bU} {l:cV} (b:X.aU[i]?=some c) (E:c.ay[j]?=some l)
  (o:ao (λk=>pZ i j (ar k)) w w') {a:d9} (p:∀ k,aL ap k->ar k=.bt i j\/w.heap.size<=k) (n:aY w' lF 1 ap a.length de (is (a.map Int.ofNat)))
  (q:aY w' k5 2 c.la c.ay.length c.lc ((gE c.ay).set j (cV.cells { l with bt:=a,kf:=ap,kM:=de })).flatten) :
  ∃ A' χ',Next A A' ar χ' w w'/\bX A' χ' w' aM { X with aU:=X.aU.set i { c with ay:=c.ay.set j { l with bt:=a,kf:=ap,kM:=de } } }:=by
 let χ':Nat->Tag:=λk=>if aL ap k then .bt i j else ar k
 have C:∀ k,aL ap k->χ' k=.bt i j:=λk o=>by simp only [χ'];rw [if_pos o]
 have u:∀ k,¬ aL ap k->χ' k=ar k:=λk o=>by simp only [χ'];rw [if_neg o]
 have y:∀ k,k<w.heap.size->χ' k≠.ck->ar k≠.ck:=by
  intro k g b;by_cases d:aL ap k
  ·rcases p k d with e | e
   ·rw [e];simp
   ·omega
  ·rw [u k d] at b;exact b
 have s:∀ k,k<w.heap.size->ar k≠.bt i j->χ' k=ar k:=by
  intro k g b;by_cases d:aL ap k
  ·rcases p k d with e | e
   ·exact absurd e b
   ·omega
  ·exact u k d
 have f:=h.aP i c b;have r:=f.lane j l E;obtain ⟨m,_⟩:=h.move (T:=pZ i j) (χ':=χ') o (by simp [pZ]) y (λk g x _=>s k g λe=>x (.inl e));obtain ⟨z,B⟩:=dx.cM m r.pair r.tag (by simp [pZ]) (by simp);have G:ao (λk=>lr i (ar k)) w w':=o.mono λk _ b=>by
  rcases b with e | e
  ·exact .inr (by rw [e];rfl)
  ·exact .inr (by rw [e];rfl)
 have H:∀ k,χ' k≠.ck->k<w'.heap.size:=λk b=>by
  by_cases d:aL ap k
  ·exact n.lt d
  ·rw [u k d] at b;exact fF (h.jl b) o.size
 have I:av w' X.aT ((fj X.aU).set i (bU.cells { c with ay:=c.ay.set j { l with bt:=a,kf:=ap,kM:=de } })).flatten jz:=by have e:(fj X.aU).set i (bU.cells { c with ay:=c.ay.set j { l with bt:=a,kf:=ap,kM:=de } })=fj X.aU:=iM (by rw [tn b];simp [bU.cells]);rw [e];exact (av.cM m h.cls h.eW (by simp [pZ]) (by simp)).1
 have J:kd (fQ A ar χ' w) χ' w' i { c with ay:=c.ay.set j { l with bt:=a,kf:=ap,kM:=de } }:=by refine f.Fc m (λt _ F=>F.elim (λe=>.inr (.inr e)) .inl) q (λk d=>?_) ⟨z,B,n,C⟩;rw [s k (f.own.lt d) (by rw [f.tag k d];simp)];exact f.tag k d
 obtain ⟨aZ,D⟩:=h.pY b G y (λk g x _=>s k g λe=>x (.inr (by rw [e];rfl))) H I (by rw [s _ h.cls.lt (by rw [h.eW];simp)];exact h.eW) J;exact ⟨_,_,aZ,D⟩
theorem GH (C:bf) (k:Nat):C.eS k []=C:=rfl
theorem FH (C:bf) (k:Nat) (v:aG) (vs:List aG):C.eS k (v::vs)=(C.eK k v).eS (k+1) vs:=rfl
structure uO (A:a2) (ar:Nat->Tag) (w:al) (aM:Nat) (X:bl) (i:Nat) (x:bU) (vs:List aG) (k:Nat) (u:al) (A':a2) (χ':Nat->Tag) (ls:List cV):Prop where
 next:Next A A' ar χ' w u
 b9:bX A' χ' u aM { X with aU:=X.aU.set i { x with ay:=ls } }
 pure:(bU.pure { x with ay:=ls }).eS k (vs.drop k)=x.pure.eS 0 vs
 len:ls.length=X.nodes.length
 lane:∀ (j:Nat) (l:cV),ls[j]?=some l->l.p.node=j/\l.p.a6.length<=k/\l.bt.length<=k
theorem iJ {α:Type} (l:List α) (i:Nat) (a b:α):(l.set i a).set i b=l.set i b:=mi ..
open Classical in
theorem KB {ar:Nat->Tag} {X:bl} {x:bU} {vs:List aG} {u:al} {χ':Nat->Tag} {ls:List cV}
  (a5:uO A ar w aM X i x vs k u A' χ' ls) (Q:i<X.aU.length) (aj:k<vs.length) (V:vs.length<=1024) {l:cV} (K:ls[j]?=some l) (P:vs[k].node=j) (N:0<X.nodes.length)
  {p':da} {w1:al} {U:aF} (F:p'=l.p.post U vs[k] cT fl)
  (r:∀ M':a2,sv A' M' u (aL cT)->(∀ k,p'.mut l.pb k->M' k)->dx M' w1 l.pb p') (g:ao (λk=>k=l.pb\/aL l.p.cT k) u w1) (G:cT=l.p.cT\/∀ k,aL cT k->u.heap.size<=k) (B:∀ k,aL cT k->k<w1.heap.size) :
  ∃ I d,Next A' I χ' d u w1/\bX I d w1 aM { X with aU:=X.aU.set i { x with ay:=ls.set j { l with p:=p' } } }:=by
 have h:=a5.b9;have f:(X.aU.set i { x with ay:=ls })[i]?=some { x with ay:=ls }:=by simp [Q]
 have D:=h.aP i _ f;have o:=D.lane j l K;obtain ⟨y,H⟩:∃ y,X.nodes[0]?=some y:=⟨X.nodes[0],by simp [N]⟩;have s:=h.node 0 y H;let d:Nat->Tag:=λk=>if aL cT k then .lane i j else χ' k
 have C:∀ k,aL cT k->d k=.lane i j:=λk a=>by simp only [d];rw [if_pos a]
 have t:∀ k,¬ aL cT k->d k=χ' k:=λk a=>by simp only [d];rw [if_neg a]
 have q:∀ k,aL cT k->χ' k=.lane i j\/u.heap.size<=k:=by
  intro k a;rcases G with e | e
  ·exact .inl (o.tag k (.inr (.inl (e▸a))))
  ·exact .inr (e k a)
 have M:∀ k,k<u.heap.size->d k≠.ck->χ' k≠.ck:=by
  intro k E f;by_cases c:aL cT k
  ·rcases q k c with e | e
   ·rw [e];simp
   ·omega
  ·rw [t k c] at f;exact f
 have O:∀ k,k<u.heap.size->χ' k≠.lane i j->d k=χ' k:=by
  intro k E f;by_cases c:aL cT k
  ·rcases q k c with e | e
   ·exact absurd e f
   ·omega
  ·exact t k c
 have L:∀ k,p'.mut l.pb k->d k=.lane i j:=by
  subst F;rintro k (a | a | a)
  ·by_cases c:aL cT k
   ·exact C k c
   ·rw [t k c];exact o.tag k (.inl a)
  ·exact C k a
  ·by_cases c:aL cT k
   ·exact C k c
   ·rw [t k c];exact o.tag k (.inr (.inr a))
 have z:ao (λk=>χ' k=.lane i j) u w1:=g.mono λk _ f=>o.tag k (f.elim .inl λe=>.inr (.inl e))
 have R:∀ k,d k≠.ck->k<w1.heap.size:=λk f=>by
  by_cases c:aL cT k
  ·exact B k c
  ·rw [t k c] at f;exact fF (h.jl f) g.size
 have S:dK w1 y.b y.aK y.n:=s.node.ax z (by rw [s.tag];simp) (by rw [s.ju];simp);have T:dx (fQ A' χ' d u) w1 l.pb p':=by
  refine r _ (λk a=>?_) (λk a=>.inl (by rw [L k a];simp));rcases a with a | a
  ·by_cases c:aL cT k
   ·exact .inr c
   ·rw [t k c] at a;exact .inl ⟨h.jl a,h.eO k a⟩
  ·exact .inl ⟨a.1,a.2.1⟩
 obtain ⟨aZ,J⟩:=h.Ff (χ':=d) (n':=y.n) (p':=p') f K H (z.mono λk _ e=>.inl e) M O R S T L;rw [iM H,iJ] at J;exact ⟨_,_,aZ,J⟩
theorem GI (a b:Int):gy a b []=0:=rfl
theorem FI (a b:Int) (v:aG) (vs:List aG):gy a b (v::vs)=if v.v.valid a b≠0 then v.v.valid a b else gy a b vs:=rfl
theorem FJ {a b:Int}:∀ {vs:List aG},gy a b vs=0->∀ v ∈ vs,v.v.valid a b=0
 | [],_,v,aj=>by cases aj
 |x::xs,h,v,aj=>by
  rw [FI] at h;split at h
  ·contradiction
  ·rename_i c;rcases dy.1 aj with e | e
   ·subst e;exact Decidable.not_not.1 c
   ·exact FJ h v e
theorem Ig {v:aF} {a b:Int} (h:v.valid a b=0):0<=v.Node/\v.Node<a/\v.valid 5 b=0:=by obtain ⟨f,e⟩:=v_ h;have c:=ox e;refine ⟨c.2.2.2.2.1,c.2.2.2.2.2.1,?_⟩;have d:v.inside 5 b=true:=decide_eq_true ⟨by omega,by omega,c.2.2.1,c.2.2.2.1,c.2.2.2.2.1,by omega,c.2.2.2.2.2.2⟩;unfold aF.valid at h ⊢;rw [e] at h;rw [d];exact h
theorem Gr {ls:List cV} {x:bU} {l:cV} {v:aG} {d:aF} (c:ls[j]?=some l) (aj:v.node=j) :
  bU.pure { x with ay:=ls.set j ⟨l.pb,l.p.post d v cT fl,l.bt++[k],ap,de⟩ }=(bU.pure { x with ay:=ls }).eK k v:=by
 simp only [bU.pure,bf.eK,bf.mk.injEq,true_and,and_true];rw [aj,iD,fT];apply kr;intro q;rw [iC,qf];have a:=cz c;by_cases he:j=q
 ·subst he;have b:ls[j]=l:=by simpa [a] using c
  simp [a,b,cV.pure,da.post,da.pure]
 ·simp [he]
theorem L8 (a:d9) (k:Nat):is ((a++[k]).map Int.ofNat)=is (a.map Int.ofNat)++[.int .i64 k]:=by simp [is]
theorem bg.next {ar χ':Nat->Tag} (n:Next A A' ar χ' w w') (f:∀ k,ar k≠.ck->A k) {a:an} {xs:aw} (h:bg w a xs) (c:xs=[]\/fM A a):bg w' a xs/\(xs=[]\/fM A' a):=by
 refine ⟨h.ax (n.ax.mono λk _ b=>f k b) c,?_⟩;by_cases e:xs=[]
 ·exact .inl e
 ·refine .inr ?_;rcases c with c | c
  ·exact absurd c e
  ·cases a with
   |none=>trivial
   |some a=>
    intro b;have d:=h.lt e;rcases (n.iff _).1 b with b | b
    ·exact c (f _ (n.grow _ d b))
    ·exact c b.2.1
theorem cA.next {ar χ':Nat->Tag} (n:Next A A' ar χ' w w') (c:∀ k,ar k≠.ck->A k) {v:aF} {x:aG} (h:cA A w v x):cA A' w' v x:=
 h.ax (n.ax.mono λk _ a=>c k a) λk b a=>by
  rcases (n.iff _).1 a with a | a
  ·exact c _ (n.grow _ b a)
  ·exact a.2.1
theorem wm {α:Type} {l:List α} (h:k<l.length):l.drop k=l[k]::l.drop (k+1):=qa h
theorem IH {ar:Nat->Tag} {X:bl} (h:bX A ar w aM X) (UQ:nb X.pure) {x:bU} (VA:X.aU[i]?=some x) (Vb:x.alive=true) (Vf:x.c9=none)
  {raw:List aF} {vs:List aG} (VT:bg w la (dz raw).flatten) (UP:(dz raw).flatten=[]\/fM A la) (UV:dX A w raw vs) (VS:vs.length<=1024) (Up:gy X.nodes.length X.lines vs=0)
  {j:aw} {R:cp} (VK:∀ u A' χ' ls,uO A ar w aM X i x vs vs.length u A' χ' ls->∀ U8,W prog (sub (bh f66) [1,1,1,1,1]) (yQ la raw.length lcap (some ⟨X.aT,0+i * 7,none⟩) U8) (dh prog f66 R) u) :
  cx prog (.loop (sub (bh f66) [1,1,1,1,0,1,0,0])) (sR ⟨aM,0,none⟩ la raw.length lcap (some ⟨X.aT,0+i * 7,none⟩) la raw.length lcap raw.length 0 j)
   (aW 3 (a1 (λenv w=>W prog (sub (bh f66) [1,1,1,1,1]) env (dh prog f66 R) w) (dh prog f66 R))) w:=by
 have hlen:raw.length=vs.length:=UV.1;have Uz:=cz VA;have S:=UQ.aP i x.pure (by simp [bl.pure,VA]);have Vq:x.ay.length=X.nodes.length:=by have:=S.ay;simp [bU.pure,Vb,bl.pure] at this;exact this
 have Vv:=UQ.nodes;have Uv:f0 x.pure.ay=0:=by have U6:=S.waiting;have VJ:=S.batch.1;simp [bU.pure,Vf] at VJ;have V2:x.pure.waiting=x.waiting:=rfl;omega
 have V:∀ (q:Nat) (l:cV),x.ay[q]?=some l->l.p.node=q/\l.p.a6.length<=0/\l.bt.length<=0:=by
  intro q l Vp;have UO:=S.lane q l.pure (by simp [bU.pure,Vp]);have au:l.p.a6.length=0:=by
   have hm:l.pure.pair.a6.length ∈ x.pure.ay.map λl=>l.pair.a6.length:=cD.2 ⟨l.pure,cj (i:=q) (by simp [bU.pure,Vp]),rfl⟩
   have:=List.sum_eq_zero_iff_forall_eq_nat.1 Uv _ hm;exact this
  have Vw:=UO.bt;refine ⟨UO.node,by omega,?_⟩;have:l.pure.bt.length=l.pure.pair.a6.length:=Vw;have e:l.pure.pair.a6.length=l.p.a6.length:=rfl;have V1:l.pure.bt.length=l.bt.length:=rfl;omega
 refine c1 mix (λm env u=>∃ (k:Nat) (U8:aw) (A':a2) (χ':Nat->Tag) (ls:List cV),k<=vs.length/\m=vs.length - k/\env=sR ⟨aM,0,none⟩ la raw.length lcap (some ⟨X.aT,0+i * 7,none⟩) la raw.length lcap raw.length k U8/\
   uO A ar w aM X i x vs k u A' χ' ls) vs.length ⟨0,_,A,ar,x.ay,by omega,by omega,rfl,h.refl (ao.refl _ _),?_,rfl,Vq,V⟩ ?_
 ·have:({ x with ay:=x.ay }:bU)=x:=rfl;rw [this,iM VA];exact h
 rintro m env u ⟨k,U8,A',χ',ls,F,rfl,rfl,a5⟩;rw [PX];refine a9 (λVr=>?_) (λVr=>?_)
 ·have U:k<vs.length:=by omega
  have Vo:k<raw.length:=by omega
  have aj:raw[k]?=some raw[k]:=by simp [Vo]
  have UW:cA A w raw[k] vs[k]:=UV.2 k _ _ aj (by simp [U]);have UX:cA A' u raw[k] vs[k]:=UW.next a5.next h.eO;obtain ⟨Vx,VU⟩:=bg.next a5.next h.eO VT UP;obtain ⟨V0,dg,rfl,Vh,Vi⟩:=Vx.row (tm raw) (by omega) (zy aj);have UU:=FJ Up vs[k] (jw U);obtain ⟨Vs,Vt,Ux⟩:=Ig UU;have Ut:vs[k].v.Node=vs[k].node:=rfl;rw [Ut] at Vs Vt;have Vy:raw[k].Node=vs[k].node:=by rw [UW.eq];rfl
  obtain ⟨q,U7⟩:∃ q:Nat,vs[k].node=q:=⟨vs[k].node.toNat,by omega⟩;have US:q<ls.length:=by rw [a5.len];omega
  have UA:ls[q]?=some ls[q]:=by simp [US]
  generalize Vp:ls[q]=l at UA;obtain ⟨UM,VQ,VR⟩:=a5.lane q l UA;have Uo:(X.aU.set i { x with ay:=ls })[i]?=some { x with ay:=ls }:=by simp [Uz]
  refine dT (by omega) (by omega) ?_;refine iy (v:=raw[k]) (by simpa using Vh) ?_;rintro b1 w1 Vd UZ;obtain ⟨au,Uk⟩:=bk Vd UZ;refine ⟨fI (vs:=aF.cells raw[k]) au (by simp [aF.cells]) (aF.single raw[k]),?_⟩;rintro VW U0 U9 U1;obtain ⟨UH,Vu⟩:=nK (vs:=aF.cells raw[k]) au (by simp [aF.cells]) Uk (by omega) U0;have UN:Go.bn.ai VW U9:=by rw [U1];exact cL _
  have G:=ai.ak UN UH;have Ul:Go.bn.ai u U9:=Vu.new UN;have UD:=a5.b9.new Ul;clear UZ U0 au Uk U1;refine ⟨λz=>Go.bn.ai U9 z,ao.refl _ _,_,_,_,λz au=>(UD.new au).hO (k:=2) Uo rfl,_,λz au=>(ai.ak au G).cell (i:=1) rfl,?_⟩;obtain ⟨g,Vj,VO,⟨VI,VM⟩,VN,Vl⟩:=aY.row (UD.aP i _ Uo).own (mG ls) (by omega) (lP UA);show bB x.la ls.length raw[k].Node 2 _;have I:x.la=some ⟨g,0,none⟩:=Vj;rw [I,Vy,U7];refine dT (by omega) (by omega) ?_;rw [fT];intro UB U2;have Us:Go.bn.ai U9 UB:=by rw [U2];exact cL _
  clear U2;have Un:=ai.ak Us G;have L:Go.bn.ai u UB:=Ul.new Us;have Um:=a5.b9.new L;have UI:=Um.aP i _ Uo;have B:=UI.lane q l UA;refine ⟨λz=>Go.bn.ai UB z,ao.refl _ _,some ⟨l.pb,0,none⟩,λz au=>?_,?_⟩
  ·exact jj (Us.new au) (Vl 0 _ rfl) id
  refine l3 (v:=raw[k]) (λz au=>gF (ai.ak au Un)) ?_;refine ⟨_,λz au=>(Um.new au).b9.cell (i:=0) rfl,?_⟩;have UY:cA A' UB raw[k] vs[k]:=UX.ax (ao.bZ L) λ_ _ h=>h
  refine aD (LR B.pair UY Ux (by rw [U7];exact UM.symm) (by omega)) ?_;rintro r VX ⟨rfl,O,cT,fl,N,Uq,Vz⟩;have Uw:∀ k,aL cT k->k<VX.heap.size:=by
   intro b VL;have Vw:=N (λk=>(k<UB.heap.size/\A' k)\/aL cT k) (λk F=>F) (λk F=>?_)
   ·exact Vw.own.lt VL
   ·rcases F with F | F | F
    ·exact .inl ⟨F▸B.pair.ak.lt,B.pair.hS k (.inl F)⟩
    ·exact .inr F
    ·exact .inl ⟨B.pair.jU.lt F,B.pair.hS k (.inr (.inr F))⟩
  have VF:uO A ar w aM X i x vs k UB A' χ' ls:=⟨a5.next.new L,Um,a5.pure,a5.len,a5.lane⟩;obtain ⟨VZ,Va,VD,UE⟩:=KB VF Uz U VS UA U7 (by have:=Vv.1;simp [bl.pure] at this;omega) rfl N Uq Vz Uw;have H:(X.aU.set i { x with ay:=ls.set q { l with p:=l.p.post O vs[k] cT fl } })[i]?=some { x with ay:=ls.set q { l with p:=l.p.post O vs[k] cT fl } }:=by simp [Uz]
  have J:(ls.set q { l with p:=l.p.post O vs[k] cT fl })[q]?=some { l with p:=l.p.post O vs[k] cT fl }:=by simp [US]
  have d:=UE.aP i _ H;have VG:=d.lane q _ J;obtain ⟨Q,f,_,⟨UC,Ui⟩,_,Uj⟩:=aY.row d.own (mG _) (by omega) (lP J);have Vk:Q=g:=by have:x.la=some ⟨Q,0,none⟩:=f;rw [I] at this;simp at this;exact this.symm
  subst Vk;refine ⟨_,rfl,_,_,_,Uj 1 _ rfl,?_⟩;rintro az U_ Ve U3;obtain ⟨VB,E⟩:=bk Ve U3;have UF:=UE.new E;clear U3;have K:=(UF.aP i _ H).lane q _ J;obtain ⟨VV,VP,VC,Y,Vg⟩:=fp (T:=3) (z:=.int .i64 0) (n:=1) (m:=8) (by kernel_rfl);have UR:aY U_ 3 VV.size l.kf l.bt.length l.kM (is (l.bt.map Int.ofNat)):=by rw [Y];exact K.bt
  obtain ⟨ap,de,U5,UT,M,Vn,Vc⟩:=UR.append (P:=prog) (t:=22) (ty:=22) Tryz.underlying22 VP VC (by rw [Y];rfl) (by omega)
   (s:=some ⟨az,0,none⟩) (m:=1) (c:=1) (news:=[.int .i64 k]) (by rw [Y];rfl) (e9 VB (by simp)) (by simp [single]) (by omega) (by rw [Vg];omega)
  rw [Y] at M;refine ⟨ap,_,de,U5,UT,?_⟩;have C:ao (λz=>Va z=.bt i q) U_ U5:=Vn.mono λz _ au=>K.rb z au
  have UJ:av U5 Q UC k5:=C.ak (ai.ak E Ui) (by rw [d.tag Q ⟨0,f⟩];simp);have D:aY U5 k5 2 x.la (ls.set q { l with p:=l.p.post O vs[k] cT fl }).length x.lc (gE (ls.set q { l with p:=l.p.post O vs[k] cT fl })).flatten:=(d.own.new E).ax C λz au=>by rw [d.tag z au];simp
  refine ⟨⟨_,jj C (jj E (Uj 1 _ rfl) id) (by rw [d.tag Q ⟨0,f⟩];simp)⟩,UJ.frozen,?_⟩;intro U' Uy;have UL:ao (λz=>z=Q) U5 U':=by rw [Uy];exact eA _ _ _ _
  have UK:ao (λz=>pZ i q (Va z)) U_ U':=(C.mono λz _ e=>.inl e).trans UL λz _ e=>.inr (by rw [e];exact d.tag Q ⟨0,f⟩)
  have Ur:aY U' k5 2 x.la (ls.set q { l with p:=l.p.post O vs[k] cT fl }).length x.lc ((gE (ls.set q { l with p:=l.p.post O vs[k] cT fl })).set q (cV.cells ⟨l.pb,l.p.post O vs[k] cT fl,l.bt++[k],ap,de⟩)).flatten:=by rw [I] at D ⊢;rw [Uy];have:=aY.setCell D (i:=q * 2+1) (by simp;omega) (.slice ap (l.bt.length+1) de);rw [xe (mG _) _ (lP J) (by omega)] at this;simpa [cV.cells] using this
  have Vm:Va Q=.ay i:=d.tag Q ⟨0,f⟩;have Z:∀ z,aL ap z->Va z=.bt i q\/U_.heap.size<=z:=by
   intro z au;rcases Vc with e | e
   ·exact .inl (K.rb z (e▸au))
   ·obtain ⟨o,UO⟩:=au;rw [e] at UO;simp at UO;exact .inr (by omega)
  have Uu:aY U' lF 1 ap (l.bt++[k]).length de (is ((l.bt++[k]).map Int.ofNat)):=by
   rw [L8];have:=M.ax UL (λz au e=>?_)
   ·simpa using this
   ·rcases Z z au with U6 | U6
    ·rw [e,Vm] at U6;cases U6
    ·have:=(ai.ak E Ui).lt;omega
  clear Uy;obtain ⟨VH,VY,VE,UG⟩:=UF.Fg H J UK Z Uu Ur;rw [iJ,iJ] at UG;rw [show IntKind.i64.wrap ((k:Int)+1)=((k+1:Nat):Int) by rw [bA (by omega) (by omega)];rfl];refine ⟨vs.length - (k+1),by omega,k+1,_,VH,VY,ls.set q ⟨l.pb,l.p.post O vs[k] cT fl,l.bt++[k],ap,de⟩,by omega,rfl,rfl,?_⟩;refine ⟨((VF.next.trans VD).new E).trans VE,UG,?_,by simp [a5.len],?_⟩
  ·rw [Gr UA U7,<-a5.pure,wm U,FH]
  ·intro z y U4;rw [iC] at U4;split at U4
   ·rename_i he;subst he;simp only [e7] at U4;subst U4;refine ⟨UM,?_,?_⟩
    ·simp [da.post];omega
    ·simp;omega
   ·obtain ⟨a,b,c⟩:=a5.lane z y U4;exact ⟨a,by omega,by omega⟩
 ·have:k=vs.length:=by omega
  subst this;exact VK u A' χ' ls a5 _
theorem Ih (n:Nat):iY n [.int .i64 0,.slice none 0 0]=(fq (List.replicate n ⟨0,none,0,0⟩)).flatten:=by
 induction n with
 |zero=>rfl
 |succ n a=>rw [o6,fq,g',hr,<-fq,<-a];rfl
theorem LS (A:a2) (w:al) (n:Nat):gi A w (List.replicate n ⟨0,none,0,0⟩) (List.replicate n ⟨0,[]⟩):=by
 refine ⟨by simp,λi v x aj a=>?_⟩;rw [zZ] at aj a;split at aj
 ·rw [if_pos ‹_›] at a;simp only [e7] at aj a;subst aj;subst a;exact ⟨rfl,rfl,.inl rfl,λ_=>rfl,.inl rfl,by simp,dd _⟩
 ·cases aj
theorem kH {cs:List bU} (h:av w aT (fj cs).flatten jz) {c c':bU} (a:cs[i]?=some c) (b:k<7) (e:c.cells.set k v=c'.cells) :
  av (w.setCell ⟨aT,0+i * 7+k,none⟩ v) aT (fj (cs.set i c')).flatten jz/\(cs.set i c')[i]?=some c':=by
 have:=CM h a b v;rw [e,q9] at this;exact ⟨this,by simp [cz a]⟩
theorem kL {cs:List bU} (h:av w aT (fj cs).flatten jz) {c:bU} (a:cs[i]?=some c) (aj:c.cells[k]?=some v):w.cell? ⟨aT,0+i * 7+k,none⟩=some v:=by rw [gG];exact h.cell (wC (zz _) (tn a) aj)
open Classical in
theorem L9 {ar:Nat->Tag} {X:bl} (h:bX A ar w aM X) (UM:nb X.pure) (c:Int) {raw:List aF} {vs:List aG}
  (UT:bg w la (dz raw).flatten) (Ux:(dz raw).flatten=[]\/fM A la) (Ui:dX A w raw vs) :
  ba 66 [ptr aM,.int .i64 c,.slice la raw.length lcap] w λv w'=>v=.int .i64 (X.pure.post c vs).1/\dD A ar w aM (X.pure.post c vs).2 w' λ_=>True:=by
 refine bc Tryz.func66 ?_;rw [ptr,Sv];have hlen:raw.length=vs.length:=Ui.1;rcases X.qN c with ⟨N,S⟩ | ⟨i,x,rfl,N,S⟩
 ·refine aD (s4 h S) ?_;rintro v w' ⟨rfl,rfl⟩;have J:X.pure.post c vs=(1,X.pure):=by simp [aB.post,N]
  refine ⟨_,rfl,?_⟩;rw [J];exact ⟨rfl,dD.same h (ao.refl _ _) trivial⟩
 refine aD (qZ h N) ?_;rintro v w' ⟨rfl,rfl⟩;refine ⟨_,rfl,⟨_,h.hO (k:=0) N rfl,dZ (λU=>?_) (λU=>?_)⟩⟩
 ·have J:X.pure.post i vs=(1,X.pure):=by simp [aB.post,S,bU.pure,U]
  rw [J];exact ⟨rfl,dD.same h (ao.refl _ _) trivial⟩
 have UW:=h.aP i x N;refine ⟨_,_,_,h.hO (k:=3) N rfl,?_⟩;cases B:x.c9 with
 |some b=>
  have J:X.pure.post i vs=(3,X.pure):=by simp [aB.post,S,bU.pure,U,B]
  rw [J];exact ⟨rfl,dD.same h (ao.refl _ _) trivial⟩
 |none=>
  refine dw rfl (dJ (λUQ=>?_) (λUQ=>?_))
  ·have au:vs=[]:=fb (by omega);have J:X.pure.post i vs=(1,X.pure):=by simp [aB.post,S,bU.pure,U,B,au]
   rw [J];exact ⟨rfl,dD.same h (ao.refl _ _) trivial⟩
  have Uv:¬ vs=[]:=λe=>UQ (by rw [hlen,e];rfl)
  refine a9 (λUX=>?_) (λUX=>?_)
  ·have J:X.pure.post i vs=(18,X.pure):=by
    have:1024<vs.length:=by omega
    simp [aB.post,S,bU.pure,U,B,Uv,this]
   rw [J];exact ⟨rfl,dD.same h (ao.refl _ _) trivial⟩
  have hle:vs.length<=1024:=by omega
  have J:X.pure.post i vs=if gy X.nodes.length X.lines vs≠0 then (gy X.nodes.length X.lines vs,X.pure) else (0,X.pure.fS i (x.pure.jL vs)):=by
   have UV:¬ vs.length>1024:=by omega
   have UB:X.pure.nodes.length=X.nodes.length:=by simp [bl.pure]
   have Uz:X.pure.lines=X.lines:=rfl;simp only [aB.post,S,UB,Uz];rw [if_neg (by simp [bU.pure,U]),if_neg (by simp [bU.pure,B]),if_neg (by simpa using Uv),if_neg UV]
  rw [J];refine c1 mix (λm env u=>∃ (k:Nat) (UU:aw),k<=vs.length/\m=vs.length - k/\env=vo ⟨aM,0,none⟩ la raw.length lcap (some ⟨X.aT,0+i * 7,none⟩) la raw.length lcap raw.length k UU/\
   Go.bn.ai w' u/\gy X.nodes.length X.lines vs=gy X.nodes.length X.lines (vs.drop k)) vs.length ⟨0,_,by omega,by omega,rfl,ao.refl _ _,rfl⟩ ?_
  rintro m env u ⟨k,UU,G,rfl,rfl,p,a⟩;rw [PW];refine a9 (λUK=>?_) (λUK=>?_)
  ·have Us:k<vs.length:=by omega
   have UJ:k<raw.length:=by omega
   have aj:raw[k]?=some raw[k]:=by simp [UJ]
   have UO:cA A w' raw[k] vs[k]:=Ui.2 k _ _ aj (by simp [Us]);obtain ⟨U2,dg,rfl,UD,UE⟩:=(bg.new p UT).row (tm raw) (by omega) (zy aj);refine dT (by omega) (by omega) ?_;refine iy (v:=raw[k]) (by simpa using UD) ?_;rintro b1 w1 W q;obtain ⟨au,Q⟩:=bk W q;refine ⟨fI (vs:=aF.cells raw[k]) au (by simp [aF.cells]) (aF.single raw[k]),?_⟩;rintro UA s Ul y;obtain ⟨Up,UL⟩:=nK (vs:=aF.cells raw[k]) au (by simp [aF.cells]) Q (by omega) s;have Uu:Go.bn.ai UA Ul:=by rw [y];exact cL _
   have Y:=ai.ak Uu Up;have I:Go.bn.ai w' Ul:=(p.new UL).new Uu;have Um:=h.new I;clear q s au Q y;refine ⟨λz=>Go.bn.ai Ul z,ao.refl _ _,l3 (v:=raw[k]) (λz au=>gF (ai.ak au Y)) ?_⟩;refine ⟨_,_,_,λz au=>(Um.new au).b9.cell (i:=1) rfl,_,λz au=>(Um.new au).b9.cell (i:=0) rfl,?_⟩;refine aD (xz _ raw[k] _ _) ?_;rintro r UP ⟨rfl,H⟩;refine ⟨_,rfl,H,?_⟩;rw [UO.valid];rw [wm Us,FI] at a;refine dt (λV=>?_) (λV=>?_)
   ·rw [if_pos V] at a;rw [a,if_pos V];exact ⟨rfl,dD.same h (I.new H) trivial⟩
   ·rw [if_neg (λo=>o V)] at a;rw [show IntKind.i64.wrap ((k:Int)+1)=((k+1:Nat):Int) by rw [bA (by omega) (by omega)];rfl];exact ⟨vs.length - (k+1),by omega,k+1,_,by omega,rfl,rfl,I.new H,a⟩
  ·have:k=vs.length:=by omega
   subst this;rw [qb,GI] at a;rw [if_neg (λo=>o a)];rw [Qy];have hu:=h.new p;have UN:bg u la (dz raw).flatten:=bg.new p UT;have Uy:dX A u raw vs:=Ui.ax (ao.bZ p) λ_ _ h=>h
   refine IH hu UM N U B UN Ux Uy hle a ?_;intro bY A' χ' ls a5 UZ;rw [Qz];have L:=a5.b9;have M:(X.aU.set i { x with ay:=ls })[i]?=some { x with ay:=ls }:=by simp [cz N]
   have F:=L.aP i _ M;refine ⟨by omega,by omega,by omega,by omega,?_⟩;rintro b1 w1 W q;rw [Ih] at q;obtain ⟨Uq,Ut⟩:=bk W q;clear q;simp only at Uq;have UC:=L.new Ut;have E:av w1 X.aT (fj (X.aU.set i { x with ay:=ls })).flatten jz:=UC.cls;refine ⟨⟨_,kL (k:=3) E M rfl⟩,E.frozen,?_⟩;intro UA s;obtain ⟨g,O⟩:=kH (k:=3) (c':={ x with ay:=ls,c9:=some b1,raw:=List.replicate raw.length ⟨0,none,0,0⟩,batch:=List.replicate vs.length ⟨0,[]⟩ }) E M (by omega) (v:=.slice (some ⟨b1,0,none⟩) (Int.toNat raw.length) (Int.toNat raw.length)) (by simp [bU.cells]);rw [<-s] at g;have UF:ao (λz=>z=X.aT) w1 UA:=by rw [s];exact eA _ _ _ _
   clear s;refine ⟨⟨_,kL (k:=4) g O rfl⟩,g.frozen,?_⟩;intro Ul y;obtain ⟨d,C⟩:=kH (k:=4) (c':={ x with ay:=ls,c9:=some b1,raw:=List.replicate raw.length ⟨0,none,0,0⟩,batch:=List.replicate vs.length ⟨0,[]⟩,waiting:=vs.length }) g O (by omega) (v:=.int .i64 raw.length) (by simp [bU.cells,hlen]);rw [<-y] at d;have UG:ao (λz=>z=X.aT) UA Ul:=by rw [y];exact eA _ _ _ _
   clear y;refine ⟨_,kL (k:=5) d C rfl,⟨_,kL (k:=5) d C rfl⟩,d.frozen,?_⟩;intro UP Uj;obtain ⟨f,D⟩:=kH (k:=5) (c':={ x with ay:=ls,c9:=some b1,raw:=List.replicate raw.length ⟨0,none,0,0⟩,batch:=List.replicate vs.length ⟨0,[]⟩,waiting:=vs.length,kj:=IntKind.i64.wrap (x.kj+1) }) d C (by omega) (v:=.int .i64 (IntKind.i64.wrap (x.kj+1))) (by simp [bU.cells]);rw [<-Uj] at f;have H:ao (λz=>z=X.aT) Ul UP:=by rw [Uj];exact eA _ _ _ _
   clear Uj;refine ⟨_,kL (k:=6) f D rfl,⟨_,kL (k:=6) f D rfl⟩,f.frozen,?_⟩;intro R Uk;obtain ⟨n,UR⟩:=kH (k:=6) (c':={ x with ay:=ls,c9:=some b1,raw:=List.replicate raw.length ⟨0,none,0,0⟩,batch:=List.replicate vs.length ⟨0,[]⟩,waiting:=vs.length,kj:=IntKind.i64.wrap (x.kj+1),mO:=IntKind.i64.wrap (x.mO+vs.length) }) f D (by omega) (v:=.int .i64 (IntKind.i64.wrap (x.mO+raw.length))) (by simp [bU.cells,hlen]);rw [<-Uk] at n;have UH:ao (λz=>z=X.aT) UP R:=by rw [Uk];exact eA _ _ _ _
   clear Uk;have P:ao (λz=>z=X.aT) w1 R:=((UF.trans UG λ_ _ h=>h).trans H λ_ _ h=>h).trans UH λ_ _ h=>h
   have UI:ao (λz=>χ' z=.aU) w1 R:=P.mono λz _ e=>by rw [e];exact L.eW
   have Z:ao (λz=>χ' z=.aU) bY R:=(ao.bZ Ut).trans UI λ_ _ h=>h
   let K:Nat->Tag:=λk=>if k=b1 then .batch i else χ' k
   have UB:K b1=.batch i:=if_pos rfl;have Uz:∀ k,k≠b1->K k=χ' k:=λk G=>by simp only [K];rw [if_neg G]
   have hold:∀ k,k<bY.heap.size->K k=χ' k:=λk G=>Uz k (by omega)
   obtain ⟨m,_⟩:=L.move (T:=λt=>t=.aU) (χ':=K) Z (by simp) (λk G o=>by rw [hold k G] at o;exact o) (λk G _ _=>hold k G);have f1:=aY.cM m F.own F.tag (by simp) (by simp);have Uo:av R b1 (fq (List.replicate raw.length ⟨0,none,0,0⟩)).flatten ij:=by
    have Uw:b1≠X.aT:=by have:=L.cls.lt;have e:({ X with aU:=X.aU.set i { x with ay:=ls } }:bl).aT=X.aT:=rfl;omega
    have:=P.ak Uq Uw;simpa using this
   have U0:kd (fQ A' χ' K bY) K R i { x with ay:=ls,c9:=some b1,raw:=List.replicate raw.length ⟨0,none,0,0⟩,batch:=List.replicate vs.length ⟨0,[]⟩,waiting:=vs.length,kj:=IntKind.i64.wrap (x.kj+1),mO:=IntKind.i64.wrap (x.mO+vs.length) }:=by
    refine ⟨f1.1,f1.2,λj l UY=>(F.lane j l UY).cM m (by simp) (by simp),(λo=>nomatch o),λb V=>?_,?_⟩
    ·simp only [e7] at V;subst V;exact ⟨Uo,UB⟩
    ·have:=LS (fQ A' χ' K bY) R vs.length;simpa [hlen] using this
   have U1:∀ k,K k≠.ck->k<R.heap.size:=λk o=>by
    by_cases Ur:k=b1
    ·rw [Ur];exact Uo.lt
    ·rw [Uz k Ur] at o;exact fF (L.jl o) Z.size
   obtain ⟨aZ,Un⟩:=L.pY (χ':=K) M (Z.mono λk _ e=>.inl e) (λk G o=>by rw [hold k G] at o;exact o) (λk G _ _=>hold k G) U1 (by rw [q9];rw [iJ,iJ,iJ] at n;exact n) (by rw [hold _ L.cls.lt];exact L.eW) U0
   rw [iJ] at Un;refine ⟨rfl,_,_,_,((h.refl p).trans a5.next).trans aZ,Un,?_,trivial⟩;refine (bl.v' X i _).trans ?_;congr 1;have US:=a5.pure;rw [qb,GH] at US;simp only [bf.jL,<-US];simp [bU.pure]
end
end Go.Proofs.YtmkljjbioomepaaGreat
