import Derived.Test.YtmkljjbioomepaaGreata10
set_option linter.all false
set_option maxHeartbeats 4000000
set_option maxRecDepth 100000
namespace Go.Proofs.YtmkljjbioomepaaGreat
open Go.Proofs.Tryz Go.b8
variable {A A':bB} {X:cF} {ap la e5:ax} {fU bo a3 i j k lcap jQ:Nat} {c c' x:dC} {cs:List dC} {l:fF} {ls:List fF} {p':gh} {raw:List a0} {v bX:a0} {vs:List bn} {w w':av} {aG χ':Nat->Tag}
section
theorem c4.qB (h:c4 A aG w a3 X) (J:aG k≠.dR):k<w.heap.size:=h.low k (h.iL k J)
theorem c4.fresh (h:c4 A aG w a3 X) (J:w.heap.size<=k):aG k=.dR:=by
 by_cases ab:aG k=.dR
 ·exact ab
 ·have:=h.qB ab;omega
theorem c4.refl {A:bB} {aG:Nat->Tag} {w w':av} {a3:Nat} {X:cF} (h:c4 A aG w a3 X) (aj:ai w w'):Next A A aG aG w w':=Next.refl h.iL h.low aj
def gQ (A:bB) (aG:Nat->Tag) (w:av) (a3:Nat) (F:a9) (w':av) (K:(bB)->Prop):Prop:=∃ A' χ' eR,Next A A' aG χ' w w'/\c4 A' χ' w' a3 eR/\eR.pure=F/\K A'
theorem gQ.same (h:c4 A aG w a3 X) (aj:ai w w') {K:(bB)->Prop} (f':K A):gQ A aG w a3 X.pure w' K:=⟨A,aG,X,h.refl aj,h.new aj,rfl,f'⟩
def vc (i:Nat) (t:Tag):Prop:=t=.bl\/oV i t
theorem ZP (h:i≠j):∀ t,oV j t->¬ vc i t:=by intro t aZ;cases t<;>simp [oV,vc] at aZ ⊢<;>omega
theorem cF.Qk (X:cF) (i:Nat) (c:dC):({ X with bl:=X.bl.set i c }:cF).pure=X.pure.jy i c.pure:=by simp [cF.pure,a9.jy,oz]
theorem c4.E2 (h:c4 A aG w a3 X) (ab:X.bl[i]?=some c)
  (J:ay (λk=>vc i (aG k)) w w') (a':∀ k,k<w.heap.size->χ' k≠.dR->aG k≠.dR) (aX:∀ k,k<w.heap.size->¬ vc i (aG k)->aG k≠.dR->χ' k=aG k) (au:∀ k,χ' k≠.dR->k<w'.heap.size)
  (ak:aF w' X.bo ((jL X.bl).set i c'.cells).flatten qY) (JT:χ' X.bo=.bl) (kd:sE (k0 A aG χ' w) χ' w' i c') :
  Next A (k0 A aG χ' w) aG χ' w w'/\c4 (k0 A aG χ' w) χ' w' a3 { X with bl:=X.bl.set i c' }:=by
 obtain ⟨m,ba⟩:=h.move J (by simp [vc,oV]) a' aX;have f1:=aF.eF m h.dt h.lu (by simp [vc,oV]) (by simp);have f2:=bu.eF m h.nodes h.qE (by simp [vc,oV]) (by simp);have f3:=bu.eF m h.km h.rv (by simp [vc,oV]) (by simp);refine ⟨ba,m.vD,λk ab=>?_,?_,f1.2,f2.1,f2.2,λj x ao=>(h.node j x ao).eF m (by simp [vc,oV]) (by simp [vc,oV]),?_,JT,λj y az=>?_,f3.1,f3.2,λp ar=>gy.eF m (h.hB p ar).1 (h.hB p ar).2 (by simp [vc,oV]) (by simp),h.nodup⟩
 ·rcases ab with ab | ab
  ·exact au k ab
  ·exact ks ab.1 J.size
 ·simpa [cF.cells] using f1.1
 ·rw [Hz] at ak;exact ak
 ·simp only [oy] at az;split at az
  ·rename_i he;subst he;split at az
   ·simp only [iX] at az;subst az;exact kd
   ·cases az
  ·rename_i he;exact (h.bw j y az).eF m (ZP he)
theorem ZQ (h:aF w bo (jL cs).flatten qY) (ab:cs[i]?=some c) (J:k<7) (v:bx) :
  aF (w.setCell ⟨bo,0+i * 7+k,none⟩ v) bo ((jL cs).set i (c.cells.set k v)).flatten qY:=by
 rw [l6];have:=h.setCell (i:=i * 7+k) v;rw [Rd (Wz cs) v (Ly ab) J] at this;exact this
open Classical in
theorem amJ (h:c4 A aG w a3 X) (c:Int):bK 64 [ptr a3,.int .i64 c] w λv w'=>
  gQ A aG w a3 (X.pure.take c).2 w' λA'=>match (X.pure.take c).1 with
   |none=>v=.tuple #[.slice none 0 0,.bool false]
   |some ds=>∃ b raw,v=.tuple #[.slice (some ⟨b,0,none⟩) ds.length ds.length,.bool true]/\aF w' b (j6 raw).flatten o9/\lN A' w' raw ds/\¬ A' b:=by
 refine bO Tryz.func64 ?_;rw [ptr,ayp];rcases X.Gp c with ⟨af,al⟩ | ⟨i,x,rfl,af,al⟩
 ·refine aR (Li h al) ?_;rintro v w' ⟨rfl,rfl⟩;have aZ:X.pure.take c=(none,X.pure):=by simp [a9.take,af]
  refine ⟨_,rfl,?_⟩;rw [aZ];exact gQ.same h (ay.refl _ _) rfl
 ·refine aR (Hj h af) ?_;rintro v w' ⟨rfl,rfl⟩;refine ⟨_,rfl,⟨_,h.n_ (k:=0) af rfl,ht (λbc=>?_) (λbc=>?_)⟩⟩
  ·have aZ:X.pure.take i=(none,X.pure):=by simp [a9.take,al,dC.pure,bc]
   rw [aZ];exact gQ.same h (ay.refl _ _) rfl
  have fc:=h.bw i x af;refine ⟨_,_,_,h.n_ (k:=3) af rfl,?_⟩;cases hI:x.fD with
  |none=>
   have aZ:X.pure.take i=(none,X.pure):=by simp [a9.take,al,dC.pure,bc,hI]
   rw [aZ];exact gQ.same h (ay.refl _ _) rfl
  |some b=>
   refine ⟨_,h.n_ (k:=4) af rfl,bL (λhw=>?_) (λhw=>?_)⟩
   ·have aZ:X.pure.take i=(none,X.pure):=by
     have:0<x.waiting:=by omega
     simp [a9.take,al,dC.pure,bc,hI,this]
    rw [aZ];exact gQ.same h (ay.refl _ _) rfl
   ·have aZ:X.pure.take i=(some x.batch,X.pure.jy i { x.pure with batch:=none }):=by
     have:x.waiting=0:=by omega
     simp [a9.take,al,dC.pure,bc,hI,this]
    rw [aZ];refine ⟨_,_,_,h.n_ (k:=3) af rfl,⟨⟨_,h.n_ (k:=3) af rfl⟩,?_,?_⟩⟩
    ·exact h.cls.frozen
    intro aS cG;have cv:aF aS X.bo ((jL X.bl).set i (x.cells.set 3 (.slice none 0 0))).flatten qY:=by rw [cG];exact ZQ h.cls af (by omega) _
    have eN:ay (λk=>k=X.bo) w' aS:=by rw [cG];exact iu _ _ _ _
    clear cG;let χ':Nat->Tag:=λk=>if aG k=.batch i then .dR else aG k
    have K_:∀ k,χ' k≠.dR->aG k≠.dR/\aG k≠.batch i/\χ' k=aG k:=by
     intro k ab;simp only [χ'] at ab ⊢;split at ab
     ·exact absurd rfl ab
     ·rename_i aj;exact ⟨ab,aj,by rw [if_neg aj]⟩
    have fb:=fc.batch b hI;have aX:∀ k,aG k≠.batch i->χ' k=aG k:=λk aj=>by simp only [χ'];rw [if_neg aj]
    have GU:ay (λk=>aG k=.bl) w' aS:=eN.mono λk _ e=>by rw [e];exact h.i_
    obtain ⟨m,_⟩:=h.move (χ':=χ') (T:=λt=>t=.bl\/t=.batch i) (w':=aS) (GU.mono λk _ e=>.inl e) (by simp) (λk _ ab=>(K_ k ab).1) (λk _ aj _=>aX k λe=>aj (.inr e));have f1:=bu.eF m fc.own fc.tag (by simp) (by simp);obtain ⟨ba,cM⟩:=h.E2 (χ':=χ') (w':=aS) (c':={ x with fD:=none,raw:=[],batch:=[] }) af (GU.mono λk _ e=>.inl e) (λk _ ab=>(K_ k ab).1) (λk _ aj _=>aX k λe=>aj (.inr (by rw [e];rfl)))
     (λk ab=>ks (h.qB (K_ k ab).1) eN.size) cv (by rw [aX _ (by rw [h.i_];simp),h.i_])
     ⟨f1.1,f1.2,λj l au=>(fc.lane j l au).eF m (by simp) (by simp),λ_=>⟨rfl,rfl⟩,(λ_ ak=>nomatch ak),⟨rfl,λ_ _ _ ab=>by simp at ab⟩⟩
    have uS:¬ k0 A aG χ' w' b:=by
     rintro (ab | ⟨_,_,ab⟩)
     ·exact (K_ b ab).2.1 fb.2
     ·rw [fb.2] at ab;cases ab
    have mg:aF aS b (j6 x.raw).flatten o9:=GU.an fb.1 (by rw [fb.2];simp);refine ⟨_,χ',_,ba,cM,?_,b,x.raw,?_,mg,fc.ds.aO (GU.mono λk _ e=>h.iL k (by rw [e];simp)) λk J fB=>?_,uS⟩
    ·rw [cF.Qk];simp [dC.pure]
    ·have:=fc.ds.1;rw [hI,this];rfl
    ·rcases fB with fB | fB
     ·exact h.iL k (K_ k fB).1
     ·exact fB.2.1
theorem sE.afA {T:Tag->Prop} (m:tZ T A A' aG χ' w w') {l':fF} (h:sE A aG w i c) (bq:∀ t,oV i t->T t->t=.aU i\/t=.lane i j\/t=.cP i j)
  (cV:bu w' uq 2 c.la c.aU.length c.lc ((l0 c.aU).set j l'.cells).flatten) (wh:∀ k,a7 c.la k->χ' k=.aU i) (au:Ir A' χ' w' i j l'):sE A' χ' w' i { c with aU:=c.aU.set j l' }:=by
 refine ⟨?_,wh,λk y az=>?_,h.none,λb ak=>?_,h.ds.aO m.Hh m.old⟩
 ·rw [aja] at cV;simpa using cV
 ·simp only [oy] at az;split at az
  ·rename_i he;subst he;split at az
   ·simp only [iX] at az;subst az;exact au
   ·cases az
  ·rename_i he;refine (h.lane k y az).eF m (λab=>?_) (λab=>?_)
   ·rcases bq (.lane i k) rfl ab with e | e | e
    ·cases e
    ·simp at e;exact he e.symm
    ·cases e
   ·rcases bq (.cP i k) rfl ab with e | e | e
    ·cases e
    ·cases e
    ·simp at e;exact he e.symm
 ·refine aF.eF m (h.batch b ak).1 (h.batch b ak).2 (λab=>?_) (by simp);rcases bq (.batch i) rfl ab with e | e | e<;>cases e
theorem wy {α:Type} {l:List α} {x:α} (h:l[i]?=some x):l.set i x=l:=by
 apply rL;intro k;rw [oy];split
 ·rename_i he;subst he;rw [if_pos (dy h),h]
 ·rfl
def nY (i j n:Nat) (t:Tag):Prop:=t=.lane i j\/t=.word n
theorem c4.afC (h:c4 A aG w a3 X) {n:Nat} {y:mm} (ab:X.bl[i]?=some c) (au:c.aU[j]?=some l) (az:X.nodes[n]?=some y)
  (J:ay (λk=>nY i j n (aG k)) w w') (a':∀ k,k<w.heap.size->χ' k≠.dR->aG k≠.dR) (aX:∀ k,k<w.heap.size->aG k≠.lane i j->χ' k=aG k) (oe:∀ k,χ' k≠.dR->k<w'.heap.size)
  {n':bt} (aj:gY w' y.b y.a4 n') (ar:gy (k0 A aG χ' w) w' l.pb p') (aZ:∀ k,p'.mut l.pb k->χ' k=.lane i j) :
  Next A (k0 A aG χ' w) aG χ' w w'/\c4 (k0 A aG χ' w) χ' w' a3 { X with nodes:=X.nodes.set n { y with n:=n' },bl:=X.bl.set i { c with aU:=c.aU.set j { l with p:=p' } } }:=by
 obtain ⟨m,ba⟩:=h.move (T:=nY i j n) J (by simp [nY]) a' (λk aK aj _=>aX k aK λe=>aj (.inl e));have f1:=aF.eF m h.dt h.lu (by simp [nY]) (by simp);have f2:=bu.eF m h.nodes h.qE (by simp [nY]) (by simp);have f3:=bu.eF m h.km h.rv (by simp [nY]) (by simp);have f4:=aF.eF m h.cls h.i_ (by simp [nY]) (by simp);have lZ:=h.node n y az;have fc:=h.bw i c ab;refine ⟨ba,m.vD,λk ab=>?_,?_,f1.2,?_,f2.2,?_,?_,f4.2,λq z aE=>?_,f3.1,f3.2,λp ar=>gy.eF m (h.hB p ar).1 (h.hB p ar).2 (by simp [nY]) (by simp),h.nodup⟩
 ·rcases ab with ab | ab
  ·exact oe k ab
  ·exact ks ab.1 J.size
 ·simpa [cF.cells] using f1.1
 ·have e:((X.nodes.set n { y with n:=n' }).map λx=>ptr x.b)=X.nodes.map λx=>ptr x.b:=by rw [oz];exact wy (by simp [az])
  rw [e];simpa using f2.1
 ·intro q z aE;simp only [oy] at aE;split at aE
  ·rename_i he;subst he;split at aE
   ·simp only [iX] at aE;subst aE;exact ⟨aj,by rw [aX _ lZ.node.node.lt (by rw [lZ.tag];simp)];exact lZ.tag,by rw [aX _ lZ.node.words.lt (by rw [lZ.qM];simp)];exact lZ.qM⟩
   ·cases aE
  ·rename_i he;exact (h.node q z aE).eF m (by simp [nY]) (by simp [nY];exact λe=>he e.symm)
 ·have e:jL (X.bl.set i { c with aU:=c.aU.set j { l with p:=p' } })=jL X.bl:=by simp only [jL,oz];refine wy ?_;simp [ab,dC.cells]
  rw [e];exact f4.1
 ·simp only [oy] at aE;split at aE
  ·rename_i he;subst he;split at aE
   ·simp only [iX] at aE;subst aE;have f5:=bu.eF m fc.own fc.tag (by simp [nY]) (by simp);have kF:=fc.lane j l au;refine fc.afA m (λt af al=>?_) ?_ f5.2 ?_
    ·rcases al with e | e
     ·exact .inr (.inl e)
     ·rw [e] at af;cases af
    ·have e:(l0 c.aU).set j ({ l with p:=p' }:fF).cells=l0 c.aU:=wy (by rw [i0 au];rfl);rw [e];exact f5.1
    ·have f6:=bu.eF m kF.cP kF.Hu (by simp [nY]) (by simp);exact ⟨ar,aZ,f6.1,f6.2⟩
   ·cases aE
  ·rename_i he;refine (h.bw q z aE).eF m (λt af al=>?_);rcases al with e | e
   ·rw [e] at af;exact he af
   ·rw [e] at af;cases af
end
section
theorem bu.row {w:av} {e sz n cap:Nat} {a:ax} {rows:List aH} (h:bu w e sz a n cap rows.flatten) (aX:∀ r ∈ rows,r.length=sz) (aE:0<sz) {i:Nat} {r:aH} (aD:rows[i]?=some r) :
  ∃ g,a=some ⟨g,0,none⟩/\i<n/\(∃ cs,aF w g cs e)/\df w ⟨g,0+i * sz,none⟩ 0 r/\∀ k v,r[k]?=some v->w.cell? ⟨g,0+i * sz+k,none⟩=some v:=by
 obtain ⟨b,o,ak,af,al⟩:=h.rd.row aX aE aD;rcases h.2 with ⟨aN,_⟩ | ⟨cU,cur,he,mg,hle,ab,au,aZ⟩
 ·rw [aN] at ak;cases ak
 ·rw [he] at ak;simp only [iX,Addr.mk.injEq,and_true] at ak;obtain ⟨rfl,rfl⟩:=ak;refine ⟨cU,he,?_,⟨cur,mg⟩,af,al⟩;have hlen:=h.1;rw [vP aX] at hlen;have:=dy aD;exact Nat.lt_of_lt_of_eq this (Nat.eq_of_mul_eq_mul_right aE hlen)
def E5 (i j:Nat) (t:Tag):Prop:=t=.cP i j\/t=.aU i
open Classical in
theorem c4.afD (h:c4 A aG w a3 X) (ab:X.bl[i]?=some c) (au:c.aU[j]?=some l)
  (J:ay (λk=>E5 i j (aG k)) w w') {EU:eI} (fC:∀ k,a7 ap k->aG k=.cP i j\/w.heap.size<=k) (cV:bu w' vw 1 ap EU.length fU (is (EU.map Int.ofNat)))
  (arW:bu w' uq 2 c.la c.aU.length c.lc ((l0 c.aU).set j (fF.cells { l with cP:=EU,sG:=ap,tP:=fU })).flatten) :
  ∃ A' χ',Next A A' aG χ' w w'/\c4 A' χ' w' a3 { X with bl:=X.bl.set i { c with aU:=c.aU.set j { l with cP:=EU,sG:=ap,tP:=fU } } }:=by
 let χ':Nat->Tag:=λk=>if a7 ap k then .cP i j else aG k
 have af:∀ k,a7 ap k->χ' k=.cP i j:=λk J=>by simp only [χ'];rw [if_pos J]
 have al:∀ k,¬ a7 ap k->χ' k=aG k:=λk J=>by simp only [χ'];rw [if_neg J]
 have a':∀ k,k<w.heap.size->χ' k≠.dR->aG k≠.dR:=by
  intro k aK ab;by_cases ak:a7 ap k
  ·rcases fC k ak with e | e
   ·rw [e];simp
   ·omega
  ·rw [al k ak] at ab;exact ab
 have aX:∀ k,k<w.heap.size->aG k≠.cP i j->χ' k=aG k:=by
  intro k aK ab;by_cases ak:a7 ap k
  ·rcases fC k ak with e | e
   ·exact absurd e ab
   ·omega
  ·exact al k ak
 have fc:=h.bw i c ab;have kF:=fc.lane j l au;obtain ⟨m,_⟩:=h.move (T:=E5 i j) (χ':=χ') J (by simp [E5]) a' (λk aK aj _=>aX k aK λe=>aj (.inl e));obtain ⟨dr,c2⟩:=gy.eF m kF.pair kF.tag (by simp [E5]) (by simp);have iU:ay (λk=>vc i (aG k)) w w':=J.mono λk _ ab=>by
  rcases ab with e | e
  ·exact .inr (by rw [e];rfl)
  ·exact .inr (by rw [e];rfl)
 have lG:∀ k,χ' k≠.dR->k<w'.heap.size:=λk ab=>by
  by_cases ak:a7 ap k
  ·exact cV.lt ak
  ·rw [al k ak] at ab;exact ks (h.qB ab) J.size
 have p3:aF w' X.bo ((jL X.bl).set i (dC.cells { c with aU:=c.aU.set j { l with cP:=EU,sG:=ap,tP:=fU } })).flatten qY:=by have e:(jL X.bl).set i (dC.cells { c with aU:=c.aU.set j { l with cP:=EU,sG:=ap,tP:=fU } })=jL X.bl:=wy (by rw [Ly ab];simp [dC.cells]);rw [e];exact (aF.eF m h.cls h.i_ (by simp [E5]) (by simp)).1
 have At:sE (k0 A aG χ' w) χ' w' i { c with aU:=c.aU.set j { l with cP:=EU,sG:=ap,tP:=fU } }:=by refine fc.afA m (λt _ aZ=>aZ.elim (λe=>.inr (.inr e)) .inl) arW (λk ak=>?_) ⟨dr,c2,cV,af⟩;rw [aX k (fc.own.lt ak) (by rw [fc.tag k ak];simp)];exact fc.tag k ak
 obtain ⟨ba,cM⟩:=h.E2 ab iU a' (λk aK aj _=>aX k aK λe=>aj (.inr (by rw [e];rfl))) lG p3 (by rw [aX _ h.cls.lt (by rw [h.i_];simp)];exact h.i_) At;exact ⟨_,_,ba,cM⟩
theorem agT (C:cT) (k:Nat):C.lF k []=C:=rfl
theorem ag9 (C:cT) (k:Nat) (v:bn) (vs:List bn):C.lF k (v::vs)=(C.k3 k v).lF (k+1) vs:=rfl
structure Na (A:bB) (aG:Nat->Tag) (w:av) (a3:Nat) (X:cF) (i:Nat) (x:dC) (vs:List bn) (k:Nat) (u:av) (A':bB) (χ':Nat->Tag) (ls:List fF):Prop where
 next:Next A A' aG χ' w u
 dt:c4 A' χ' u a3 { X with bl:=X.bl.set i { x with aU:=ls } }
 pure:(dC.pure { x with aU:=ls }).lF k (vs.drop k)=x.pure.lF 0 vs
 len:ls.length=X.nodes.length
 lane:∀ (j:Nat) (l:fF),ls[j]?=some l->l.p.node=j/\l.p.bN.length<=k/\l.cP.length<=k
theorem pJ {α:Type} (l:List α) (i:Nat) (a b:α):(l.set i a).set i b=l.set i b:=List.set_set ..
open Classical in
theorem aky {u:av}
  (bF:Na A aG w a3 X i x vs k u A' χ' ls) (ao:i<X.bl.length) (aw:k<vs.length) (aj:vs.length<=1024) (c_:ls[j]?=some l) (aEB:vs[k].node=j) (au:0<X.nodes.length)
  {w1:av} (hA:p'=l.p.post bX vs[k] e5 jQ)
  (rh:∀ M':bB,IX A' M' u (a7 e5)->(∀ k,p'.mut l.pb k->M' k)->gy M' w1 l.pb p') (D9:ay (λk=>k=l.pb\/a7 l.p.e5 k) u w1) (j4:e5=l.p.e5\/∀ k,a7 e5 k->u.heap.size<=k) (il:∀ k,a7 e5 k->k<w1.heap.size) :
  ∃ iB fm,Next A' iB χ' fm u w1/\c4 iB fm w1 a3 { X with bl:=X.bl.set i { x with aU:=ls.set j { l with p:=p' } } }:=by
 have h:=bF.dt;have ab:(X.bl.set i { x with aU:=ls })[i]?=some { x with aU:=ls }:=by simp [ao]
 have fc:=h.bw i _ ab;have kF:=fc.lane j l c_;obtain ⟨y,az⟩:∃ y,X.nodes[0]?=some y:=⟨X.nodes[0],by simp [au]⟩;have lZ:=h.node 0 y az;let fm:Nat->Tag:=λk=>if a7 e5 k then .lane i j else χ' k
 have af:∀ k,a7 e5 k->fm k=.lane i j:=λk J=>by simp only [fm];rw [if_pos J]
 have al:∀ k,¬ a7 e5 k->fm k=χ' k:=λk J=>by simp only [fm];rw [if_neg J]
 have ady:∀ k,a7 e5 k->χ' k=.lane i j\/u.heap.size<=k:=by
  intro k J;rcases j4 with e | e
  ·exact .inl (kF.tag k (.inr (.inl (e▸J))))
  ·exact .inr (e k J)
 have a':∀ k,k<u.heap.size->fm k≠.dR->χ' k≠.dR:=by
  intro k aK ab;by_cases ak:a7 e5 k
  ·rcases ady k ak with e | e
   ·rw [e];simp
   ·omega
  ·rw [al k ak] at ab;exact ab
 have aX:∀ k,k<u.heap.size->χ' k≠.lane i j->fm k=χ' k:=by
  intro k aK ab;by_cases ak:a7 e5 k
  ·rcases ady k ak with e | e
   ·exact absurd e ab
   ·omega
  ·exact al k ak
 have aZ:∀ k,p'.mut l.pb k->fm k=.lane i j:=by
  subst hA;rintro k (J | J | J)
  ·by_cases ak:a7 e5 k
   ·exact af k ak
   ·rw [al k ak];exact kF.tag k (.inl J)
  ·exact af k J
  ·by_cases ak:a7 e5 k
   ·exact af k ak
   ·rw [al k ak];exact kF.tag k (.inr (.inr J))
 have nL:ay (λk=>χ' k=.lane i j) u w1:=D9.mono λk _ ab=>kF.tag k (ab.elim .inl λe=>.inr (.inl e))
 have iU:∀ k,fm k≠.dR->k<w1.heap.size:=λk ab=>by
  by_cases ak:a7 e5 k
  ·exact il k ak
  ·rw [al k ak] at ab;exact ks (h.qB ab) D9.size
 have lG:gY w1 y.b y.a4 y.n:=lZ.node.aO nL (by rw [lZ.tag];simp) (by rw [lZ.qM];simp);have p3:gy (k0 A' χ' fm u) w1 l.pb p':=by
  refine rh _ (λk J=>?_) (λk J=>.inl (by rw [aZ k J];simp));rcases J with J | J
  ·by_cases ak:a7 e5 k
   ·exact .inr ak
   ·rw [al k ak] at J;exact .inl ⟨h.qB J,h.iL k J⟩
  ·exact .inl ⟨J.1,J.2.1⟩
 obtain ⟨ba,cM⟩:=h.afC (χ':=fm) (n':=y.n) (p':=p') ab c_ az (nL.mono λk _ e=>.inl e) a' aX iU lG p3 aZ;rw [wy az,pJ] at cM;exact ⟨_,_,ba,cM⟩
theorem agU (a b:Int):qs a b []=0:=rfl
theorem afX (a b:Int) (v:bn) (vs:List bn):qs a b (v::vs)=if v.v.valid a b≠0 then v.v.valid a b else qs a b vs:=rfl
theorem afY {a b:Int}:∀ {vs:List bn},qs a b vs=0->∀ v ∈ vs,v.v.valid a b=0
 | [],_,v,aw=>by cases aw
 |x::xs,h,v,aw=>by
  rw [afX] at h;split at h
  ·contradiction
  ·rename_i ab;rcases iF.1 aw with e | e
   ·subst e;exact Decidable.not_not.1 ab
   ·exact afY h v e
theorem ah1 {a b:Int} (h:v.valid a b=0):0<=v.Node/\v.Node<a/\v.valid 5 b=0:=by obtain ⟨ab,aD⟩:=Qo h;have pR:=Ce aD;refine ⟨pR.2.2.2.2.1,pR.2.2.2.2.2.1,?_⟩;have gE:v.inside 5 b=true:=decide_eq_true ⟨by omega,by omega,pR.2.2.1,pR.2.2.2.1,pR.2.2.2.2.1,by omega,pR.2.2.2.2.2.2⟩;unfold a0.valid at h ⊢;rw [aD] at h;rw [gE];exact h
theorem ag_ {v:bn} (c_:ls[j]?=some l) (aw:v.node=j) :
  dC.pure { x with aU:=ls.set j ⟨l.pb,l.p.post bX v e5 jQ,l.cP++[k],ap,fU⟩ }=(dC.pure { x with aU:=ls }).k3 k v:=by
 simp only [dC.pure,cT.k3,cT.mk.injEq,true_and,and_true];rw [aw,oz,j_];apply rL;intro q;rw [oy,Ic];have aK:=dy c_;by_cases he:j=q
 ·subst he;have arI:ls[j]=l:=by simpa [aK] using c_
  simp [aK,arI,fF.pure,gh.post,gh.pure]
 ·simp [he]
theorem amK (a:eI) (k:Nat):is ((a++[k]).map Int.ofNat)=is (a.map Int.ofNat)++[.int .i64 k]:=by simp [is]
theorem bW.next (n:Next A A' aG χ' w w') (bc:∀ k,aG k≠.dR->A k) {a:ax} {xs:aH} (h:bW w a xs) (aq:xs=[]\/kR A a):bW w' a xs/\(xs=[]\/kR A' a):=by
 refine ⟨h.aO (n.aO.mono λk _ ab=>bc k ab) aq,?_⟩;by_cases ao:xs=[]
 ·exact .inl ao
 ·refine .inr ?_;rcases aq with aq | aq
  ·exact absurd aq ao
  ·cases a with
   |none=>trivial
   |some a=>
    intro ab;have aK:=h.lt ao;rcases (n.iff _).1 ab with ab | ab
    ·exact aq (bc _ (n.grow _ aK ab))
    ·exact aq ab.2.1
theorem ei.next (n:Next A A' aG χ' w w') (bc:∀ k,aG k≠.dR->A k) {x:bn} (h:ei A w v x):ei A' w' v x:=
 h.aO (n.aO.mono λk _ ab=>bc k ab) λk aK ab=>by
  rcases (n.iff _).1 ab with ab | ab
  ·exact bc _ (n.grow _ aK ab)
  ·exact ab.2.1
theorem Qt {α:Type} {l:List α} (h:k<l.length):l.drop k=l[k]::l.drop (k+1):=A2 h
theorem ajd (h:c4 A aG w a3 X) (b3:y' X.pure) (ao:X.bl[i]?=some x) (r_:x.alive=true) (hI:x.fD=none)
  (aA:bW w la (gG raw).flatten) (pU:(gG raw).flatten=[]\/kR A la) (eb:hp A w raw vs) (aj:vs.length<=1024) (tk:qs X.nodes.length X.lines vs=0)
  {j:aH} {R:dW} (cC:∀ u A' χ' ls,Na A aG w a3 X i x vs vs.length u A' χ' ls->∀ aT,W prog (sub (b6 f66) [1,1,1,1,1]) (Vk la raw.length lcap (some ⟨X.bo,0+i * 7,none⟩) aT) (ga prog f66 R) u) :
  dT prog (.loop (sub (b6 f66) [1,1,1,1,0,1,0,0])) (Jn ⟨a3,0,none⟩ la raw.length lcap (some ⟨X.bo,0+i * 7,none⟩) la raw.length lcap raw.length 0 j)
   (a8 3 (bk (λenv w=>W prog (sub (b6 f66) [1,1,1,1,1]) env (ga prog f66 R) w) (ga prog f66 R))) w:=by
 have hlen:raw.length=vs.length:=eb.1;have wq:=dy ao;have gu:=b3.bw i x.pure (by simp [cF.pure,ao]);have Kl:x.aU.length=X.nodes.length:=by have:=gu.aU;simp [dC.pure,r_,cF.pure] at this;exact this
 have v5:=b3.nodes;have asG:l1 x.pure.aU=0:=by have af:=gu.waiting;have al:=gu.batch.1;simp [dC.pure,hI] at al;have aL:x.pure.waiting=x.waiting:=rfl;omega
 have arZ:∀ (q:Nat) (l:fF),x.aU[q]?=some l->l.p.node=q/\l.p.bN.length<=0/\l.cP.length<=0:=by
  intro q l au;have aq:=gu.lane q l.pure (by simp [dC.pure,au]);have aE:l.p.bN.length=0:=by
   have hm:l.pure.pair.bN.length ∈ x.pure.aU.map λl=>l.pair.bN.length:=eQ.2 ⟨l.pure,dn (i:=q) (by simp [dC.pure,au]),rfl⟩
   have:=List.sum_eq_zero_iff_forall_eq_nat.1 asG _ hm;exact this
  have ar:=aq.cP;refine ⟨aq.node,by omega,?_⟩;have:l.pure.cP.length=l.pure.pair.bN.length:=ar;have e:l.pure.pair.bN.length=l.p.bN.length:=rfl;have bg:l.pure.cP.length=l.cP.length:=rfl;omega
 refine e2 mix (λm env u=>∃ (k:Nat) (aT:aH) (A':bB) (χ':Nat->Tag) (ls:List fF),k<=vs.length/\m=vs.length - k/\env=Jn ⟨a3,0,none⟩ la raw.length lcap (some ⟨X.bo,0+i * 7,none⟩) la raw.length lcap raw.length k aT/\
   Na A aG w a3 X i x vs k u A' χ' ls) vs.length ⟨0,_,A,aG,x.aU,by omega,by omega,rfl,h.refl (ay.refl _ _),?_,rfl,Kl,arZ⟩ ?_
 ·have:({ x with aU:=x.aU }:dC)=x:=rfl;rw [this,wy ao];exact h
 rintro m env u ⟨k,aT,A',χ',ls,J,rfl,rfl,bF⟩;rw [avE];refine bL (λaK=>?_) (λaK=>?_)
 ·have nL:k<vs.length:=by omega
  have T5:k<raw.length:=by omega
  have aw:raw[k]?=some raw[k]:=by simp [T5]
  have wm:ei A w raw[k] vs[k]:=eb.2 k _ _ aw (by simp [nL]);have atK:ei A' u raw[k] vs[k]:=wm.next bF.next h.iL;obtain ⟨dw,aEg⟩:=bW.next bF.next h.iL aA pU;obtain ⟨lP,fZ,rfl,m5,jl⟩:=dw.row (Lx raw) (by omega) (Wy aw);have il:=afY tk vs[k] (qS nL);obtain ⟨BX,a1,atD⟩:=ah1 il;have jb:vs[k].v.Node=vs[k].node:=rfl;rw [jb] at BX a1;have atg:raw[k].Node=vs[k].node:=by rw [wm.eq];rfl
  obtain ⟨q,aM⟩:∃ q:Nat,vs[k].node=q:=⟨vs[k].node.toNat,by omega⟩;have UK:q<ls.length:=by rw [bF.len];omega
  have c_:ls[q]?=some ls[q]:=by simp [UK]
  generalize au:ls[q]=l at c_;obtain ⟨g3,nM,z7⟩:=bF.lane q l c_;have c7:(X.bl.set i { x with aU:=ls })[i]?=some { x with aU:=ls }:=by simp [wq]
  refine hc (by omega) (by omega) ?_;refine py (v:=raw[k]) (by simpa using m5) ?_;rintro b1 w1 bA br;obtain ⟨aE,tt⟩:=b4 bA br;refine ⟨kA (vs:=a0.cells raw[k]) aE (by simp [a0.cells]) (a0.single raw[k]),?_⟩;rintro aS cG aY dY;obtain ⟨BI,a5⟩:=Av (vs:=a0.cells raw[k]) aE (by simp [a0.cells]) tt (by omega) cG;have bf:Go.b8.ai aS aY:=by rw [dY];exact eh _
  have Ow:=ai.an bf BI;have oN:Go.b8.ai u aY:=a5.new bf;have k9:=bF.dt.new oN;clear br cG aE tt dY;refine ⟨λz=>Go.b8.ai aY z,ay.refl _ _,_,_,_,λz aE=>(k9.new aE).n_ (k:=2) c7 rfl,_,λz aE=>(ai.an aE Ow).cell (i:=1) rfl,?_⟩;obtain ⟨g,pQ,qw,⟨abe,J3⟩,od,GQ⟩:=bu.row (k9.bw i _ c7).own (yK ls) (by omega) (i0 c_);show cb x.la ls.length raw[k].Node 2 _;have TQ:x.la=some ⟨g,0,none⟩:=pQ;rw [TQ,atg,aM];refine hc (by omega) (by omega) ?_;rw [j_];intro bZ eE;have bz:Go.b8.ai aY bZ:=by rw [eE];exact eh _
  clear eE;have aqC:=ai.an bz Ow;have yx:Go.b8.ai u bZ:=oN.new bz;have tf:=bF.dt.new yx;have aqU:=tf.bw i _ c7;have Ko:=aqU.lane q l c_;refine ⟨λz=>Go.b8.ai bZ z,ay.refl _ _,some ⟨l.pb,0,none⟩,λz aE=>?_,?_⟩
  ·exact qn (bz.new aE) (GQ 0 _ rfl) id
  refine wU (v:=raw[k]) (λz aE=>l4 (ai.an aE aqC)) ?_;refine ⟨_,λz aE=>(tf.new aE).dt.cell (i:=0) rfl,?_⟩;have atL:ei A' bZ raw[k] vs[k]:=atK.aO (ay.db yx) λ_ _ h=>h
  refine aR (aly Ko.pair atL atD (by rw [aM];exact g3.symm) (by omega)) ?_;rintro r cK ⟨rfl,bX,e5,jQ,rh,D9,j4⟩;have adz:∀ k,a7 e5 k->k<cK.heap.size:=by
   intro b ak;have ar:=rh (λk=>(k<bZ.heap.size/\A' k)\/a7 e5 k) (λk J=>J) (λk J=>?_)
   ·exact ar.own.lt ak
   ·rcases J with J | J | J
    ·exact .inl ⟨J▸Ko.pair.an.lt,Ko.pair.oT k (.inl J)⟩
    ·exact .inr J
    ·exact .inl ⟨Ko.pair.rI.lt J,Ko.pair.oT k (.inr (.inr J))⟩
  have Zm:Na A aG w a3 X i x vs k bZ A' χ' ls:=⟨bF.next.new yx,tf,bF.pure,bF.len,bF.lane⟩;obtain ⟨iB,fm,Hm,r6⟩:=aky Zm wq nL aj c_ aM (by have:=v5.1;simp [cF.pure] at this;omega) rfl rh D9 j4 adz;have yk:(X.bl.set i { x with aU:=ls.set q { l with p:=l.p.post bX vs[k] e5 jQ } })[i]?=some { x with aU:=ls.set q { l with p:=l.p.post bX vs[k] e5 jQ } }:=by simp [wq]
  have J9:(ls.set q { l with p:=l.p.post bX vs[k] e5 jQ })[q]?=some { l with p:=l.p.post bX vs[k] e5 jQ }:=by simp [UK]
  have uJ:=r6.bw i _ yk;have aD3:=uJ.lane q _ J9;obtain ⟨cU,J2,_,⟨apE,aci⟩,_,acj⟩:=bu.row uJ.own (yK _) (by omega) (i0 J9);have D3:cU=g:=by have:x.la=some ⟨cU,0,none⟩:=J2;rw [TQ] at this;simp at this;exact this.symm
  subst D3;refine ⟨_,rfl,_,_,_,acj 1 _ rfl,?_⟩;rintro aP dh cv kY;obtain ⟨e4,cg⟩:=b4 cv kY;have Jy:=r6.new cg;clear kY;have T9:=(Jy.bw i _ yk).lane q _ J9;obtain ⟨wX,aD,pv,cr,gm⟩:=j5 (T:=3) (z:=.int .i64 0) (n:=1) (m:=8) (by kernel_rfl);have cV:bu dh 3 wX.size l.sG l.cP.length l.tP (is (l.cP.map Int.ofNat)):=by rw [cr];exact T9.cP
  obtain ⟨ap,fU,cR,fV,nP,eD,fC⟩:=cV.append (P:=prog) (t:=22) (ty:=22) Tryz.underlying22 aD pv (by rw [cr];rfl) (by omega)
   (s:=some ⟨aP,0,none⟩) (m:=1) (c:=1) (news:=[.int .i64 k]) (by rw [cr];rfl) (jk e4 (by simp)) (by simp [single]) (by omega) (by rw [gm];omega)
  rw [cr] at nP;refine ⟨ap,_,fU,cR,fV,?_⟩;have OL:ay (λz=>fm z=.cP i q) dh cR:=eD.mono λz _ aE=>T9.Hu z aE
  have ars:aF cR cU apE uq:=OL.an (ai.an cg aci) (by rw [uJ.tag cU ⟨0,J2⟩];simp);have acY:bu cR uq 2 x.la (ls.set q { l with p:=l.p.post bX vs[k] e5 jQ }).length x.lc (l0 (ls.set q { l with p:=l.p.post bX vs[k] e5 jQ })).flatten:=(uJ.own.new cg).aO OL λz aE=>by rw [uJ.tag z aE];simp
  refine ⟨⟨_,qn OL (qn cg (acj 1 _ rfl) id) (by rw [uJ.tag cU ⟨0,J2⟩];simp)⟩,ars.frozen,?_⟩;intro e6 jn;have fe:ay (λz=>z=cU) cR e6:=by rw [jn];exact iu _ _ _ _
  have arO:ay (λz=>E5 i q (fm z)) dh e6:=(OL.mono λz _ e=>.inl e).trans fe λz _ e=>.inr (by rw [e];exact uJ.tag cU ⟨0,J2⟩)
  have arY:bu e6 uq 2 x.la (ls.set q { l with p:=l.p.post bX vs[k] e5 jQ }).length x.lc ((l0 (ls.set q { l with p:=l.p.post bX vs[k] e5 jQ })).set q (fF.cells ⟨l.pb,l.p.post bX vs[k] e5 jQ,l.cP++[k],ap,fU⟩)).flatten:=by rw [TQ] at acY ⊢;rw [jn];have:=bu.setCell acY (i:=q * 2+1) (by simp;omega) (.slice ap (l.cP.length+1) fU);rw [Rd (yK _) _ (i0 J9) (by omega)] at this;simpa [fF.cells] using this
  have arx:fm cU=.aU i:=uJ.tag cU ⟨0,J2⟩;have vR:∀ z,a7 ap z->fm z=.cP i q\/dh.heap.size<=z:=by
   intro z aE;rcases fC with e | e
   ·exact .inl (T9.Hu z (e▸aE))
   ·obtain ⟨o,aq⟩:=aE;rw [e] at aq;simp at aq;exact .inr (by omega)
  have O7:bu e6 vw 1 ap (l.cP++[k]).length fU (is ((l.cP++[k]).map Int.ofNat)):=by
   rw [amK];have:=nP.aO fe (λz aE e=>?_)
   ·simpa using this
   ·rcases vR z aE with af | af
    ·rw [e,arx] at af;cases af
    ·have:=(ai.an cg aci).lt;omega
  clear jn;obtain ⟨mz,qU,Hn,Oh⟩:=Jy.afD yk J9 arO vR O7 arY;rw [pJ,pJ] at Oh;rw [show IntKind.i64.wrap ((k:Int)+1)=((k+1:Nat):Int) by rw [cn (by omega) (by omega)];rfl];refine ⟨vs.length - (k+1),by omega,k+1,_,mz,qU,ls.set q ⟨l.pb,l.p.post bX vs[k] e5 jQ,l.cP++[k],ap,fU⟩,by omega,rfl,rfl,?_⟩;refine ⟨((Zm.next.trans Hm).new cg).trans Hn,Oh,?_,by simp [bF.len],?_⟩
  ·rw [ag_ c_ aM,<-bF.pure,Qt nL,ag9]
  ·intro z y az;rw [oy] at az;split at az
   ·rename_i he;subst he;simp only [iX] at az;subst az;refine ⟨g3,?_,?_⟩
    ·simp [gh.post];omega
    ·simp;omega
   ·obtain ⟨a,b,c⟩:=bF.lane z y az;exact ⟨a,by omega,by omega⟩
 ·have:k=vs.length:=by omega
  subst this;exact cC u A' χ' ls bF _
theorem ah2 (n:Nat):p8 n [.int .i64 0,.slice none 0 0]=(j6 (List.replicate n ⟨0,none,0,0⟩)).flatten:=by
 induction n with
 |zero=>rfl
 |succ n c5=>rw [Fw,j6,kQ,l7,<-j6,<-c5];rfl
theorem alz (A:bB) (w:av) (n:Nat):lN A w (List.replicate n ⟨0,none,0,0⟩) (List.replicate n ⟨0,[]⟩):=by
 refine ⟨by simp,λi v x aw ao=>?_⟩;rw [WV] at aw ao;split at aw
 ·rw [if_pos ‹_›] at ao;simp only [iX] at aw ao;subst aw;subst ao;exact ⟨rfl,rfl,.inl rfl,λ_=>rfl,.inl rfl,by simp,eJ _⟩
 ·cases aw
theorem tI (h:aF w bo (jL cs).flatten qY) (ab:cs[i]?=some c) (J:k<7) {v:bx} (e:c.cells.set k v=c'.cells) :
  aF (w.setCell ⟨bo,0+i * 7+k,none⟩ v) bo (jL (cs.set i c')).flatten qY/\(cs.set i c')[i]?=some c':=by
 have:=ZQ h ab J v;rw [e,Hz] at this;exact ⟨this,by simp [dy ab]⟩
theorem tU (h:aF w bo (jL cs).flatten qY) {v:bx} (ab:cs[i]?=some c) (aw:c.cells[k]?=some v):w.cell? ⟨bo,0+i * 7+k,none⟩=some v:=by rw [l6];exact h.cell (QJ (Wz _) (Ly ab) aw)
open Classical in
theorem amL (h:c4 A aG w a3 X) (b3:y' X.pure) (c:Int)
  (aA:bW w la (gG raw).flatten) (pU:(gG raw).flatten=[]\/kR A la) (eb:hp A w raw vs) :
  bK 66 [ptr a3,.int .i64 c,.slice la raw.length lcap] w λv w'=>v=.int .i64 (X.pure.post c vs).1/\gQ A aG w a3 (X.pure.post c vs).2 w' λ_=>True:=by
 refine bO Tryz.func66 ?_;rw [ptr,ayq];have hlen:raw.length=vs.length:=eb.1;rcases X.Gp c with ⟨af,al⟩ | ⟨i,x,rfl,af,al⟩
 ·refine aR (Li h al) ?_;rintro v w' ⟨rfl,rfl⟩;have aZ:X.pure.post c vs=(1,X.pure):=by simp [a9.post,af]
  refine ⟨_,rfl,?_⟩;rw [aZ];exact ⟨rfl,gQ.same h (ay.refl _ _) trivial⟩
 refine aR (Hj h af) ?_;rintro v w' ⟨rfl,rfl⟩;refine ⟨_,rfl,⟨_,h.n_ (k:=0) af rfl,ht (λbc=>?_) (λbc=>?_)⟩⟩
 ·have aZ:X.pure.post i vs=(1,X.pure):=by simp [a9.post,al,dC.pure,bc]
  rw [aZ];exact ⟨rfl,gQ.same h (ay.refl _ _) trivial⟩
 have fc:=h.bw i x af;refine ⟨_,_,_,h.n_ (k:=3) af rfl,?_⟩;cases hI:x.fD with
 |some b=>
  have aZ:X.pure.post i vs=(3,X.pure):=by simp [a9.post,al,dC.pure,bc,hI]
  rw [aZ];exact ⟨rfl,gQ.same h (ay.refl _ _) trivial⟩
 |none=>
  refine eX rfl (gX (λaN=>?_) (λaN=>?_))
  ·have aE:vs=[]:=jR (by omega);have aZ:X.pure.post i vs=(1,X.pure):=by simp [a9.post,al,dC.pure,bc,hI,aE]
   rw [aZ];exact ⟨rfl,gQ.same h (ay.refl _ _) trivial⟩
  have cj:¬ vs=[]:=λe=>aN (by rw [hlen,e];rfl)
  refine bL (λa'=>?_) (λa'=>?_)
  ·have aZ:X.pure.post i vs=(18,X.pure):=by
    have:1024<vs.length:=by omega
    simp [a9.post,al,dC.pure,bc,hI,cj,this]
   rw [aZ];exact ⟨rfl,gQ.same h (ay.refl _ _) trivial⟩
  have hle:vs.length<=1024:=by omega
  have aZ:X.pure.post i vs=if qs X.nodes.length X.lines vs≠0 then (qs X.nodes.length X.lines vs,X.pure) else (0,X.pure.jy i (x.pure.sI vs)):=by
   have iN:¬ vs.length>1024:=by omega
   have bY:X.pure.nodes.length=X.nodes.length:=by simp [cF.pure]
   have bg:X.pure.lines=X.lines:=rfl;simp only [a9.post,al,bY,bg];rw [if_neg (by simp [dC.pure,bc]),if_neg (by simp [dC.pure,hI]),if_neg (by simpa using cj),if_neg iN]
  rw [aZ];refine e2 mix (λm env u=>∃ (k:Nat) (aT:aH),k<=vs.length/\m=vs.length - k/\env=N4 ⟨a3,0,none⟩ la raw.length lcap (some ⟨X.bo,0+i * 7,none⟩) la raw.length lcap raw.length k aT/\
   Go.b8.ai w' u/\qs X.nodes.length X.lines vs=qs X.nodes.length X.lines (vs.drop k)) vs.length ⟨0,_,by omega,by omega,rfl,ay.refl _ _,rfl⟩ ?_
  rintro m env u ⟨k,aT,J,rfl,rfl,dN,ob⟩;rw [avD];refine bL (λaK=>?_) (λaK=>?_)
  ·have nL:k<vs.length:=by omega
   have T5:k<raw.length:=by omega
   have aw:raw[k]?=some raw[k]:=by simp [T5]
   have wm:ei A w' raw[k] vs[k]:=eb.2 k _ _ aw (by simp [nL]);obtain ⟨lP,fZ,rfl,m5,jl⟩:=(bW.new dN aA).row (Lx raw) (by omega) (Wy aw);refine hc (by omega) (by omega) ?_;refine py (v:=raw[k]) (by simpa using m5) ?_;rintro b1 w1 bA br;obtain ⟨aE,tt⟩:=b4 bA br;refine ⟨kA (vs:=a0.cells raw[k]) aE (by simp [a0.cells]) (a0.single raw[k]),?_⟩;rintro aS cG aY dY;obtain ⟨BI,a5⟩:=Av (vs:=a0.cells raw[k]) aE (by simp [a0.cells]) tt (by omega) cG;have bf:Go.b8.ai aS aY:=by rw [dY];exact eh _
   have Ow:=ai.an bf BI;have oN:Go.b8.ai w' aY:=(dN.new a5).new bf;have k9:=h.new oN;clear br cG aE tt dY;refine ⟨λz=>Go.b8.ai aY z,ay.refl _ _,wU (v:=raw[k]) (λz aE=>l4 (ai.an aE Ow)) ?_⟩;refine ⟨_,_,_,λz aE=>(k9.new aE).dt.cell (i:=1) rfl,_,λz aE=>(k9.new aE).dt.cell (i:=0) rfl,?_⟩;refine aR (Rt _ raw[k] _ _) ?_;rintro r bZ ⟨rfl,dv⟩;refine ⟨_,rfl,dv,?_⟩;rw [wm.valid];rw [Qt nL,afX] at ob;refine fX (λak=>?_) (λak=>?_)
   ·rw [if_pos ak] at ob;rw [ob,if_pos ak];exact ⟨rfl,gQ.same h (oN.new dv) trivial⟩
   ·rw [if_neg (λab=>ab ak)] at ob;rw [show IntKind.i64.wrap ((k:Int)+1)=((k+1:Nat):Int) by rw [cn (by omega) (by omega)];rfl];exact ⟨vs.length - (k+1),by omega,k+1,_,by omega,rfl,rfl,oN.new dv,ob⟩
  ·have:k=vs.length:=by omega
   subst this;rw [Fy,agU] at ob;rw [if_neg (λab=>ab ob)];rw [awk];have hu:=h.new dN;have UO:bW u la (gG raw).flatten:=bW.new dN aA;have atJ:hp A u raw vs:=eb.aO (ay.db dN) λ_ _ h=>h
   refine ajd hu b3 af bc hI UO pU atJ hle ob ?_;intro cS A' χ' ls bF PM;rw [awl];have cM:=bF.dt;have c7:(X.bl.set i { x with aU:=ls })[i]?=some { x with aU:=ls }:=by simp [dy af]
   have TC:=cM.bw i _ c7;refine ⟨by omega,by omega,by omega,by omega,?_⟩;rintro b1 w1 bA br;rw [ah2] at br;obtain ⟨fb,a1⟩:=b4 bA br;clear br;simp only at fb;have mc:=cM.new a1;have DZ:aF w1 X.bo (jL (X.bl.set i { x with aU:=ls })).flatten qY:=mc.cls;refine ⟨⟨_,tU (k:=3) DZ c7 rfl⟩,DZ.frozen,?_⟩;intro aS cG;obtain ⟨z0,zY⟩:=tI (k:=3) (c':={ x with aU:=ls,fD:=some b1,raw:=List.replicate raw.length ⟨0,none,0,0⟩,batch:=List.replicate vs.length ⟨0,[]⟩ }) DZ c7 (by omega) (v:=.slice (some ⟨b1,0,none⟩) (Int.toNat raw.length) (Int.toNat raw.length)) (by simp [dC.cells]);rw [<-cG] at z0;have eN:ay (λz=>z=X.bo) w1 aS:=by rw [cG];exact iu _ _ _ _
   clear cG;refine ⟨⟨_,tU (k:=4) z0 zY rfl⟩,z0.frozen,?_⟩;intro aY dY;obtain ⟨se,zZ⟩:=tI (k:=4) (c':={ x with aU:=ls,fD:=some b1,raw:=List.replicate raw.length ⟨0,none,0,0⟩,batch:=List.replicate vs.length ⟨0,[]⟩,waiting:=vs.length }) z0 zY (by omega) (v:=.int .i64 raw.length) (by simp [dC.cells,hlen]);rw [<-dY] at se;have ek:ay (λz=>z=X.bo) aS aY:=by rw [dY];exact iu _ _ _ _
   clear dY;refine ⟨_,tU (k:=5) se zZ rfl,⟨_,tU (k:=5) se zZ rfl⟩,se.frozen,?_⟩;intro bZ eE;obtain ⟨yl,BJ⟩:=tI (k:=5) (c':={ x with aU:=ls,fD:=some b1,raw:=List.replicate raw.length ⟨0,none,0,0⟩,batch:=List.replicate vs.length ⟨0,[]⟩,waiting:=vs.length,sN:=IntKind.i64.wrap (x.sN+1) }) se zZ (by omega) (v:=.int .i64 (IntKind.i64.wrap (x.sN+1))) (by simp [dC.cells]);rw [<-eE] at yl;have dv:ay (λz=>z=X.bo) aY bZ:=by rw [eE];exact iu _ _ _ _
   clear eE;refine ⟨_,tU (k:=6) yl BJ rfl,⟨_,tU (k:=6) yl BJ rfl⟩,yl.frozen,?_⟩;intro cK eO;obtain ⟨BL,yk⟩:=tI (k:=6) (c':={ x with aU:=ls,fD:=some b1,raw:=List.replicate raw.length ⟨0,none,0,0⟩,batch:=List.replicate vs.length ⟨0,[]⟩,waiting:=vs.length,sN:=IntKind.i64.wrap (x.sN+1),yQ:=IntKind.i64.wrap (x.yQ+vs.length) }) yl BJ (by omega) (v:=.int .i64 (IntKind.i64.wrap (x.yQ+raw.length))) (by simp [dC.cells,hlen]);rw [<-eO] at BL;have g_:ay (λz=>z=X.bo) bZ cK:=by rw [eO];exact iu _ _ _ _
   clear eO;have BS:ay (λz=>z=X.bo) w1 cK:=((eN.trans ek λ_ _ h=>h).trans dv λ_ _ h=>h).trans g_ λ_ _ h=>h
   have GU:ay (λz=>χ' z=.bl) w1 cK:=BS.mono λz _ e=>by rw [e];exact cM.i_
   have T6:ay (λz=>χ' z=.bl) cS cK:=(ay.db a1).trans GU λ_ _ h=>h
   let fm:Nat->Tag:=λk=>if k=b1 then .batch i else χ' k
   have bY:fm b1=.batch i:=if_pos rfl;have bg:∀ k,k≠b1->fm k=χ' k:=λk J=>by simp only [fm];rw [if_neg J]
   have hold:∀ k,k<cS.heap.size->fm k=χ' k:=λk J=>bg k (by omega)
   obtain ⟨m,_⟩:=cM.move (T:=λt=>t=.bl) (χ':=fm) T6 (by simp) (λk J ab=>by rw [hold k J] at ab;exact ab) (λk J _ _=>hold k J);have f1:=bu.eF m TC.own TC.tag (by simp) (by simp);have ih:aF cK b1 (j6 (List.replicate raw.length ⟨0,none,0,0⟩)).flatten o9:=by
    have Ui:b1≠X.bo:=by have:=cM.cls.lt;have e:({ X with bl:=X.bl.set i { x with aU:=ls } }:cF).bo=X.bo:=rfl;omega
    have:=BS.an fb Ui;simpa using this
   have iU:sE (k0 A' χ' fm cS) fm cK i { x with aU:=ls,fD:=some b1,raw:=List.replicate raw.length ⟨0,none,0,0⟩,batch:=List.replicate vs.length ⟨0,[]⟩,waiting:=vs.length,sN:=IntKind.i64.wrap (x.sN+1),yQ:=IntKind.i64.wrap (x.yQ+vs.length) }:=by
    refine ⟨f1.1,f1.2,λj l au=>(TC.lane j l au).eF m (by simp) (by simp),(λab=>nomatch ab),λb ak=>?_,?_⟩
    ·simp only [iX] at ak;subst ak;exact ⟨ih,bY⟩
    ·have:=alz (k0 A' χ' fm cS) cK vs.length;simpa [hlen] using this
   have lG:∀ k,fm k≠.dR->k<cK.heap.size:=λk ab=>by
    by_cases Ki:k=b1
    ·rw [Ki];exact ih.lt
    ·rw [bg k Ki] at ab;exact ks (cM.qB ab) T6.size
   obtain ⟨ba,r6⟩:=cM.E2 (χ':=fm) c7 (T6.mono λk _ e=>.inl e) (λk J ab=>by rw [hold k J] at ab;exact ab) (λk J _ _=>hold k J) lG (by rw [Hz];rw [pJ,pJ,pJ] at BL;exact BL) (by rw [hold _ cM.cls.lt];exact cM.i_) iU
   rw [pJ] at r6;refine ⟨rfl,_,_,_,((h.refl dN).trans bF.next).trans ba,r6,?_,trivial⟩;refine (cF.Qk X i _).trans ?_;congr 1;have ar:=bF.pure;rw [Fy,agT] at ar;simp only [cT.sI,<-ar];simp [dC.pure]
end
end Go.Proofs.YtmkljjbioomepaaGreat
