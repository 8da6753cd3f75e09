import Derived.Test.YtegepanmkjemjaaGreatv11
set_option linter.unusedVariables false
namespace Go.Proofs.YtegepanmkjemjaaGreat
open Go.Eng
theorem aW.lowt {A:Nat→Prop} {χ:Nat→Tag} {w:World} {fb:Nat} {X:FabX} (h:aW A χ w fb X) {k:Nat} (hk:χ k≠.imm):k<w.heap.size:=h.low k (h.avoid k hk)
theorem aW.fresh {A:Nat→Prop} {χ:Nat→Tag} {w:World} {fb:Nat} {X:FabX} (h:aW A χ w fb X) {k:Nat} (hk:w.heap.size≤k):χ k=.imm:=by
 by_cases hc:χ k=.imm
 ·exact hc
 ·have:=h.lowt hc;omega
theorem aW.refl {A:Nat→Prop} {χ:Nat→Tag} {w w':World} {fb:Nat} {X:FabX} (h:aW A χ w fb X) (hn:New w w'):Next A A χ χ w w':=Next.refl h.avoid h.low hn
def dC (A:Nat→Prop) (χ:Nat→Tag) (w:World) (fb:Nat) (F:Fab) (w':World) (K:(Nat→Prop)→Prop):Prop:=∃ A' χ' X',Next A A' χ χ' w w'∧aW A' χ' w' fb X'∧X'.pure=F∧K A'
theorem dC.same {A:Nat→Prop} {χ:Nat→Tag} {w w':World} {fb:Nat} {X:FabX} (h:aW A χ w fb X) (hn:New w w') {K:(Nat→Prop)→Prop} (hK:K A):dC A χ w fb X.pure w' K:=⟨A,χ,X,h.refl hn,h.new hn,rfl,hK⟩
def tcl (i:Nat) (t:Tag):Prop:=t=.clients∨ofC i t
theorem Dw {i j:Nat} (h:i≠j):∀ t,ofC j t→¬ tcl i t:=by
 intro t ht
 cases t<;>simp [ofC,tcl] at ht ⊢<;>omega
theorem FabX.set_pure (X:FabX) (i:Nat) (c:aX):({ X with clients:=X.clients.set i c }:FabX).pure=X.pure.setC i c.pure:=by
 simp [FabX.pure,Fab.setC,List.map_set]
theorem aW.setClient {A:Nat→Prop} {χ χ':Nat→Tag} {w w':World} {fb:Nat} {X:FabX} (h:aW A χ w fb X) {i:Nat} {c c':aX} (hc:X.clients[i]?=some c)
  (hk:Keep (λk=>tcl i (χ k)) w w') (hg:∀ k,k<w.heap.size→χ' k≠.imm→χ k≠.imm) (hs:∀ k,k<w.heap.size→¬ tcl i (χ k)→χ k≠.imm→χ' k=χ k) (hl:∀ k,χ' k≠.imm→k<w'.heap.size)
  (hb:Blk w' X.cb ((gP X.clients).set i c'.cells).flatten TC) (hcb:χ' X.cb=.clients) (hc':lA (iW A χ χ' w) χ' w' i c') :
  Next A (iW A χ χ' w) χ χ' w w'∧aW (iW A χ χ' w) χ' w' fb { X with clients:=X.clients.set i c' }:=by
 obtain ⟨m,nx⟩:=h.move hk (by simp [tcl,ofC]) hg hs
 have f1:=Blk.moved m h.fab h.ftag (by simp [tcl,ofC]) (by simp)
 have f2:=Owns.moved m h.nodes h.ntag (by simp [tcl,ofC]) (by simp)
 have f3:=Owns.moved m h.orphs h.otag (by simp [tcl,ofC]) (by simp)
 refine ⟨nx,m.avoid',λk hc=>?_,?_,f1.2,f2.1,f2.2,λj x hx=>(h.node j x hx).moved m (by simp [tcl,ofC]) (by simp [tcl,ofC]),?_,hcb,λj y hy=>?_,f3.1,f3.2,λp hp=>bO.moved m (h.orphan p hp).1 (h.orphan p hp).2 (by simp [tcl,ofC]) (by simp),h.nodup⟩
 ·rcases hc with hc | hc
  ·exact hl k hc
  ·exact Nat.lt_of_lt_of_le hc.1 hk.size
 ·simpa [FabX.cells] using f1.1
 ·rw [mb] at hb;exact hb
 ·simp only [List.getElem?_set] at hy
  split at hy
  ·rename_i he
   subst he
   split at hy
   ·simp only [Option.some.injEq] at hy
    subst hy
    exact hc'
   ·cases hy
  ·rename_i he
   exact (h.client j y hy).moved m (Dw he)
theorem Dx {w:World} {cb:Nat} {cs:List aX} (h:Blk w cb (gP cs).flatten TC) {i k:Nat} {c:aX} (hc:cs[i]?=some c) (hk:k<7) (v:Value) :
  Blk (w.setCell ⟨cb,0+i * 7+k,none⟩ v) cb ((gP cs).set i (c.cells.set k v)).flatten TC:=by
 rw [Nat.zero_add]
 have:=h.setCell (i:=i * 7+k) v
 rw [pR (sD cs) v (nX hc) hk] at this
 exact this
open Classical in
theorem Fk {A:Nat→Prop} {χ:Nat→Tag} {w:World} {fb:Nat} {X:FabX} (h:aW A χ w fb X) (c:Int):Does 59 [ptr fb,.int .i64 c] w λv w'=>
  dC A χ w fb (X.pure.take c).2 w' λA'=>match (X.pure.take c).1 with
   |none=>v=.tuple #[.slice none 0 0,.bool false]
   |some ds=>∃ b raw,v=.tuple #[.slice (some ⟨b,0,none⟩) ds.length ds.length,.bool true]∧Blk w' b (kt raw).flatten TD∧Ds A' w' raw ds∧¬ A' b:=by
 refine does Tryz.func59 ?_
 rw [ptr,nT]
 rcases X.cl_cases c with ⟨h1,h2⟩ | ⟨i,x,rfl,h1,h2⟩
 ·refine aF (jE h h2) ?_
  rintro v w' ⟨rfl,rfl⟩
  have ht:X.pure.take c=(none,X.pure):=by simp [Fab.take,h1]
  refine ⟨_,rfl,?_⟩
  rw [ht]
  exact dC.same h (Keep.refl _ _) rfl
 ·refine aF (gy h h1) ?_
  rintro v w' ⟨rfl,rfl⟩
  refine ⟨_,rfl,⟨_,h.ccell (k:=0) h1 rfl,dT (λha=>?_) (λha=>?_)⟩⟩
  ·have ht:X.pure.take i=(none,X.pure):=by simp [Fab.take,h2,aX.pure,ha]
   rw [ht]
   exact dC.same h (Keep.refl _ _) rfl
  have hcx:=h.client i x h1
  refine ⟨_,_,_,h.ccell (k:=3) h1 rfl,?_⟩
  cases hbb:x.bb with
  |none=>
   have ht:X.pure.take i=(none,X.pure):=by simp [Fab.take,h2,aX.pure,ha,hbb]
   rw [ht]
   exact dC.same h (Keep.refl _ _) rfl
  |some b=>
   refine ⟨_,h.ccell (k:=4) h1 rfl,aH (λhw=>?_) (λhw=>?_)⟩
   ·have ht:X.pure.take i=(none,X.pure):=by
     have:0<x.waiting:=by omega
     simp [Fab.take,h2,aX.pure,ha,hbb,this]
    rw [ht]
    exact dC.same h (Keep.refl _ _) rfl
   ·have ht:X.pure.take i=(some x.batch,X.pure.setC i { x.pure with batch:=none }):=by
     have:x.waiting=0:=by omega
     simp [Fab.take,h2,aX.pure,ha,hbb,this]
    rw [ht]
    refine ⟨_,_,_,h.ccell (k:=3) h1 rfl,⟨⟨_,h.ccell (k:=3) h1 rfl⟩,?_,?_⟩⟩
    ·exact h.cls.frozen
    intro w2 hw2
    have hb2:Blk w2 X.cb ((gP X.clients).set i (x.cells.set 3 (.slice none 0 0))).flatten TC:=by rw [hw2];exact Dx h.cls h1 (by omega) _
    have hk2:Keep (λk=>k=X.cb) w' w2:=by rw [hw2];exact aR _ _ _ _
    clear hw2
    let χ':Nat→Tag:=λk=>if χ k=.batch i then .imm else χ k
    have hχ':∀ k,χ' k≠.imm→χ k≠.imm∧χ k≠.batch i∧χ' k=χ k:=by
     intro k hc
     simp only [χ'] at hc ⊢
     split at hc
     ·exact absurd rfl hc
     ·rename_i hn
      exact ⟨hc,hn,by rw [if_neg hn]⟩
    have hbt:=hcx.batch b hbb
    have hs:∀ k,χ k≠.batch i→χ' k=χ k:=λk hn=>by simp only [χ'];rw [if_neg hn]
    have hkc:Keep (λk=>χ k=.clients) w' w2:=hk2.mono λk _ e=>by rw [e];exact h.ctag
    obtain ⟨m,_⟩:=h.move (χ':=χ') (T:=λt=>t=.clients∨t=.batch i) (w':=w2) (hkc.mono λk _ e=>.inl e) (by simp) (λk _ hc=>(hχ' k hc).1) (λk _ hn _=>hs k λe=>hn (.inr e))
    have f1:=Owns.moved m hcx.own hcx.tag (by simp) (by simp)
    obtain ⟨nx,hF⟩:=h.setClient (χ':=χ') (w':=w2) (c':={ x with bb:=none,raw:=[],batch:=[] }) h1 (hkc.mono λk _ e=>.inl e) (λk _ hc=>(hχ' k hc).1) (λk _ hn _=>hs k λe=>hn (.inr (by rw [e];rfl)))
     (λk hc=>Nat.lt_of_lt_of_le (h.lowt (hχ' k hc).1) hk2.size) hb2 (by rw [hs _ (by rw [h.ctag];simp),h.ctag])
     ⟨f1.1,f1.2,λj l hl=>(hcx.lane j l hl).moved m (by simp) (by simp),λ_=>⟨rfl,rfl⟩,(λ_ hb=>nomatch hb),⟨rfl,λ_ _ _ hc=>by simp at hc⟩⟩
    have hnb:¬ iW A χ χ' w' b:=by
     rintro (hc | ⟨_,_,hc⟩)
     ·exact (hχ' b hc).2.1 hbt.2
     ·rw [hbt.2] at hc;cases hc
    have hbl:Blk w2 b (kt x.raw).flatten TD:=hkc.blk hbt.1 (by rw [hbt.2];simp)
    refine ⟨_,χ',_,nx,hF,?_,b,x.raw,?_,hbl,hcx.ds.keep (hkc.mono λk _ e=>h.avoid k (by rw [e];simp)) λk hk hA=>?_,hnb⟩
    ·rw [FabX.set_pure]
     simp [aX.pure]
    ·have:=hcx.ds.1
     rw [hbb,this];rfl
    ·rcases hA with hA | hA
     ·exact h.avoid k (hχ' k hA).1
     ·exact hA.2.1
theorem lA.setLane {T:Tag→Prop} {A A':Nat→Prop} {χ χ':Nat→Tag} {w w':World} (m:qV T A A' χ χ' w w') {i j:Nat} {c:aX} {l':cD} (h:lA A χ w i c) (hT:∀ t,ofC i t→T t→t=.lanes i∨t=.lane i j∨t=.places i j)
  (hown:Owns w' TL 2 c.la c.lanes.length c.lc ((ka c.lanes).set j l'.cells).flatten) (htag:∀ k,isB c.la k→χ' k=.lanes i) (hl:vI A' χ' w' i j l'):lA A' χ' w' i { c with lanes:=c.lanes.set j l' }:=by
 refine ⟨?_,htag,λk y hy=>?_,h.none,λb hb=>?_,h.ds.keep m.keepA m.old⟩
 ·rw [Am] at hown
  simpa using hown
 ·simp only [List.getElem?_set] at hy
  split at hy
  ·rename_i he
   subst he
   split at hy
   ·simp only [Option.some.injEq] at hy
    subst hy
    exact hl
   ·cases hy
  ·rename_i he
   refine (h.lane k y hy).moved m (λhc=>?_) (λhc=>?_)
   ·rcases hT (.lane i k) rfl hc with e | e | e
    ·cases e
    ·simp at e;exact he e.symm
    ·cases e
   ·rcases hT (.places i k) rfl hc with e | e | e
    ·cases e
    ·cases e
    ·simp at e;exact he e.symm
 ·refine Blk.moved m (h.batch b hb).1 (h.batch b hb).2 (λhc=>?_) (by simp)
  rcases hT (.batch i) rfl hc with e | e | e<;>cases e
theorem iB {α:Type} {l:List α} {i:Nat} {x:α} (h:l[i]?=some x):l.set i x=l:=by
 apply List.ext_getElem?
 intro k
 rw [List.getElem?_set]
 split
 ·rename_i he
  subst he
  rw [if_pos (aP h),h]
 ·rfl
def lK (i j n:Nat) (t:Tag):Prop:=t=.lane i j∨t=.word n
theorem aW.setPair {A:Nat→Prop} {χ χ':Nat→Tag} {w w':World} {fb:Nat} {X:FabX} (h:aW A χ w fb X) {i j n:Nat} {c:aX} {l:cD} {y:jZ} (hc:X.clients[i]?=some c) (hl:c.lanes[j]?=some l) (hy:X.nodes[n]?=some y)
  (hk:Keep (λk=>lK i j n (χ k)) w w') (hg:∀ k,k<w.heap.size→χ' k≠.imm→χ k≠.imm) (hs:∀ k,k<w.heap.size→χ k≠.lane i j→χ' k=χ k) (hlow:∀ k,χ' k≠.imm→k<w'.heap.size)
  {n':aO} (hn:bL w' y.b y.bw n') {p':cT} (hp:bO (iW A χ χ' w) w' l.pb p') (ht:∀ k,p'.mut l.pb k→χ' k=.lane i j) :
  Next A (iW A χ χ' w) χ χ' w w'∧aW (iW A χ χ' w) χ' w' fb { X with nodes:=X.nodes.set n { y with n:=n' },clients:=X.clients.set i { c with lanes:=c.lanes.set j { l with p:=p' } } }:=by
 obtain ⟨m,nx⟩:=h.move (T:=lK i j n) hk (by simp [lK]) hg (λk hlt hn _=>hs k hlt λe=>hn (.inl e))
 have f1:=Blk.moved m h.fab h.ftag (by simp [lK]) (by simp)
 have f2:=Owns.moved m h.nodes h.ntag (by simp [lK]) (by simp)
 have f3:=Owns.moved m h.orphs h.otag (by simp [lK]) (by simp)
 have f4:=Blk.moved m h.cls h.ctag (by simp [lK]) (by simp)
 have hya:=h.node n y hy
 have hcx:=h.client i c hc
 refine ⟨nx,m.avoid',λk hc=>?_,?_,f1.2,?_,f2.2,?_,?_,f4.2,λq z hz=>?_,f3.1,f3.2,λp hp=>bO.moved m (h.orphan p hp).1 (h.orphan p hp).2 (by simp [lK]) (by simp),h.nodup⟩
 ·rcases hc with hc | hc
  ·exact hlow k hc
  ·exact Nat.lt_of_lt_of_le hc.1 hk.size
 ·simpa [FabX.cells] using f1.1
 ·have e:((X.nodes.set n { y with n:=n' }).map λx=>ptr x.b)=X.nodes.map λx=>ptr x.b:=by
   rw [List.map_set]
   exact iB (by simp [hy])
  rw [e]
  simpa using f2.1
 ·intro q z hz
  simp only [List.getElem?_set] at hz
  split at hz
  ·rename_i he
   subst he
   split at hz
   ·simp only [Option.some.injEq] at hz
    subst hz
    exact ⟨hn,by rw [hs _ hya.node.node.lt (by rw [hya.tag];simp)];exact hya.tag,by rw [hs _ hya.node.words.lt (by rw [hya.wtag];simp)];exact hya.wtag⟩
   ·cases hz
  ·rename_i he
   exact (h.node q z hz).moved m (by simp [lK]) (by simp [lK];exact λe=>he e.symm)
 ·have e:gP (X.clients.set i { c with lanes:=c.lanes.set j { l with p:=p' } })=gP X.clients:=by
   simp only [gP,List.map_set]
   refine iB ?_
   simp [hc,aX.cells]
  rw [e]
  exact f4.1
 ·simp only [List.getElem?_set] at hz
  split at hz
  ·rename_i he
   subst he
   split at hz
   ·simp only [Option.some.injEq] at hz
    subst hz
    have f5:=Owns.moved m hcx.own hcx.tag (by simp [lK]) (by simp)
    have hlx:=hcx.lane j l hl
    refine hcx.setLane m (λt h1 h2=>?_) ?_ f5.2 ?_
    ·rcases h2 with e | e
     ·exact .inr (.inl e)
     ·rw [e] at h1;cases h1
    ·have e:(ka c.lanes).set j ({ l with p:=p' }:cD).cells=ka c.lanes:=iB (by rw [fZ hl];rfl)
     rw [e]
     exact f5.1
    ·have f6:=Owns.moved m hlx.places hlx.ptag (by simp [lK]) (by simp)
     exact ⟨hp,ht,f6.1,f6.2⟩
   ·cases hz
  ·rename_i he
   refine (h.client q z hz).moved m (λt h1 h2=>?_)
   rcases h2 with e | e
   ·rw [e] at h1;exact he h1
   ·rw [e] at h1;cases h1
end Go.Proofs.YtegepanmkjemjaaGreat
