import Derived.Test.YtgpmeaicjonenaaGreata13
set_option linter.unusedVariables false
namespace Go.Proofs.YtgpmeaicjonenaaGreat
open Go.Proofs.Tryz
open Go.Eng
theorem Owns.append_room {P:Program} {w:World} {t ty e:TypeId} {i:TypeInfo} (ht:P.underlying t=some (.slice e)) (hi:P.info? e=some i) (hsz:0<i.size)
  {g n cap:Nat} {xs:List Value} (ho:Owns w e i.size (some ⟨g,0,none⟩) n cap xs) {s:Addr} {m c:Nat} {news:List Value} (hl:news.length=m * i.size) (hs:Rd w (some s) news) (h1:∀ u ∈ news,single u=true) (hroom:n+m≤cap) :
  ∃ w',(Builtin.append_ #[t,t] ty #[.slice (some ⟨g,0,none⟩) n cap,.slice (some s) m c]).run P w=.ok (.slice (some ⟨g,0,none⟩) (n+m) cap) w'∧Owns w' e i.size (some ⟨g,0,none⟩) (n+m) cap (xs++news)∧Keep (λk=>k=g) w w':=by
 have hlen:(xs++news).length=(n+m) * i.size:=by rw [List.length_append,ho.1,hl,Nat.add_mul]
 by_cases hm:m=0
 ·subst hm
  have hn:news=[]:=List.eq_nil_of_length_eq_zero (by simpa using hl)
  subst hn
  refine ⟨w,?_,by simpa using ho,Keep.refl _ _⟩
  have hle:=ho.le
  simp [Builtin.append_,run_underlying ht,sizeOf,typeInfo,hi,Builtin.lenOf,hle,Builtin.firstCells,loadCells,loadCellsFrom,storeCells]
 ·have hne:news≠[]:=by
   intro hc
   have h0:m * i.size=0:=by rw [←hl,hc];rfl
   rcases Nat.mul_eq_zero.1 h0 with h | h<;>omega
  rcases hs with hc | ⟨sb,so,he,hcell⟩
  ·exact absurd hc hne
  simp at he
  subst he
  have hnews:∀ j u,news[j]?=some u→w.cell? ((⟨sb,so,none⟩:Addr).add j)=some u:=λj u hu=>by rw [mq];exact hcell j u hu
  have h1':∀ u ∈ news,u.oneCell'=true:=λu hu=>pj (h1 u hu)
  rcases ho.2 with ⟨h0,_⟩ | ⟨g',cur,he,hg,hnc,hcm,hcs,htake⟩
  ·cases h0
  simp at he
  subst he
  have hfit:n * i.size+news.length≤cur.toArray.size:=by
   rw [hl,List.size_toArray,hcs,←Nat.add_mul];exact Nat.mul_le_mul_right _ hroom
  have hr:=run_append_room (P:=P) w t ty e i ht hi g n cap cur.toArray hg ⟨sb,so,none⟩ m c news hl hnews h1' hroom hfit
  refine ⟨_,hr,⟨hlen,.inr ⟨g,_,rfl,setRow_heap w g cur.toArray _ e _ hg,hroom,hcm,?_,?_⟩⟩,⟨rfl,rfl,rfl,by simp,λk _ hk=>setRow_other w g k _ (λe=>hk e)⟩⟩
  ·simp only [List.length_append,List.length_take,List.length_drop] at *
   simp at hfit <;> omega
  ·rw [htake,←hlen]
   exact List.take_left
theorem yE {P:Program} {w:World} {t ty e:TypeId} {i:TypeInfo} {z:Value} (ht:P.underlying t=some (.slice e)) (hi:P.info? e=some i) (hz:i.zero=some z) (hzc:z.cells=#[z]) {b o c:Nat} (hw:wrAt w ⟨b,o,none⟩ 0 [z]) :
  (Builtin.clear_ #[t] ty #[.slice (some ⟨b,o,none⟩) 1 c]).run P w=.ok (.tuple #[]) (puts w ⟨b,o,none⟩ 0 [z]):=by
 have hst:=gD (P:=P) hw
 have hzz:(Builtin.zeroCells z.cells 1).toList=[z]:=by rw [hzc];simp [Builtin.zeroCells]
 simp [Builtin.clear_,run_underlying ht,zeroValue,typeInfo,hi,hz,hzz,hst]
theorem Owns.take_n {w:World} {e n cap:Nat} {a:Option Addr} {xs:List Value} (h:Owns w e 1 a n cap xs) (ha:a≠none) {m:Nat} (hm:m≤n):Owns w e 1 a m cap (xs.take m):=by
 rcases h.2 with ⟨h0,_⟩ | ⟨g,cur,he,hg,hnc,hcm,hcs,htake⟩
 ·exact absurd h0 ha
 ·refine ⟨by have:=h.1;simp;omega,.inr ⟨g,cur,he,hg,by omega,hcm,hcs,?_⟩⟩
  rw [←htake,List.take_take,Nat.min_eq_left (by omega),Nat.mul_one]
theorem BR {w:World} {a:Option Addr} {n cap i:Nat} {xs:List Value} (h:Owns w TPP 1 a n cap xs) (hi:i<n) (h1:∀ u ∈ xs,single u=true) :
  Does 97 [.slice a n cap,.int .i64 i,.int .i64 (i+1:Nat)] w λv w'=>v=.slice a (n - 1) cap∧Owns w' TPP 1 a (n - 1) cap (xs.eraseIdx i)∧Keep (isB a) w w':=by
 refine does Tryz.func97 ?_
 rw [eB]
 have hxl:=h.1
 rcases h.2 with ⟨_,h0,_⟩ | ⟨g,cur,rfl,hg,hnc,hcm,hcs,htake⟩
 ·omega
 have hcm':cap≤9223372036854775807:=hcm
 refine oC (by omega) (by omega) (by omega) (by omega) hnc ?_
 intro xa _
 refine bK (λhe=>by omega) (λ_=>?_)
 intro w1 hw1
 have hn1:New w w1:=by rw [hw1];exact aU _
 clear hw1
 refine oC (by omega) (by omega) (by omega) (by omega) hnc ?_
 intro xa1 hxa1
 refine oC (by omega) (by omega) (by omega) (by omega) hnc ?_
 intro xa2 hxa2
 have e1:xa1=some ⟨g,0,none⟩:=by rcases hxa1 with e | ⟨_,e⟩<;>simpa using e
 subst e1
 simp only [Int.toNat_natCast,Int.toNat_zero,Nat.sub_zero]
 obtain ⟨s2,rfl⟩:∃ s,xa2=some s:=by rcases hxa2 with e | ⟨_,e⟩<;>exact ⟨_,e⟩
 obtain ⟨ti,hti,hz,hsz,hby⟩:=iF (T:=115) (z:=.pointer none) (n:=1) (m:=8) (by kernel_rfl)
 have ho1:Owns w1 TPP ti.size (some ⟨g,0,none⟩) i cap (xs.take i):=by rw [hsz];exact Owns.take_n (h.new hn1) (by simp) (by omega)
 have hs2:Rd w1 (some s2) (xs.drop (i+1)):=by
  by_cases hd:xs.drop (i+1)=[]
  ·rw [hd];exact .inl rfl
  ·rcases hxa2 with e | ⟨e,_⟩
   ·rw [e]
    have:=(h.new hn1).rd.drop (i+1)
    simpa using this
   ·exfalso
    apply hd
    apply List.drop_eq_nil_of_le
    omega
 obtain ⟨w2,hrun,hown2,hk2⟩:=Owns.append_room (P:=prog) (t:=118) (ty:=118) Tryz.underlying118 hti (by omega) ho1 (s:=s2) (m:=n - (i+1)) (c:=cap - (i+1)) (news:=xs.drop (i+1)) (by rw [hsz];simp;omega) hs2
  (λu hu=>h1 u (List.mem_of_mem_drop hu)) (by omega)
 rw [hsz] at hown2
 have hin:i+(n - (i+1))=n - 1:=by omega
 rw [hin] at hrun hown2
 refine ⟨_,_,_,w2,hrun,?_⟩
 refine oC (by omega) (by omega) (by omega) (by omega) (by omega) ?_
 intro xa3 hxa3
 have e3:xa3=some ⟨g,0+(n - 1) * 1,none⟩:=by
  rcases hxa3 with e | ⟨e,_⟩
  ·simpa using e
  ·omega
 subst e3
 have hl3:(Int.toNat (n:Int)) - Int.toNat ((n - 1:Nat):Int)=1:=by omega
 rw [hl3]
 rcases hown2.2 with ⟨h0,_⟩ | ⟨g2,cur2,he2,hg2,hnc2,hcm2,hcs2,htake2⟩
 ·cases h0
 simp at he2
 subst he2
 have hwr:wrAt w2 ⟨g,0+(n - 1) * 1,none⟩ 0 [.pointer none]:=cK hg2 (by simp;omega) (by simp [single])
 refine ⟨_,_,yE (P:=prog) Tryz.underlying118 hti hz rfl hwr,rfl,?_,?_⟩
 ·have hb:=hg2.puts (o:=0+(n - 1) * 1) (i:=0) (vs:=[.pointer none])
  have hx:xs.take i++xs.drop (i+1)=xs.eraseIdx i:=(List.eraseIdx_eq_take_drop_succ ..).symm
  rw [hx] at hown2 htake2
  refine ⟨hown2.1,.inr ⟨g,_,rfl,hb,hnc2,hcm2,by rw [pi];exact hcs2,?_⟩⟩
  rw [jL (by simp;omega)]
  rw [←htake2]
  rw [List.append_assoc,List.take_append_of_le_length (by simp;omega),List.take_take,Nat.min_eq_left (by omega)]
 ·exact ((Keep.of_new hn1).trans hk2 λk _ e=>⟨0,by rw [e]⟩).trans (dD _ _ _ _ _) λk _ e=>⟨0,by rw [e]⟩
def rb (b n:Nat) (t:Tag):Prop:=t=.orph b∨t=.word n
theorem zW {α:Type} {l:List α} (h:l.Nodup) {i j:Nat} {x:α} (hi:l[i]?=some x) (hj:l[j]?=some x):i=j:=by
 obtain ⟨h1,h2⟩:=List.getElem?_eq_some_iff.1 hi
 obtain ⟨h3,h4⟩:=List.getElem?_eq_some_iff.1 hj
 have hp:=List.pairwise_iff_getElem.1 h
 rcases Nat.lt_trichotomy i j with hl | hl | hl
 ·exact absurd (h2.trans h4.symm) (hp i j h1 h3 hl)
 ·exact hl
 ·exact absurd (h4.trans h2.symm) (hp j i h3 h1 hl)
theorem pL {α β:Type} (f:α→β):∀ (l:List α) (i:Nat),(l.map f).eraseIdx i=(l.eraseIdx i).map f
 | [],_=>rfl
 | _::_,0=>rfl
 |x::l,i+1=>by simp [pL f l i]
theorem aZ.setOrphan {A:Nat→Prop} {χ χ':Nat→Tag} {w w':World} {fb:Nat} {X:FabX} (h:aZ A χ w fb X) {i n b:Nat} {p:cX} {y:nm} (ho:X.orphans[i]?=some (b,p)) (hy:X.nodes[n]?=some y)
  (hk:Keep (λk=>rb b n (χ k)) w w') (hg:∀ k,k<w.heap.size→χ' k≠.imm→χ k≠.imm) (hs:∀ k,k<w.heap.size→χ k≠.orph b→χ' k=χ k) (hlow:∀ k,χ' k≠.imm→k<w'.heap.size)
  {n':aP} (hn:bM w' y.b y.bw n') {p':cX} (hp:bS (iK A χ χ' w) w' b p') (ht:∀ k,p'.mut b k→χ' k=.orph b) :
  Next A (iK A χ χ' w) χ χ' w w'∧aZ (iK A χ χ' w) χ' w' fb { X with nodes:=X.nodes.set n { y with n:=n' },orphans:=X.orphans.set i (b,p') }:=by
 obtain ⟨m,nx⟩:=h.move (T:=rb b n) hk (by simp [rb]) hg (λk hlt hn _=>hs k hlt λe=>hn (.inl e))
 have f1:=Blk.moved m h.fab h.ftag (by simp [rb]) (by simp)
 have f2:=Owns.moved m h.nodes h.ntag (by simp [rb]) (by simp)
 have f3:=Owns.moved m h.orphs h.otag (by simp [rb]) (by simp)
 have f4:=Blk.moved m h.cls h.ctag (by simp [rb]) (by simp)
 have hya:=h.node n y hy
 have e1:(X.orphans.set i (b,p')).map Prod.fst=X.orphans.map Prod.fst:=by rw [List.map_set];exact iw (by simp [ho])
 refine ⟨nx,m.avoid',λk hc=>?_,?_,f1.2,?_,f2.2,?_,f4.1,f4.2,λq z hz=>(h.client q z hz).moved m (λt h1 h2=>?_),?_,f3.2,λx hx=>?_,?_⟩
 ·rcases hc with hc | hc
  ·exact hlow k hc
  ·exact Nat.lt_of_lt_of_le hc.1 hk.size
 ·simpa [FabX.cells] using f1.1
 ·have e:((X.nodes.set n { y with n:=n' }).map λx=>ptr x.b)=X.nodes.map λx=>ptr x.b:=by
   rw [List.map_set]
   exact iw (by simp [hy])
  rw [e]
  simpa using f2.1
 ·intro q z hz
  simp only [List.getElem?_set] at hz
  split at hz
  ·rename_i he
   subst he
   split at hz
   ·simp only [Option.some.injEq] at hz
    subst hz
    exact ⟨hn,by rw [hs _ hya.node.node.lt (by rw [hya.tag];simp)];exact hya.tag,by rw [hs _ hya.node.words.lt (by rw [hya.wtag];simp)];exact hya.wtag⟩
   ·cases hz
  ·rename_i he
   exact (h.node q z hz).moved m (by simp [rb]) (by simp [rb];exact λe=>he e.symm)
 ·rcases h2 with e | e<;>(rw [e] at h1;cases h1)
 ·have e:((X.orphans.set i (b,p')).map λp=>ptr p.1)=X.orphans.map λp=>ptr p.1:=by
   rw [List.map_set]
   exact iw (by simp [ho])
  rw [e]
  simpa using f3.1
 ·obtain ⟨k,hk⟩:=List.mem_iff_getElem?.1 hx
  simp only [List.getElem?_set] at hk
  split at hk
  ·rename_i he
   subst he
   split at hk
   ·simp only [Option.some.injEq] at hk
    subst hk
    exact ⟨hp,ht⟩
   ·cases hk
  ·rename_i he
   have hxo:=h.orphan x (List.mem_of_getElem? hk)
   refine bS.moved m hxo.1 hxo.2 ?_ (by simp)
   rintro (e | e)
   ·simp at e
    exact he (zW (x:=b) h.nodup (by simp [ho]) (by simp [hk,e]))
   ·cases e
 ·show ((X.orphans.set i (b,p')).map Prod.fst).Nodup
  rw [e1]
  exact h.nodup
theorem aZ.dropOrphan {A:Nat→Prop} {χ:Nat→Tag} {w w':World} {fb:Nat} {X:FabX} (h:aZ A χ w fb X) {i:Nat} (hi:i<X.orphans.length) (hk:Keep (λk=>χ k=.orphs∨χ k=.fab) w w')
  (ho:Owns w' TPP 1 X.oa (X.orphans.length - 1) X.oc ((X.orphans.map λp=>ptr p.1).eraseIdx i)) (hf:Blk w' fb (X.cells.set 3 (.slice X.oa (X.orphans.length - 1) X.oc)) TF) :
  ∃ A',Next A A' χ χ w w'∧aZ A' χ w' fb { X with orphans:=X.orphans.eraseIdx i }:=by
 obtain ⟨m,nx⟩:=h.move (T:=λt=>t=.orphs∨t=.fab) (χ':=χ) hk (by simp) (λ_ _ h=>h) (λ_ _ _ _=>rfl)
 have hl:(X.orphans.eraseIdx i).length=X.orphans.length - 1:=List.length_eraseIdx_of_lt hi
 refine ⟨_,nx,m.avoid',λk hc=>?_,?_,h.ftag,(Owns.moved m h.nodes h.ntag (by simp) (by simp)).1,h.ntag,λq z hz=>(h.node q z hz).moved m (by simp) (by simp),(Blk.moved m h.cls h.ctag (by simp) (by simp)).1,h.ctag,λq z hz=>(h.client q z hz).moved m (λt h1 h2=>?_),?_,h.otag,λx hx=>?_,?_⟩
 ·rcases hc with hc | hc
  ·exact Nat.lt_of_lt_of_le (h.lowt hc) hk.size
  ·exact Nat.lt_of_lt_of_le hc.1 hk.size
 ·simpa [FabX.cells,hl] using hf
 ·rcases h2 with e | e<;>(rw [e] at h1;cases h1)
 ·show Owns w' TPP 1 X.oa (X.orphans.eraseIdx i).length X.oc ((X.orphans.eraseIdx i).map λp=>ptr p.1)
  rw [hl,←pL]
  exact ho
 ·have hxo:=h.orphan x (List.mem_of_mem_eraseIdx hx)
  exact bS.moved m hxo.1 hxo.2 (by simp) (by simp)
 ·show ((X.orphans.eraseIdx i).map Prod.fst).Nodup
  rw [←pL]
  exact (List.eraseIdx_sublist ..).nodup h.nodup
theorem yF (l:List (Nat×cX)):∀ u ∈ l.map (λp=>ptr p.1),single u=true:=by
 intro u hu
 simp only [List.mem_map] at hu
 obtain ⟨p,_,rfl⟩:=hu
 rfl
theorem C4 {A:Nat→Prop} {χ:Nat→Tag} {w:World} {fb:Nat} {X:FabX} (h:aZ A χ w fb X) (c:Int) (hc:c<9223372036854775807):Does 69 [ptr fb,.int .i64 c] w λv w'=>
  v=.bool (X.pure.drop c).1∧dE A χ w fb (X.pure.drop c).2 w' λ_=>True:=by
 refine does Tryz.func69 ?_
 rw [ptr,kA]
 have hol:X.pure.orphans.length=X.orphans.length:=by simp [FabX.pure]
 refine aH (λh0=>?_) (λh0=>⟨_,_,_,h.fab.cell rfl,aH (λh1=>?_) (λh1=>?_)⟩)
 ·have hd:X.pure.drop c=(false,X.pure):=by unfold Fab.drop;rw [if_pos (.inl h0)]
  rw [hd]
  exact ⟨rfl,dE.same h (Keep.refl _ _) trivial⟩
 ·have hd:X.pure.drop c=(false,X.pure):=by unfold Fab.drop;rw [if_pos (.inr (by omega))]
  rw [hd]
  exact ⟨rfl,dE.same h (Keep.refl _ _) trivial⟩
 ·have hd:X.pure.drop c=(true,{ X.pure with orphans:=X.pure.orphans.eraseIdx c.toNat }):=by unfold Fab.drop;rw [if_neg (by omega)]
  rw [hd]
  obtain ⟨i,rfl⟩:∃ i:Nat,c=i:=⟨c.toNat,by omega⟩
  refine ⟨_,_,_,h.fab.cell rfl,?_⟩
  rw [show IntKind.i64.wrap ((i:Int)+1)=((i+1:Nat):Int) by rw [w64 (by omega) (by omega)];rfl]
  refine aF (BR h.orphs (by omega) (yF _)) ?_
  rintro v w1 ⟨rfl,ho1,hk1⟩
  have hk1':Keep (λk=>χ k=.orphs) w w1:=hk1.mono λk _ hb=>h.otag k hb
  have hf1:=hk1'.blk h.fab (by rw [h.ftag];simp)
  refine ⟨_,_,_,rfl,⟨_,hf1.cell (i:=3) rfl⟩,hf1.frozen,?_⟩
  intro w2 hw2
  have hk2:Keep (λk=>k=fb) w1 w2:=by rw [hw2];exact aR _ _ _ _
  have hf2:Blk w2 fb (X.cells.set 3 (.slice X.oa (X.orphans.length - 1) X.oc)) TF:=by rw [hw2];exact hf1.setCell _
  clear hw2
  obtain ⟨A',nx,hF⟩:=h.dropOrphan (i:=i) (by omega) ((hk1'.mono λk _ e=>.inl e).trans hk2 λk _ e=>.inr (by rw [e];exact h.ftag)) (ho1.keep hk2 λk hb e=>by have:=h.otag k hb;rw [e,h.ftag] at this;cases this) hf2
  refine ⟨rfl,_,_,_,nx,hF,?_,trivial⟩
  simp [FabX.pure,pL]
theorem dE.trans {A A1:Nat→Prop} {χ χ1:Nat→Tag} {w w1 w2:World} {fb:Nat} {F:Fab} {K:(Nat→Prop)→Prop} (n:Next A A1 χ χ1 w w1) (h:dE A1 χ1 w1 fb F w2 K):dE A χ w fb F w2 K:=by
 obtain ⟨A2,χ2,X2,n2,h2,hp,hK⟩:=h
 exact ⟨A2,χ2,X2,n.trans n2,h2,hp,hK⟩
theorem Dy {w:World} {e sz n cap:Nat} {a:Option Addr} {xs:List Value} (h:Owns w e sz a n cap xs):n≤9223372036854775807:=by
 rcases h.2 with ⟨_,h0,_⟩ | ⟨g,cur,_,_,h1,h2,_⟩
 ·omega
 ·have:cap≤9223372036854775807:=h2
  omega
theorem vt {α:Type} {l:List α} {i:Nat} {x y:α} (h:l[i]?=some x):(l.set i y)[i]?=some y:=by simp [aN h]
theorem vu {α:Type}:∀ (l:List α) (i:Nat) (x:α),(l.set i x).eraseIdx i=l.eraseIdx i
 | [],_,_=>rfl
 | _::_,0,_=>rfl
 |y::l,i+1,x=>by simp [vu l i x]
set_option maxHeartbeats 1600000 in
theorem vv {A:Nat→Prop} {χ:Nat→Tag} {w:World} {fb:Nat} {X:FabX} (h:aZ A χ w fb X) (hok:ue X.pure) (i:Nat):Does 76 [ptr fb,.int .i64 i] w λv w'=>
  v=.bool (X.pure.stepOrphan i).1∧dE A χ w fb (X.pure.stepOrphan i).2 w' λ_=>True:=by
 refine does Tryz.func76 ?_
 rw [ptr,kB]
 have hol:X.pure.orphans.length=X.orphans.length:=by simp [FabX.pure]
 refine ⟨_,_,_,h.fab.cell rfl,aH (λh1=>?_) (λh1=>?_)⟩
 ·have hd:X.pure.stepOrphan i=(false,X.pure):=by
   unfold Fab.stepOrphan
   rw [List.getElem?_eq_none (by omega)]
  rw [hd]
  exact ⟨rfl,dE.same h (Keep.refl _ _) trivial⟩
 have hil:i<X.orphans.length:=by omega
 obtain ⟨b,p,ho⟩:∃ b p,X.orphans[i]?=some (b,p):=⟨X.orphans[i].1,X.orphans[i].2,by simp [hil]⟩
 have hop:=h.orphan _ (List.mem_of_getElem? ho)
 obtain ⟨hn0,hn1,hrdy⟩:=hok.orphan p.pure (List.mem_of_getElem? (i:=i) (by simp [FabX.pure,ho]))
 obtain ⟨n,hn⟩:∃ n:Nat,p.node=n:=⟨p.node.toNat,by have:p.pure.node=p.node:=rfl;omega⟩
 have hnl:n<X.nodes.length:=by
  have e:p.pure.node=p.node:=rfl
  have e2:X.pure.nodes.length=X.nodes.length:=by simp [FabX.pure]
  omega
 obtain ⟨y,hy⟩:∃ y,X.nodes[n]?=some y:=⟨X.nodes[n],by simp [hnl]⟩
 have hya:=h.node n y hy
 refine ⟨_,_,_,h.fab.cell rfl,?_⟩
 refine qu (v:=ptr b) (i:=i) h.orphs (by simp [ho]) rfl λad hcell _=>⟨some ⟨b,0,none⟩,hcell,?_⟩
 intro w1 hw1
 have hnw1:New w w1:=by rw [hw1];exact aU _
 clear hw1
 have hF1:=h.new hnw1
 have hop1:=hF1.orphan _ (List.mem_of_getElem? ho)
 have hya1:=hF1.node n y hy
 refine ⟨λu=>Keep (λk=>rb b n (χ k)) w1 u,Keep.refl _ _,_,_,_,λu hu=>(hu.blk hF1.fab (by rw [hF1.ftag];simp [rb])).cell (i:=1) rfl,?_⟩
 refine aF (zJ hop1.1) ?_
 rintro r w2 ⟨rfl,rfl⟩
 refine ⟨_,rfl,Keep.refl _ _,?_⟩
 refine qu (v:=ptr y.b) (i:=n) hF1.nodes (by simp [hy]) hn λad1 hcell1 had1=>⟨some ⟨y.b,0,none⟩,λu hu=>eG hu hcell1 ?_,?_⟩
 ·obtain ⟨g,hg,rfl⟩:=had1
  rw [show χ _=_ from hF1.ntag g ⟨0,hg⟩]
  simp [rb]
 refine aF (zP hop1.1 hya1.node (hF1.avoid _ (by rw [hya1.wtag];simp)) (hF1.avoid _ (by rw [hya1.tag];simp)) (λhb=>by have:=hop1.2 _ (.inr (.inr hb));rw [hya1.wtag] at this;cases this) hrdy) ?_
 intro r w3 hS
 obtain ⟨χ',d,p',rfl,hp',hnode',hk3,hg3,hs3,hl3,ht3,hP3,hd3⟩:=vq hop1.1 hop1.2 (by simp) (λk hc=>hF1.lowt hc) hF1.avoid hya1.wtag hS
 obtain ⟨nx,hF3⟩:=hF1.setOrphan ho hy hk3 hg3 hs3 hl3 hnode' hP3 ht3
 refine ⟨_,_,_,_,_,rfl,?_⟩
 have ho3:(X.orphans.set i (b,p'))[i]?=some (b,p'):=vt ho
 refine aF (pH (hF3.orphan _ (List.mem_of_getElem? ho3)).1) ?_
 rintro r w4 ⟨rfl,rfl⟩
 have hst:X.pure.stepOrphan i=(true,{ X.pure with nodes:=X.pure.nodes.set n (p.pure.step y.n).2.1,orphans:=if (p.pure.step y.n).1.verbs.length=0 then X.pure.orphans.eraseIdx i else X.pure.orphans.set i (p.pure.step y.n).1 }):=by
  unfold Fab.stepOrphan
  have e1:X.pure.orphans[i]?=some p.pure:=by simp [FabX.pure,ho]
  have e2:p.pure.node.toNat=n:=by show p.node.toNat=n;omega
  have e3:X.pure.nodes[n]?=some y.n:=by simp [FabX.pure,hy]
  simp only [e1,e2,e3]
 rw [hst]
 have hv:p'.verbs=(p.pure.step y.n).1.verbs:=by rw [←hp'];rfl
 refine ⟨_,rfl,bK (λhz=>?_) (λhz=>?_)⟩
 ·have hz':(p.pure.step y.n).1.verbs.length=0:=by rw [←hv];have hz0:(p'.verbs.length:Int)=0:=hz;omega
  refine aF (C4 hF3 i (by have:=Dy h.orphs;omega)) ?_
  rintro v w5 ⟨rfl,hpost⟩
  refine ⟨_,rfl,rfl,?_⟩
  have hpost':=dE.trans ((h.refl hnw1).trans nx) hpost
  have e:(FabX.pure { X with nodes:=X.nodes.set n { y with n:=(p.pure.step y.n).2.1 },orphans:=X.orphans.set i (b,p') }).drop i=(true,{ X.pure with nodes:=X.pure.nodes.set n (p.pure.step y.n).2.1,orphans:=X.pure.orphans.eraseIdx i }):=by
   unfold Fab.drop
   rw [if_neg (by simp [FabX.pure];omega)]
   simp [FabX.pure,List.map_set,vu]
  rw [e] at hpost'
  rw [if_pos hz']
  exact hpost'
 ·have hz':¬ (p.pure.step y.n).1.verbs.length=0:=by rw [←hv];have hz0:¬ (p'.verbs.length:Int)=0:=hz;omega
  rw [if_neg hz']
  refine ⟨rfl,_,_,_,(h.refl hnw1).trans nx,hF3,?_,trivial⟩
  simp [FabX.pure,List.map_set,hp']
theorem FabX.setPair_pure {X:FabX} {n i j:Nat} {y:nm} {c:aW} {l:cJ} {n':aP} {p':cX} :
  (FabX.pure { X with nodes:=X.nodes.set n { y with n:=n' },clients:=X.clients.set i { c with lanes:=c.lanes.set j { l with p:=p' } } }) =
   {X.pure with nodes:=X.pure.nodes.set n n',clients:=X.pure.clients.set i { c.pure with lanes:=c.pure.lanes.set j ⟨p'.pure,l.places⟩ } }:=by
 simp [FabX.pure,List.map_set,aW.pure,cJ.pure]
end Go.Proofs.YtgpmeaicjonenaaGreat
namespace Go.Proofs.YtgpmeaicjonenaaGreat
open Go.Eng
abbrev TCh:TypeId:=102
def eI.cells (x:eI):List Value:=[.int .i64 x.orphan,.int .i64 x.client,.int .i64 x.node]
def eI.val (x:eI):Value:=.agg x.cells.toArray
theorem BS (C:Comp) (j:Nat) (l:Lane) (p:Pair) (od:Option Done) (hj:j<C.lanes.length) :
  ({ C with lanes:=C.lanes.set j ⟨p,l.places⟩ }:Comp).done1 j p l.places od=C.comes j l p od:=by
 cases od with
 |none=>rfl
 |some x=>simp [Comp.done1,Comp.comes]
theorem pM:∀ {l:List Nat} {x:Nat},x ∈ l→x≤l.sum
 |y::l,x,h=>by
  rw [List.sum_cons]
  rcases List.mem_cons.1 h with rfl | h
  ·omega
  ·have:=pM h;omega
theorem aZ.widen {A:Nat→Prop} {χ:Nat→Tag} {w w':World} {fb:Nat} {X:FabX} (h:aZ A χ w fb X) (hk:New w w'):aZ (λk=>A k∨(w.heap.size≤k∧k<w'.heap.size)) χ w' fb X:=by
 have m:qt (λ_=>False) A (λk=>A k∨(w.heap.size≤k∧k<w'.heap.size)) χ χ w w':=⟨hk,id,h.avoid,λk hlt hc=>hc.elim id (λhc=>by omega),λ_ _ _ _=>rfl,λk hc=>.inl (h.avoid k hc)⟩
 have hs:=hk.size
 refine ⟨m.avoid',λk hc=>hc.elim (λhc=>by have:=h.low k hc;omega) (λhc=>hc.2),New.blk hk h.fab,h.ftag,h.nodes.new hk,h.ntag,λi x hx=>(h.node i x hx).moved m id id,New.blk hk h.cls,h.ctag,
  λi c hc=>(h.client i c hc).moved m λ_ _=>id,h.orphs.new hk,h.otag,λp hp=>⟨(bS.moved m (h.orphan p hp).1 (h.orphan p hp).2 id (by simp)).1,(h.orphan p hp).2⟩,h.nodup⟩
set_option maxHeartbeats 3200000 in
theorem zX {A:Nat→Prop} {χ:Nat→Tag} {w:World} {fb:Nat} {X:FabX} (h:aZ A χ w fb X) (hok:ue X.pure) (x:eI):Does 42 [ptr fb,x.val] w λv w'=>
  v=.bool (X.pure.step x).1∧dE A χ w fb (X.pure.step x).2 w' λ_=>True:=by
 refine does Tryz.func42 ?_
 refine Eq.mpr (m8 fb x.orphan x.client x.node w _) ?_
 rintro b1 w1 hb1 hw1
 obtain ⟨hbx,hn1⟩:=aO hb1 hw1
 clear hw1
 have hF1:=h.new hn1
 have hbx:Blk w1 b1 x.cells TCh:=hbx
 refine ⟨_,hbx.cell (i:=0) rfl,aH (λh0=>?_) (λh0=>?_)⟩
 ·obtain ⟨i,hi⟩:∃ i:Nat,x.orphan=i:=⟨x.orphan.toNat,by omega⟩
  have hst:X.pure.step x=X.pure.stepOrphan i:=by
   unfold Fab.step
   rw [if_pos (by omega),hi]
   rfl
  refine ⟨_,hbx.cell (i:=0) rfl,?_⟩
  rw [hi]
  refine aF (vv hF1 hok i) ?_
  rintro v w2 ⟨rfl,hp⟩
  refine ⟨_,rfl,?_⟩
  rw [hst]
  exact ⟨rfl,dE.trans (h.refl hn1) hp⟩
 refine ⟨_,hbx.cell (i:=0) rfl,aH (λh1=>?_) (λh1=>?_)⟩
 ·have hst:X.pure.step x=(false,X.pure):=by unfold Fab.step;rw [if_neg (by omega),if_pos h1]
  rw [hst]
  exact ⟨rfl,dE.same h hn1 trivial⟩
 have hst0:X.pure.step x=match X.pure.cl x.client with
  |none=>(false,X.pure)
  |some C=>if x.node<0 then (false,X.pure) else match C.lanes[x.node.toNat]?,X.pure.nodes[x.node.toNat]? with
   |some l,some n=>if l.pair.verbs.length=0 then (false,X.pure) else
    (true,{ X.pure with nodes:=X.pure.nodes.set x.node.toNat (l.pair.step n).2.1,clients:=X.pure.clients.set x.client.toNat (C.comes x.node.toNat l (l.pair.step n).1 (l.pair.step n).2.2) })
   | _,_=>(false,X.pure):=by
  unfold Fab.step
  rw [if_neg (by omega),if_neg h1]
  rfl
 refine ⟨_,hbx.cell (i:=1) rfl,?_⟩
 rcases X.cl_cases x.client with ⟨c1,c2⟩ | ⟨i,c,c0,hc,c2⟩
 ·refine aF (kC hF1 c2) ?_
  rintro v w3 ⟨rfl,rfl⟩
  rw [c1] at hst0
  refine ⟨_,rfl,?_⟩
  intro w4 hw4
  refine ⟨λ_=>True,trivial,?_⟩
  rw [hst0]
  exact ⟨rfl,dE.same h (hn1.new (by rw [hw4];exact aU _)) trivial⟩
 have hxl:=aN hc
 rw [c0]
 refine aF (jd hF1 hc) ?_
 rintro v w3 ⟨rfl,rfl⟩
 rw [c2] at hst0
 refine ⟨_,rfl,?_⟩
 intro w4 hw4
 have hn4:New w3 w4:=by rw [hw4];exact aU _
 clear hw4
 have hF4:=hF1.new hn4
 have hb4:=New.blk hn4 hbx
 refine ⟨λu=>New w4 u,Keep.refl _ _,?_⟩
 refine ⟨_,λu hu=>(New.blk hu hb4).cell (i:=2) rfl,aH (λh2=>?_) (λh2=>?_)⟩
 ·simp only [if_pos h2] at hst0
  rw [hst0]
  exact ⟨rfl,dE.same h (hn1.new hn4) trivial⟩
 simp only [if_neg h2] at hst0
 obtain ⟨j,hj⟩:∃ j:Nat,x.node=j:=⟨x.node.toNat,by omega⟩
 have hjn:x.node.toNat=j:=by omega
 rw [hjn] at hst0
 have hco:=hok.client i c.pure (by simp [FabX.pure,hc])
 refine ⟨_,λu hu=>(New.blk hu hb4).cell (i:=2) rfl,?_⟩
 refine ⟨_,_,_,λu hu=>(hF4.new hu).ccell (k:=2) hc rfl,aH (λh3=>?_) (λh3=>?_)⟩
 ·have e:c.pure.lanes[j]?=none:=List.getElem?_eq_none (by
   have:c.pure.lanes.length=c.lanes.length:=by simp [aW.pure]
   have h3':x.node≥(c.lanes.length:Int):=h3
   omega)
  simp only [e] at hst0
  rw [hst0]
  exact ⟨rfl,dE.same h (hn1.new hn4) trivial⟩
 have h3':¬ x.node≥(c.lanes.length:Int):=h3
 have hjl:j<c.lanes.length:=by omega
 obtain ⟨l,hl⟩:∃ l,c.lanes[j]?=some l:=⟨c.lanes[j],by simp [hjl]⟩
 have hjn2:j<X.nodes.length:=by
  have h5:=hco.lanes
  have e1:c.pure.lanes.length=c.lanes.length:=by simp [aW.pure]
  have e2:X.pure.nodes.length=X.nodes.length:=by simp [FabX.pure]
  split at h5<;>omega
 obtain ⟨y,hy⟩:∃ y,X.nodes[j]?=some y:=⟨X.nodes[j],by simp [hjn2]⟩
 have elp:c.pure.lanes[j]?=some l.pure:=by simp [aW.pure,hl]
 have eyp:X.pure.nodes[j]?=some y.n:=by simp [FabX.pure,hy]
 simp only [elp,eyp] at hst0
 have hlo:=hco.lane j l.pure elp
 refine ⟨_,_,_,λu hu=>(hF4.new hu).ccell (k:=2) hc rfl,_,λu hu=>(New.blk hu hb4).cell (i:=2) rfl,?_⟩
 obtain ⟨g,hga,hgi,⟨gcs,hgb⟩,hgc,hgk⟩:=Owns.row (hF4.client i c hc).own (gH c.lanes) (by omega) (fQ hl)
 have hgt:χ g=.lanes i:=(hF4.client i c hc).tag g ⟨0,hga⟩
 show idxS c.la c.lanes.length x.node 2 _
 rw [hga,hj]
 refine bE (by omega) (by omega) ?_
 rw [Int.toNat_natCast]
 refine ⟨some ⟨l.pb,0,none⟩,λu hu=>eG hu (hgk 0 _ rfl) id,?_⟩
 refine aF (pH ((hF4.client i c hc).lane j l hl).pair) ?_
 rintro v w5 ⟨rfl,rfl⟩
 refine ⟨_,rfl,Keep.refl _ _,bK (λh6=>?_) (λh6=>?_)⟩
 ·have:l.pure.pair.verbs.length=0:=by show l.p.verbs.length=0;omega
  rw [if_pos this] at hst0
  rw [hst0]
  exact ⟨rfl,dE.same h (hn1.new hn4) trivial⟩
 have hpos:¬ l.pure.pair.verbs.length=0:=by show ¬ l.p.verbs.length=0;omega
 rw [if_neg hpos] at hst0
 intro w6 hw6
 have hn6:New w5 w6:=by rw [hw6];exact aU _
 clear hw6
 have hF6:=hF4.new hn6
 have hb6:=New.blk hn6 hb4
 refine ⟨λu=>New w6 u,Keep.refl _ _,_,_,_,λu hu=>(hF6.new hu).ccell (k:=2) hc rfl,_,λu hu=>(New.blk hu hb6).cell (i:=2) rfl,?_⟩
 show idxS c.la c.lanes.length x.node 2 _
 rw [hga,hj]
 refine bE (by omega) (by omega) ?_
 rw [Int.toNat_natCast]
 intro w7 hw7
 have hn7:New w6 w7:=by rw [hw7];exact aU _
 clear hw7
 have hF7:=hF6.new hn7
 have hb7:=New.blk hn7 hb6
 have hn57:New w5 w7:=hn6.new hn7
 have hn07:New w w7:=(hn1.new hn4).new hn57
 have hb1i:χ b1=.imm:=h.fresh (by omega)
 have hcx7:=hF7.client i c hc
 have hlx7:=hcx7.lane j l hl
 have hya7:=hF7.node j y hy
 refine ⟨λu=>Keep (λk=>lp i j j (χ k)) w7 u,Keep.refl _ _,some ⟨l.pb,0,none⟩,λu hu=>eG hu (eG hn57 (hgk 0 _ rfl) id) (by show ¬ lp i j j (χ g);rw [hgt];simp [lp]),?_⟩
 refine ⟨_,_,_,λu hu=>(hu.blk hF7.fab (by rw [hF7.ftag];simp [lp])).cell (i:=1) rfl,_,λu hu=>(hu.blk hb7 (by rw [hb1i];simp [lp])).cell (i:=2) rfl,?_⟩
 refine qu (v:=ptr y.b) (i:=j) hF7.nodes (by simp [hy]) hj λad2 hcell2 had2=>⟨some ⟨y.b,0,none⟩,λu hu=>eG hu hcell2 ?_,?_⟩
 ·obtain ⟨g2,hg2,rfl⟩:=had2
  show ¬ lp i j j (χ g2)
  rw [hF7.ntag g2 ⟨0,hg2⟩]
  simp [lp]
 have hwait:c.waiting≤1024:=by
  have h8:=hco.batch
  have e:c.pure.waiting=c.waiting:=rfl
  omega
 have hplen:l.places.length=l.p.verbs.length:=hlo.places
 have hpl:∀ od:Option Done,od.isSome=true→∃ bb p0 ps,l.places=p0::ps∧p0<c.raw.length∧c.bb=some bb∧0<c.waiting:=by
  intro od _
  cases hps:l.places with
  |nil=>rw [hps] at hplen;exact absurd hplen.symm (by show ¬ l.p.verbs.length=0;omega)
  |cons p0 ps=>
   have hlow:=hlo.low p0 (by show p0 ∈ l.places;rw [hps];simp)
   have hcx:=h.client i c hc
   cases hbb:c.bb with
   |none=>simp [aW.pure,hbb] at hlow
   |some bb=>
    simp [aW.pure,hbb] at hlow
    refine ⟨bb,p0,ps,rfl,by rw [hcx.ds.1];exact hlow,rfl,?_⟩
    have h8:=hco.waiting
    have e:c.pure.waiting=c.waiting:=rfl
    have h9:l.p.verbs.length≤pend c.pure.lanes:=by
     unfold pend
     exact pM (List.mem_map.2 ⟨l.pure,List.mem_of_getElem? elp,rfl⟩)
    have h10:l.p.verbs.length≠0:=hpos
    omega
 have hstep:∀ (A0:Nat→Prop) w7' r w8 (hnn:aZ A0 χ w7' fb X),rm A0 l.pb y.b y.bw l.p y.n w7' r w8→∃ A1 χ1 d p',r=.tuple #[d.val,.bool (l.p.pure.step y.n).2.2.isSome]∧Next A0 A1 χ χ1 w7' w8∧
   aZ A1 χ1 w8 fb { X with nodes:=X.nodes.set j { y with n:=(l.p.pure.step y.n).2.1 },clients:=X.clients.set i { c with lanes:=c.lanes.set j { l with p:=p' } } }∧p'.pure=(l.p.pure.step y.n).1∧
   Keep (λk=>lp i j j (χ k)) w7' w8∧(∀ x,(l.p.pure.step y.n).2.2=some x→j9 A1 w8 d x):=by
  intro A0 w7' r w8 hF7' hS
  have hlx:=(hF7'.client i c hc).lane j l hl
  have hya:=hF7'.node j y hy
  obtain ⟨χ',d,p',rfl,hp',hnode',hk3,hg3,hs3,hl3,ht3,hP3,hd3⟩:=vq hlx.pair hlx.tag (by simp) (λk hc=>hF7'.lowt hc) hF7'.avoid hya.wtag hS
  obtain ⟨nx,hF3⟩:=hF7'.setPair hc hl hy hk3 hg3 hs3 hl3 hnode' hP3 ht3
  exact ⟨_,_,d,p',rfl,nx,hF3,hp',hk3,hd3⟩
 have hcall:∀ (A0:Nat→Prop) w7',aZ A0 χ w7' fb X→Does 77 [.pointer (some ⟨l.pb,0,none⟩),.pointer (some ⟨y.b,0,none⟩)] w7' (rm A0 l.pb y.b y.bw l.p y.n w7'):=by
  intro A0 w7' hF7'
  have hlx:=(hF7'.client i c hc).lane j l hl
  have hya:=hF7'.node j y hy
  exact zP hlx.pair hya.node (hF7'.avoid _ (by rw [hya.wtag];simp)) (hF7'.avoid _ (by rw [hya.tag];simp)) (λhb=>by have:=hlx.tag _ (.inr (.inr hb));rw [hya.wtag] at this;cases this) hlo.rdy
 have hfin:∀ w10 b2 A1 χ1 d p' w7',New w7 w7'→Next A A1 χ χ1 w7' w10→aZ A1 χ1 w10 fb { X with nodes:=X.nodes.set j { y with n:=(l.p.pure.step y.n).2.1 },clients:=X.clients.set i { c with lanes:=c.lanes.set j { l with p:=p' } } }→p'.pure=(l.p.pure.step y.n).1→
   Blk w10 b2 (aY.cells d) TD→(∀ x,(l.p.pure.step y.n).2.2=some x→j9 A1 w10 d x)→∀ w' A' χ' X',Next A1 A' χ1 χ' w10 w'→aZ A' χ' w' fb X'→
   X'.pure=(FabX.pure { X with nodes:=X.nodes.set j { y with n:=(l.p.pure.step y.n).2.1 },clients:=X.clients.set i { c with lanes:=c.lanes.set j { l with p:=p' } } }).setC i ((aW.pure { c with lanes:=c.lanes.set j { l with p:=p' } }).done1 j p'.pure l.places (l.p.pure.step y.n).2.2)→
   (Value.bool true=.bool (X.pure.step x).1∧dE A χ w fb (X.pure.step x).2 w' λ_=>True):=by
  intro w10 b2 A1 χ1 d p' w7' hnn nx hF hp' hbox hd w' A' χ' X' nx' hF' hX'
  rw [hst0]
  refine ⟨rfl,A',χ',X',((h.refl (hn07.new hnn)).trans nx).trans nx',hF',?_,trivial⟩
  rw [hX',FabX.setPair_pure,c0]
  have e1:(aW.pure { c with lanes:=c.lanes.set j { l with p:=p' } })={ c.pure with lanes:=c.pure.lanes.set j ⟨p'.pure,l.pure.places⟩ }:=by simp [aW.pure,List.map_set,cJ.pure]
  have e2:l.places=l.pure.places:=rfl
  rw [e1,e2,BS _ _ _ _ _ (by simpa [aW.pure] using hjl),hp']
  simp [Fab.setC]
  exact ⟨rfl,rfl⟩
 have hclq:∀ p':cX,(X.clients.set i { c with lanes:=c.lanes.set j { l with p:=p' } })[i]?=some { c with lanes:=c.lanes.set j { l with p:=p' } }:=λp'=>by simp [hxl]
 have hlq:∀ p':cX,(c.lanes.set j { l with p:=p' })[j]?=some { l with p:=p' }:=λp'=>by simp [hjl]
 refine ⟨?_,?_⟩
 ·refine aF (hcall A w7 hF7) ?_
  intro r w8 hS
  obtain ⟨A1,χ1,d,p',rfl,nx,hF8,hp',hk8,hd8⟩:=hstep A w7 r w8 hF7 hS
  refine ⟨_,_,_,_,_,rfl,hk8,?_⟩
  rintro b2 w9 hb2 hw9
  obtain ⟨hz9,hn9⟩:=aO hb2 hw9
  refine ⟨hk8.new hn9,cK (vs:=d.cells) hz9 (by simp [aY.cells]) (aY.single d),?_⟩
  intro w10 hw10
  obtain ⟨hz10,hn10⟩:=mb (vs:=d.cells) hz9 (by simp [aY.cells]) hn9 (by omega) hw10
  clear hw9 hw10
  have hF10:=hF8.new hn10
  have hd10:∀ x,(l.p.pure.step y.n).2.2=some x→j9 A1 w10 d x:=λx hx=>(hd8 x hx).keep (Keep.of_new hn10) λ_ _ h=>h
  exact vr (R:=λv w'=>v=.bool (X.pure.step x).1∧dE A χ w fb (X.pure.step x).2 w' λ_=>True) hF10 (hclq p') (hlq p') hga hz10 (l.p.pure.step y.n).2.2 hd10 (hpl _) (by show l.places.length≤1024;rw [hplen];exact hlx7.pair.len) hwait
   (hfin w10 b2 A1 χ1 d p' w7 (Keep.refl _ _) (nx.new hn10) hF10 hp' hz10 hd10)
 ·rintro b3 w16 hb3 hw16
  obtain ⟨hz16,hn16⟩:=aO hb3 hw16
  clear hw16
  refine ⟨Keep.of_new hn16,?_⟩
  refine aF (hcall _ w16 (hF7.widen hn16)) ?_
  intro r w17 hS
  obtain ⟨A1,χ1,d,p',rfl,nx,hF17,hp',hk17,hd17⟩:=hstep _ w16 r w17 (hF7.widen hn16) hS
  have hb3i:χ b3=.imm:=hF7.fresh (by omega)
  have hz17:=hk17.blk hz16 (by rw [hb3i];simp [lp])
  refine ⟨_,_,_,_,_,rfl,(Keep.of_new hn16).trans hk17 (λk _ h=>h),cK (vs:=d.cells) hz17 (by simp [aY.cells]) (aY.single d),?_⟩
  intro w18 hw18
  have hz18:Blk w18 b3 d.cells TD:=by
   have hw:w18=puts w17 ⟨b3,0,none⟩ 0 d.cells:=hw18
   rw [hw]
   have:=hz17.puts (o:=0) (i:=0) (vs:=d.cells)
   rw [gZ (by simp [aY.cells])] at this
   exact this
  have hk18:Keep (λk=>k=b3) w17 w18:=by rw [hw18];exact dD _ _ _ _ _
  clear hw18
  have hb3l:b3<w16.heap.size:=hz16.lt
  have hs16:=hn16.size
  have hA3:A1 b3:=(nx.iff b3).2 (.inr ⟨hb3l,.inr ⟨by omega,hb3l⟩,hb3i⟩)
  have hχ3:χ1 b3=.imm:=by
   by_cases hc:χ1 b3=.imm
   ·exact hc
   ·exact absurd hb3i (nx.grow b3 hb3l hc)
  have hF18:=hF17.other hk18 (λk hk=>by rw [hk];exact ⟨hA3,hχ3⟩)
  have hsub:∀ k,iK A χ χ1 w7 k→A1 k:=by
   intro k hk
   refine (nx.iff k).2 ?_
   rcases hk with hk | hk
   ·exact .inl hk
   ·exact .inr ⟨by omega,.inl hk.2.1,hk.2.2⟩
  have hF18':=hF18.recolor hsub (λk hc=>.inl hc)
  have hnx:Next A (iK A χ χ1 w7) χ χ1 w7 w18:=by
   refine ⟨((Keep.of_new hn16).trans nx.keep λ_ _ h=>h).trans hk18 λk hlt e=>by omega,λk hlt hc=>nx.grow k (by omega) hc,λ_=>Iff.rfl⟩
  have hd18:∀ x,(l.p.pure.step y.n).2.2=some x→j9 (iK A χ χ1 w7) w18 d x:=λx hx=>(hd17 x hx).keep (hk18.mono λk _ e=>by rw [e];exact hA3) λk _ hc=>hsub k hc
  exact vr (R:=λv w'=>v=.bool (X.pure.step x).1∧dE A χ w fb (X.pure.step x).2 w' λ_=>True) hF18' (hclq p') (hlq p') hga hz18 (l.p.pure.step y.n).2.2 hd18 (hpl _) (by show l.places.length≤1024;rw [hplen];exact hlx7.pair.len) hwait
   (hfin w18 b3 _ χ1 d p' w7 (Keep.refl _ _) hnx hF18' hp' hz18 hd18)
end Go.Proofs.YtgpmeaicjonenaaGreat
