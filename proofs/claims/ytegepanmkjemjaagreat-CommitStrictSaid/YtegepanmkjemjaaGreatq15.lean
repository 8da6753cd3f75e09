import Derived.Test.YtegepanmkjemjaaGreatq14
set_option linter.unusedVariables false
namespace Go.Proofs.YtegepanmkjemjaaGreat
open Go.Proofs.Tryz
open Go.Eng
theorem Owns.append_room {P:Program} {w:World} {t ty e:TypeId} {i:TypeInfo} (ht:P.underlying t=some (.slice e)) (hi:P.info? e=some i) (hsz:0<i.size)
  {g n cap:Nat} {xs:List Value} (ho:Owns w e i.size (some ⟨g,0,none⟩) n cap xs) {s:Addr} {m c:Nat} {news:List Value} (hl:news.length=m * i.size) (hs:Rd w (some s) news) (h1:∀ u ∈ news,single u=true) (hroom:n+m≤cap) :
  ∃ w',(Builtin.append_ #[t,t] ty #[.slice (some ⟨g,0,none⟩) n cap,.slice (some s) m c]).run P w=.ok (.slice (some ⟨g,0,none⟩) (n+m) cap) w'∧Owns w' e i.size (some ⟨g,0,none⟩) (n+m) cap (xs++news)∧Keep (λk=>k=g) w w':=by
 have hlen:(xs++news).length=(n+m) * i.size:=by rw [List.length_append,ho.1,hl,Nat.add_mul]
 by_cases hm:m=0
 ·subst hm
  have hn:news=[]:=List.eq_nil_of_length_eq_zero (by simpa using hl)
  subst hn
  refine ⟨w,?_,by simpa using ho,Keep.refl _ _⟩
  have hle:=ho.le
  simp [Builtin.append_,run_underlying ht,sizeOf,typeInfo,hi,Builtin.lenOf,hle,Builtin.firstCells,loadCells,loadCellsFrom,storeCells]
 ·have hne:news≠[]:=by
   intro hc
   have h0:m * i.size=0:=by rw [←hl,hc];rfl
   rcases Nat.mul_eq_zero.1 h0 with h | h<;>omega
  rcases hs with hc | ⟨sb,so,he,hcell⟩
  ·exact absurd hc hne
  simp at he
  subst he
  have hnews:∀ j u,news[j]?=some u→w.cell? ((⟨sb,so,none⟩:Addr).add j)=some u:=λj u hu=>by rw [lX];exact hcell j u hu
  have h1':∀ u ∈ news,u.oneCell'=true:=λu hu=>n9 (h1 u hu)
  rcases ho.2 with ⟨h0,_⟩ | ⟨g',cur,he,hg,hnc,hcm,hcs,htake⟩
  ·cases h0
  simp at he
  subst he
  have hfit:n * i.size+news.length≤cur.toArray.size:=by
   rw [hl,List.size_toArray,hcs,←Nat.add_mul];exact Nat.mul_le_mul_right _ hroom
  have hr:=run_append_room (P:=P) w t ty e i ht hi g n cap cur.toArray hg ⟨sb,so,none⟩ m c news hl hnews h1' hroom hfit
  refine ⟨_,hr,⟨hlen,.inr ⟨g,_,rfl,setRow_heap w g cur.toArray _ e _ hg,hroom,hcm,?_,?_⟩⟩,⟨rfl,rfl,rfl,by simp,λk _ hk=>setRow_other w g k _ (λe=>hk e)⟩⟩
  ·simp only [List.length_append,List.length_take,List.length_drop] at *
   simp at hfit
   omega
  ·rw [htake,←hlen]
   exact List.take_left
theorem wk {P:Program} {w:World} {t ty e:TypeId} {i:TypeInfo} {z:Value} (ht:P.underlying t=some (.slice e)) (hi:P.info? e=some i) (hz:i.zero=some z) (hzc:z.cells=#[z]) {b o c:Nat} (hw:wrAt w ⟨b,o,none⟩ 0 [z]) :
  (Builtin.clear_ #[t] ty #[.slice (some ⟨b,o,none⟩) 1 c]).run P w=.ok (.tuple #[]) (puts w ⟨b,o,none⟩ 0 [z]):=by
 have hst:=fM (P:=P) hw
 have hzz:(Builtin.zeroCells z.cells 1).toList=[z]:=by rw [hzc];simp [Builtin.zeroCells]
 simp [Builtin.clear_,run_underlying ht,zeroValue,typeInfo,hi,hz,hzz,hst]
theorem Owns.take_n {w:World} {e n cap:Nat} {a:Option Addr} {xs:List Value} (h:Owns w e 1 a n cap xs) (ha:a≠none) {m:Nat} (hm:m≤n):Owns w e 1 a m cap (xs.take m):=by
 rcases h.2 with ⟨h0,_⟩ | ⟨g,cur,he,hg,hnc,hcm,hcs,htake⟩
 ·exact absurd h0 ha
 ·refine ⟨by have:=h.1;simp;omega,.inr ⟨g,cur,he,hg,by omega,hcm,hcs,?_⟩⟩
  rw [←htake,List.take_take,Nat.min_eq_left (by omega),Nat.mul_one]
theorem zi {w:World} {a:Option Addr} {n cap i:Nat} {xs:List Value} (h:Owns w TPP 1 a n cap xs) (hi:i<n) (h1:∀ u ∈ xs,single u=true) :
  Does 73 [.slice a n cap,.int .i64 i,.int .i64 (i+1:Nat)] w λv w'=>v=.slice a (n - 1) cap∧Owns w' TPP 1 a (n - 1) cap (xs.eraseIdx i)∧Keep (isB a) w w':=by
 refine does Tryz.func73 ?_
 rw [dZ]
 have hxl:=h.1
 rcases h.2 with ⟨_,h0,_⟩ | ⟨g,cur,rfl,hg,hnc,hcm,hcs,htake⟩
 ·omega
 have hcm':cap≤9223372036854775807:=hcm
 refine nr (by omega) (by omega) (by omega) (by omega) hnc ?_
 intro xa _
 refine bI (λhe=>by omega) (λ_=>?_)
 intro w1 hw1
 have hn1:New w w1:=by rw [hw1];exact aT _
 clear hw1
 refine nr (by omega) (by omega) (by omega) (by omega) hnc ?_
 intro xa1 hxa1
 refine nr (by omega) (by omega) (by omega) (by omega) hnc ?_
 intro xa2 hxa2
 have e1:xa1=some ⟨g,0,none⟩:=by rcases hxa1 with e | ⟨_,e⟩<;>simpa using e
 subst e1
 simp only [Int.toNat_natCast,Int.toNat_zero,Nat.sub_zero]
 obtain ⟨s2,rfl⟩:∃ s,xa2=some s:=by rcases hxa2 with e | ⟨_,e⟩<;>exact ⟨_,e⟩
 obtain ⟨ti,hti,hz,hsz,hby⟩:=iR (T:=137) (z:=.pointer none) (n:=1) (m:=8) (by kernel_rfl)
 have ho1:Owns w1 TPP ti.size (some ⟨g,0,none⟩) i cap (xs.take i):=by rw [hsz];exact Owns.take_n (h.new hn1) (by simp) (by omega)
 have hs2:Rd w1 (some s2) (xs.drop (i+1)):=by
  by_cases hd:xs.drop (i+1)=[]
  ·rw [hd];exact .inl rfl
  ·rcases hxa2 with e | ⟨e,_⟩
   ·rw [e]
    have:=(h.new hn1).rd.drop (i+1)
    simpa using this
   ·exfalso
    apply hd
    apply List.drop_eq_nil_of_le
    omega
 obtain ⟨w2,hrun,hown2,hk2⟩:=Owns.append_room (P:=prog) (t:=111) (ty:=111) Tryz.underlying111 hti (by omega) ho1 (s:=s2) (m:=n - (i+1)) (c:=cap - (i+1)) (news:=xs.drop (i+1)) (by rw [hsz];simp;omega) hs2
  (λu hu=>h1 u (List.mem_of_mem_drop hu)) (by omega)
 rw [hsz] at hown2
 have hin:i+(n - (i+1))=n - 1:=by omega
 rw [hin] at hrun hown2
 refine ⟨_,_,_,w2,hrun,?_⟩
 refine nr (by omega) (by omega) (by omega) (by omega) (by omega) ?_
 intro xa3 hxa3
 have e3:xa3=some ⟨g,0+(n - 1) * 1,none⟩:=by
  rcases hxa3 with e | ⟨e,_⟩
  ·simpa using e
  ·omega
 subst e3
 have hl3:(Int.toNat (n:Int)) - Int.toNat ((n - 1:Nat):Int)=1:=by omega
 rw [hl3]
 rcases hown2.2 with ⟨h0,_⟩ | ⟨g2,cur2,he2,hg2,hnc2,hcm2,hcs2,htake2⟩
 ·cases h0
 simp at he2
 subst he2
 have hwr:wrAt w2 ⟨g,0+(n - 1) * 1,none⟩ 0 [.pointer none]:=cB hg2 (by simp;omega) (by simp [single])
 refine ⟨_,_,wk (P:=prog) Tryz.underlying111 hti hz rfl hwr,rfl,?_,?_⟩
 ·have hb:=hg2.puts (o:=0+(n - 1) * 1) (i:=0) (vs:=[.pointer none])
  have hx:xs.take i++xs.drop (i+1)=xs.eraseIdx i:=(List.eraseIdx_eq_take_drop_succ ..).symm
  rw [hx] at hown2 htake2
  refine ⟨hown2.1,.inr ⟨g,_,rfl,hb,hnc2,hcm2,by rw [n8];exact hcs2,?_⟩⟩
  rw [iK (by simp;omega)]
  rw [←htake2]
  rw [List.append_assoc,List.take_append_of_le_length (by simp;omega),List.take_take,Nat.min_eq_left (by omega)]
 ·exact ((Keep.of_new hn1).trans hk2 λk _ e=>⟨0,by rw [e]⟩).trans (dB _ _ _ _ _) λk _ e=>⟨0,by rw [e]⟩
def qe (b n:Nat) (t:Tag):Prop:=t=.orph b∨t=.word n
theorem xP {α:Type} {l:List α} (h:l.Nodup) {i j:Nat} {x:α} (hi:l[i]?=some x) (hj:l[j]?=some x):i=j:=by
 obtain ⟨h1,h2⟩:=List.getElem?_eq_some_iff.1 hi
 obtain ⟨h3,h4⟩:=List.getElem?_eq_some_iff.1 hj
 have hp:=List.pairwise_iff_getElem.1 h
 rcases Nat.lt_trichotomy i j with hl | hl | hl
 ·exact absurd (h2.trans h4.symm) (hp i j h1 h3 hl)
 ·exact hl
 ·exact absurd (h4.trans h2.symm) (hp j i h3 h1 hl)
theorem oI {α β:Type} (f:α→β):∀ (l:List α) (i:Nat),(l.map f).eraseIdx i=(l.eraseIdx i).map f
 | [],_=>rfl
 | _::_,0=>rfl
 |x::l,i+1=>by simp [oI f l i]
theorem aW.setOrphan {A:Nat→Prop} {χ χ':Nat→Tag} {w w':World} {fb:Nat} {X:FabX} (h:aW A χ w fb X) {i n b:Nat} {p:cI} {y:iX} (ho:X.orphans[i]?=some (b,p)) (hy:X.nodes[n]?=some y)
  (hk:Keep (λk=>qe b n (χ k)) w w') (hg:∀ k,k<w.heap.size→χ' k≠.imm→χ k≠.imm) (hs:∀ k,k<w.heap.size→χ k≠.orph b→χ' k=χ k) (hlow:∀ k,χ' k≠.imm→k<w'.heap.size)
  {n':aP} (hn:bL w' y.b y.bw n') {p':cI} (hp:bO (gY A χ χ' w) w' b p') (ht:∀ k,p'.mut b k→χ' k=.orph b) :
  Next A (gY A χ χ' w) χ χ' w w'∧aW (gY A χ χ' w) χ' w' fb { X with nodes:=X.nodes.set n { y with n:=n' },orphans:=X.orphans.set i (b,p') }:=by
 obtain ⟨m,nx⟩:=h.move (T:=qe b n) hk (by simp [qe]) hg (λk hlt hn _=>hs k hlt λe=>hn (.inl e))
 have f1:=Blk.moved m h.fab h.ftag (by simp [qe]) (by simp)
 have f2:=Owns.moved m h.nodes h.ntag (by simp [qe]) (by simp)
 have f3:=Owns.moved m h.orphs h.otag (by simp [qe]) (by simp)
 have f4:=Blk.moved m h.cls h.ctag (by simp [qe]) (by simp)
 have hya:=h.node n y hy
 have e1:(X.orphans.set i (b,p')).map Prod.fst=X.orphans.map Prod.fst:=by rw [List.map_set];exact gL (by simp [ho])
 refine ⟨nx,m.avoid',λk hc=>?_,?_,f1.2,?_,f2.2,?_,f4.1,f4.2,λq z hz=>(h.client q z hz).moved m (λt h1 h2=>?_),?_,f3.2,λx hx=>?_,?_⟩
 ·rcases hc with hc | hc
  ·exact hlow k hc
  ·exact Nat.lt_of_lt_of_le hc.1 hk.size
 ·simpa [FabX.cells] using f1.1
 ·have e:((X.nodes.set n { y with n:=n' }).map λx=>ptr x.b)=X.nodes.map λx=>ptr x.b:=by
   rw [List.map_set]
   exact gL (by simp [hy])
  rw [e]
  simpa using f2.1
 ·intro q z hz
  simp only [List.getElem?_set] at hz
  split at hz
  ·rename_i he
   subst he
   split at hz
   ·simp only [Option.some.injEq] at hz
    subst hz
    exact ⟨hn,by rw [hs _ hya.node.node.lt (by rw [hya.tag];simp)];exact hya.tag,by rw [hs _ hya.node.words.lt (by rw [hya.wtag];simp)];exact hya.wtag⟩
   ·cases hz
  ·rename_i he
   exact (h.node q z hz).moved m (by simp [qe]) (by simp [qe];exact λe=>he e.symm)
 ·rcases h2 with e | e<;>(rw [e] at h1;cases h1)
 ·have e:((X.orphans.set i (b,p')).map λp=>ptr p.1)=X.orphans.map λp=>ptr p.1:=by
   rw [List.map_set]
   exact gL (by simp [ho])
  rw [e]
  simpa using f3.1
 ·obtain ⟨k,hk⟩:=List.mem_iff_getElem?.1 hx
  simp only [List.getElem?_set] at hk
  split at hk
  ·rename_i he
   subst he
   split at hk
   ·simp only [Option.some.injEq] at hk
    subst hk
    exact ⟨hp,ht⟩
   ·cases hk
  ·rename_i he
   have hxo:=h.orphan x (List.mem_of_getElem? hk)
   refine bO.moved m hxo.1 hxo.2 ?_ (by simp)
   rintro (e | e)
   ·simp at e
    exact he (xP (x:=b) h.nodup (by simp [ho]) (by simp [hk,e]))
   ·cases e
 ·show ((X.orphans.set i (b,p')).map Prod.fst).Nodup
  rw [e1]
  exact h.nodup
theorem aW.dropOrphan {A:Nat→Prop} {χ:Nat→Tag} {w w':World} {fb:Nat} {X:FabX} (h:aW A χ w fb X) {i:Nat} (hi:i<X.orphans.length) (hk:Keep (λk=>χ k=.orphs∨χ k=.fab) w w')
  (ho:Owns w' TPP 1 X.oa (X.orphans.length - 1) X.oc ((X.orphans.map λp=>ptr p.1).eraseIdx i)) (hf:Blk w' fb (X.cells.set 3 (.slice X.oa (X.orphans.length - 1) X.oc)) TF) :
  ∃ A',Next A A' χ χ w w'∧aW A' χ w' fb { X with orphans:=X.orphans.eraseIdx i }:=by
 obtain ⟨m,nx⟩:=h.move (T:=λt=>t=.orphs∨t=.fab) (χ':=χ) hk (by simp) (λ_ _ h=>h) (λ_ _ _ _=>rfl)
 have hl:(X.orphans.eraseIdx i).length=X.orphans.length - 1:=List.length_eraseIdx_of_lt hi
 refine ⟨_,nx,m.avoid',λk hc=>?_,?_,h.ftag,(Owns.moved m h.nodes h.ntag (by simp) (by simp)).1,h.ntag,λq z hz=>(h.node q z hz).moved m (by simp) (by simp),(Blk.moved m h.cls h.ctag (by simp) (by simp)).1,h.ctag,λq z hz=>(h.client q z hz).moved m (λt h1 h2=>?_),?_,h.otag,λx hx=>?_,?_⟩
 ·rcases hc with hc | hc
  ·exact Nat.lt_of_lt_of_le (h.lowt hc) hk.size
  ·exact Nat.lt_of_lt_of_le hc.1 hk.size
 ·simpa [FabX.cells,hl] using hf
 ·rcases h2 with e | e<;>(rw [e] at h1;cases h1)
 ·show Owns w' TPP 1 X.oa (X.orphans.eraseIdx i).length X.oc ((X.orphans.eraseIdx i).map λp=>ptr p.1)
  rw [hl,←oI]
  exact ho
 ·have hxo:=h.orphan x (List.mem_of_mem_eraseIdx hx)
  exact bO.moved m hxo.1 hxo.2 (by simp) (by simp)
 ·show ((X.orphans.eraseIdx i).map Prod.fst).Nodup
  rw [←oI]
  exact (List.eraseIdx_sublist ..).nodup h.nodup
theorem wm (l:List (Nat×cI)):∀ u ∈ l.map (λp=>ptr p.1),single u=true:=by
 intro u hu
 simp only [List.mem_map] at hu
 obtain ⟨p,_,rfl⟩:=hu
 rfl
theorem AH {A:Nat→Prop} {χ:Nat→Tag} {w:World} {fb:Nat} {X:FabX} (h:aW A χ w fb X) (c:Int) (hc:c<9223372036854775807):Does 57 [ptr fb,.int .i64 c] w λv w'=>
  v=.bool (X.pure.drop c).1∧cR A χ w fb (X.pure.drop c).2 w' λ_=>True:=by
 refine does Tryz.func57 ?_
 rw [ptr,jP]
 have hol:X.pure.orphans.length=X.orphans.length:=by simp [FabX.pure]
 refine aH (λh0=>?_) (λh0=>⟨_,_,_,h.fab.cell rfl,aH (λh1=>?_) (λh1=>?_)⟩)
 ·have hd:X.pure.drop c=(false,X.pure):=by unfold Fab.drop;rw [if_pos (.inl h0)]
  rw [hd]
  exact ⟨rfl,cR.same h (Keep.refl _ _) trivial⟩
 ·have hd:X.pure.drop c=(false,X.pure):=by unfold Fab.drop;rw [if_pos (.inr (by omega))]
  rw [hd]
  exact ⟨rfl,cR.same h (Keep.refl _ _) trivial⟩
 ·have hd:X.pure.drop c=(true,{ X.pure with orphans:=X.pure.orphans.eraseIdx c.toNat }):=by unfold Fab.drop;rw [if_neg (by omega)]
  rw [hd]
  obtain ⟨i,rfl⟩:∃ i:Nat,c=i:=⟨c.toNat,by omega⟩
  refine ⟨_,_,_,h.fab.cell rfl,?_⟩
  rw [show IntKind.i64.wrap ((i:Int)+1)=((i+1:Nat):Int) by rw [w64 (by omega) (by omega)];rfl]
  refine aE (zi h.orphs (by omega) (wm _)) ?_
  rintro v w1 ⟨rfl,ho1,hk1⟩
  have hk1':Keep (λk=>χ k=.orphs) w w1:=hk1.mono λk _ hb=>h.otag k hb
  have hf1:=hk1'.blk h.fab (by rw [h.ftag];simp)
  refine ⟨_,_,_,rfl,⟨_,hf1.cell (i:=3) rfl⟩,hf1.frozen,?_⟩
  intro w2 hw2
  have hk2:Keep (λk=>k=fb) w1 w2:=by rw [hw2];exact aO _ _ _ _
  have hf2:Blk w2 fb (X.cells.set 3 (.slice X.oa (X.orphans.length - 1) X.oc)) TF:=by rw [hw2];exact hf1.setCell _
  clear hw2
  obtain ⟨A',nx,hF⟩:=h.dropOrphan (i:=i) (by omega) ((hk1'.mono λk _ e=>.inl e).trans hk2 λk _ e=>.inr (by rw [e];exact h.ftag)) (ho1.keep hk2 λk hb e=>by have:=h.otag k hb;rw [e,h.ftag] at this;cases this) hf2
  refine ⟨rfl,_,_,_,nx,hF,?_,trivial⟩
  simp [FabX.pure,oI]
theorem cR.trans {A A1:Nat→Prop} {χ χ1:Nat→Tag} {w w1 w2:World} {fb:Nat} {F:Fab} {K:(Nat→Prop)→Prop} (n:Next A A1 χ χ1 w w1) (h:cR A1 χ1 w1 fb F w2 K):cR A χ w fb F w2 K:=by
 obtain ⟨A2,χ2,X2,n2,h2,hp,hK⟩:=h
 exact ⟨A2,χ2,X2,n.trans n2,h2,hp,hK⟩
theorem Bb {w:World} {e sz n cap:Nat} {a:Option Addr} {xs:List Value} (h:Owns w e sz a n cap xs):n≤9223372036854775807:=by
 rcases h.2 with ⟨_,h0,_⟩ | ⟨g,cur,_,_,h1,h2,_⟩
 ·omega
 ·have:cap≤9223372036854775807:=h2
  omega
theorem tm {α:Type} {l:List α} {i:Nat} {x y:α} (h:l[i]?=some x):(l.set i y)[i]?=some y:=by simp [aV h]
theorem tn {α:Type}:∀ (l:List α) (i:Nat) (x:α),(l.set i x).eraseIdx i=l.eraseIdx i
 | [],_,_=>rfl
 | _::_,0,_=>rfl
 |y::l,i+1,x=>by simp [tn l i x]
set_option maxHeartbeats 1600000 in
theorem tp {A:Nat→Prop} {χ:Nat→Tag} {w:World} {fb:Nat} {X:FabX} (h:aW A χ w fb X) (hok:ss X.pure) (i:Nat):Does 81 [ptr fb,.int .i64 i] w λv w'=>
  v=.bool (X.pure.stepOrphan i).1∧cR A χ w fb (X.pure.stepOrphan i).2 w' λ_=>True:=by
 refine does Tryz.func81 ?_
 rw [ptr,jQ]
 have hol:X.pure.orphans.length=X.orphans.length:=by simp [FabX.pure]
 refine ⟨_,_,_,h.fab.cell rfl,aH (λh1=>?_) (λh1=>?_)⟩
 ·have hd:X.pure.stepOrphan i=(false,X.pure):=by
   unfold Fab.stepOrphan
   rw [List.getElem?_eq_none (by omega)]
  rw [hd]
  exact ⟨rfl,cR.same h (Keep.refl _ _) trivial⟩
 have hil:i<X.orphans.length:=by omega
 obtain ⟨b,p,ho⟩:∃ b p,X.orphans[i]?=some (b,p):=⟨X.orphans[i].1,X.orphans[i].2,by simp [hil]⟩
 have hop:=h.orphan _ (List.mem_of_getElem? ho)
 obtain ⟨hn0,hn1,hrdy⟩:=hok.orphan p.pure (List.mem_of_getElem? (i:=i) (by simp [FabX.pure,ho]))
 obtain ⟨n,hn⟩:∃ n:Nat,p.node=n:=⟨p.node.toNat,by have:p.pure.node=p.node:=rfl;omega⟩
 have hnl:n<X.nodes.length:=by
  have e:p.pure.node=p.node:=rfl
  have e2:X.pure.nodes.length=X.nodes.length:=by simp [FabX.pure]
  omega
 obtain ⟨y,hy⟩:∃ y,X.nodes[n]?=some y:=⟨X.nodes[n],by simp [hnl]⟩
 have hya:=h.node n y hy
 refine ⟨_,_,_,h.fab.cell rfl,?_⟩
 refine px (v:=ptr b) (i:=i) h.orphs (by simp [ho]) rfl λad hcell _=>⟨some ⟨b,0,none⟩,hcell,?_⟩
 intro w1 hw1
 have hnw1:New w w1:=by rw [hw1];exact aT _
 clear hw1
 have hF1:=h.new hnw1
 have hop1:=hF1.orphan _ (List.mem_of_getElem? ho)
 have hya1:=hF1.node n y hy
 refine ⟨λu=>Keep (λk=>qe b n (χ k)) w1 u,Keep.refl _ _,_,_,_,λu hu=>(hu.blk hF1.fab (by rw [hF1.ftag];simp [qe])).cell (i:=1) rfl,?_⟩
 refine aE (xB hop1.1) ?_
 rintro r w2 ⟨rfl,rfl⟩
 refine ⟨_,rfl,Keep.refl _ _,?_⟩
 refine px (v:=ptr y.b) (i:=n) hF1.nodes (by simp [hy]) hn λad1 hcell1 had1=>⟨some ⟨y.b,0,none⟩,λu hu=>ef hu hcell1 ?_,?_⟩
 ·obtain ⟨g,hg,rfl⟩:=had1
  rw [show χ _=_ from hF1.ntag g ⟨0,hg⟩]
  simp [qe]
 refine aE (xH hop1.1 hya1.node (hF1.avoid _ (by rw [hya1.wtag];simp)) (hF1.avoid _ (by rw [hya1.tag];simp)) (λhb=>by have:=hop1.2 _ (.inr (.inr hb));rw [hya1.wtag] at this;cases this) hrdy) ?_
 intro r w3 hS
 obtain ⟨χ',d,p',rfl,hp',hnode',hk3,hg3,hs3,hl3,ht3,hP3,hd3⟩:=tj hop1.1 hop1.2 (by simp) (λk hc=>hF1.lowt hc) hF1.avoid hya1.wtag hS
 obtain ⟨nx,hF3⟩:=hF1.setOrphan ho hy hk3 hg3 hs3 hl3 hnode' hP3 ht3
 refine ⟨_,_,_,_,_,rfl,?_⟩
 have ho3:(X.orphans.set i (b,p'))[i]?=some (b,p'):=tm ho
 refine aE (oD (hF3.orphan _ (List.mem_of_getElem? ho3)).1) ?_
 rintro r w4 ⟨rfl,rfl⟩
 have hst:X.pure.stepOrphan i=(true,{ X.pure with nodes:=X.pure.nodes.set n (p.pure.step y.n).2.1,orphans:=if (p.pure.step y.n).1.verbs.length=0 then X.pure.orphans.eraseIdx i else X.pure.orphans.set i (p.pure.step y.n).1 }):=by
  unfold Fab.stepOrphan
  have e1:X.pure.orphans[i]?=some p.pure:=by simp [FabX.pure,ho]
  have e2:p.pure.node.toNat=n:=by show p.node.toNat=n;omega
  have e3:X.pure.nodes[n]?=some y.n:=by simp [FabX.pure,hy]
  simp only [e1,e2,e3]
 rw [hst]
 have hv:p'.verbs=(p.pure.step y.n).1.verbs:=by rw [←hp'];rfl
 refine ⟨_,rfl,bI (λhz=>?_) (λhz=>?_)⟩
 ·have hz':(p.pure.step y.n).1.verbs.length=0:=by rw [←hv];have hz0:(p'.verbs.length:Int)=0:=hz;omega
  refine aE (AH hF3 i (by have:=Bb h.orphs;omega)) ?_
  rintro v w5 ⟨rfl,hpost⟩
  refine ⟨_,rfl,rfl,?_⟩
  have hpost':=cR.trans ((h.refl hnw1).trans nx) hpost
  have e:(FabX.pure { X with nodes:=X.nodes.set n { y with n:=(p.pure.step y.n).2.1 },orphans:=X.orphans.set i (b,p') }).drop i=(true,{ X.pure with nodes:=X.pure.nodes.set n (p.pure.step y.n).2.1,orphans:=X.pure.orphans.eraseIdx i }):=by
   unfold Fab.drop
   rw [if_neg (by simp [FabX.pure];omega)]
   simp [FabX.pure,List.map_set,tn]
  rw [e] at hpost'
  rw [if_pos hz']
  exact hpost'
 ·have hz':¬ (p.pure.step y.n).1.verbs.length=0:=by rw [←hv];have hz0:¬ (p'.verbs.length:Int)=0:=hz;omega
  rw [if_neg hz']
  refine ⟨rfl,_,_,_,(h.refl hnw1).trans nx,hF3,?_,trivial⟩
  simp [FabX.pure,List.map_set,hp']
theorem FabX.setPair_pure {X:FabX} {n i j:Nat} {y:iX} {c:aX} {l:bX} {n':aP} {p':cI} :
  (FabX.pure { X with nodes:=X.nodes.set n { y with n:=n' },clients:=X.clients.set i { c with lanes:=c.lanes.set j { l with p:=p' } } }) =
   {X.pure with nodes:=X.pure.nodes.set n n',clients:=X.pure.clients.set i { c.pure with lanes:=c.pure.lanes.set j ⟨p'.pure,l.places⟩ } }:=by
 simp [FabX.pure,List.map_set,aX.pure,bX.pure]
end Go.Proofs.YtegepanmkjemjaaGreat
