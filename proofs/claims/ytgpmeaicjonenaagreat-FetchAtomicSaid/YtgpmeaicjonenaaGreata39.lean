import Derived.Test.YtgpmeaicjonenaaGreata38
set_option linter.unusedVariables false
namespace Go.Proofs.YtgpmeaicjonenaaGreat.C16
open Go.Eng
abbrev TR:=aB
abbrev TTa:TypeId:=88
abbrev TST:TypeId:=81
structure fL (A:Nat→Prop) (w:World) (r:TR) (t:Tk conv):Prop where
 kind:r.Kind=KIND t.job
 client:r.Client=t.client
 over:r.Over=t.over
 bad:r.Bad=t.bad
 got:lr A w r.Got t.got
 gl:r.Got_l=t.got.length
 gc:r.Got_l≤r.Got_c
 job:JAt A w r t.job
 out:OAt A w r t.out
 len:t.got.length≤201
theorem fL.keep {A A':Nat→Prop} {w w':World} {r:TR} {t:Tk conv} (h:fL A w r t) (hk:Keep A w w') (hM:∀ k,k<w.heap.size→A' k→A k):fL A' w' r t:=
 ⟨h.kind,h.client,h.over,h.bad,h.got.keep hk hM,h.gl,h.gc,h.job.keep hk hM,h.out.keep hk hM,h.len⟩
theorem fL.fail {A:Nat→Prop} {w:World} {r:TR} {t:Tk conv} (h:fL A w r t):fL A w { r with Over:=true,Bad:=true } t.fail:=
 ⟨h.kind,h.client,rfl,rfl,h.got,h.gl,h.gc,h.job,h.out,h.len⟩
theorem tM {z:World} {b1 b2:Nat} {r:TR} {cs:List Value} {R:Value→World→Prop} (hb1:Blk z b1 r.cells TTa) (hb2:Blk z b2 cs TTa) (hc:cs.length=46) (hR:∀ w',Keep (λk=>k=b2) z w'→R r.val w') :
  aB.ex λx=>aC z ⟨b1,0,none⟩ 0 x.cells∧wrAt z ⟨b2,0,none⟩ 0 x.cells∧∀ w',w'=puts z ⟨b2,0,none⟩ 0 x.cells→aB.ex λy=>aC w' ⟨b2,0,none⟩ 0 y.cells∧w'=w'∧R y.val w':=by
 refine aB.mk_ex r ⟨aI hb1 rfl,?_⟩
 refine il (vs:=r.cells) hb2 (by rw [hc];rfl) (aB.single r) λw' hb' hk'=>?_
 exact aB.mk_ex r ⟨aI hb' rfl,rfl,hR w' hk'⟩
def ze (A:Nat→Prop) (χ:Nat→Tag) (w:World) (fb:Nat) (x:Fab×Tk conv) (v:Value) (w':World):Prop:=
 dE A χ w fb x.1 w' λB=>∃ r:TR,v=r.val∧fL B w' r x.2
theorem CI {A:Nat→Prop} {χ:Nat→Tag} {w z w':World} {fb b1 b2:Nat} {B:Nat→Prop} {ξ:Nat→Tag} {X:FabX} {r:TR} {t:Tk conv} (h:TW A χ w fb (λk=>k=b1∨k=b2) z B ξ X) (ht:fL (λk=>B k∨k=b1∨k=b2) z r t) (hk:Keep (λk=>k=b2) z w') :
  ze A χ w fb (X.pure,t) r.val w':=
 (h.local hk λ_ e=>.inr e).done ⟨r,rfl,ht.keep (hk.mono λ_ _ e=>.inr (.inr e)) λk _ hb=>.inl hb⟩
def nL (ts:List (TR×Tk conv)):List (List Value):=ts.map λx=>x.1.cells
theorem l7 (ts:List (TR×Tk conv)):∀ r ∈ nL ts,r.length=46:=by
 intro r hr
 simp only [nL,List.mem_map] at hr
 obtain ⟨x,_,rfl⟩:=hr
 rfl
theorem sF {ts:List (TR×Tk conv)} {i:Nat} {x:TR×Tk conv} (h:ts[i]?=some x):(nL ts)[i]?=some x.1.cells:=by simp [nL,h]
theorem wu (ts:List (TR×Tk conv)):∀ u ∈ (nL ts).flatten,single u=true:=by
 intro u hu
 obtain ⟨r,hr,hur⟩:=List.mem_flatten.1 hu
 simp only [nL,List.mem_map] at hr
 obtain ⟨x,_,rfl⟩:=hr
 exact aB.single _ u hur
end Go.Proofs.YtgpmeaicjonenaaGreat.C16
namespace Go.Proofs.YtgpmeaicjonenaaGreat.C16
open Go.Eng
set_option maxRecDepth 20000 in
set_option maxHeartbeats 4000000 in
theorem Fr {A:Nat→Prop} {z:World} {r:TR} {t:Tk conv} (h:fL A z r t) (hlow:∀ k,A k→k<z.heap.size) :
  Does 95 [r.val] z λv z1=>New z z1∧∃ (aa:Option Addr) (ac:Nat) (raws:List aJ) (r':TR),v=.tuple #[.slice aa raws.length ac,r'.val]∧Rd z1 aa (eC raws).flatten∧(∀ k,isB aa k→z.heap.size≤k)∧Vs (λk=>k<z.heap.size) z1 raws (conv.next t.job t.got).1∧fL A z1 r' t.told:=by
 refine does Tryz.func95 ?_
 rw [o3]
 rintro b1 u1 hb1 hu1
 obtain ⟨hz1,hn1⟩:=aO hb1 hu1
 have hz1:Blk u1 b1 r.cells TTa:=hz1
 clear hu1
 rintro b2 u2 hb2 hu2
 obtain ⟨hz2,hn2⟩:=aO hb2 hu2
 obtain ⟨cs2,hz2,hcs2⟩:∃ cs,Blk u2 b2 cs TTa∧cs.length=r.cells.length:=⟨_,hz2,rfl⟩
 clear hu2
 have hn12:=hn1.new hn2
 have hs1:=hn1.size
 have hs2:=hn2.size
 have hl1:=hz1.lt
 have hl2:=hz2.lt
 have hz12:=New.blk hn2 hz1
 cases hjb:t.job with
 |inl cj=>
  have hk:r.Kind=3:=by rw [h.kind,hjb];rfl
  have hjj:C12.JAtC A z r.Commit cj:=by have:=h.job;rw [hjb] at this;exact this
  have htold:t.told={ t with over:=(bZ cj t.got).2.2,out:=.inl (bZ cj t.got).2.1 }:=by
   unfold Tk.told
   rw [hjb]
   rfl
  have hnx:conv.next (.inl cj) t.got=((bZ cj t.got).1,.inl (bZ cj t.got).2.1,(bZ cj t.got).2.2):=rfl
  refine ⟨_,hz12.cell (i:=0) rfl,er (by rw [hk];rfl) (er (by rw [hk];rfl) (gE (by rw [hk];rfl) ?_))⟩
  refine aL.mk_ex r.Commit ⟨aI hz12 rfl,_,_,_,hz12.cell (i:=31) rfl,?_⟩
  have hk12:Keep A z u2:=Keep.of_new hn12
  have hj:C12.JAtC A u2 r.Commit cj:=hjj.keep (A':=A) hk12 λ_ _ e=>e
  have hg:=h.got.keep (A':=A) hk12 λ_ _ e=>e
  have hcall:=D6 hj.at_ (λ_=>hj.dat) hg h.gl h.gc
  refine aF hcall ?_
  rintro v u3 ⟨aa,ac,raws,rfl,hn3,hrd,hfr,hvs⟩
  refine ⟨_,_,_,aA.mk_ex ⟨(bZ cj t.got).2.1.1,(bZ cj t.got).2.1.2⟩ ⟨(bZ cj t.got).2.2,rfl,?_⟩⟩
  refine gF (vs:=aA.cells ⟨(bZ cj t.got).2.1.1,(bZ cj t.got).2.1.2⟩) rfl (aA.single _) λb3 u4 hb3 hz4 hn4=>?_
  rintro u5 hu5
  have hn5:New u4 u5:=by rw [hu5];exact aU _
  clear hu5
  have hs3:=hn3.size
  have hs4:=hn4.size
  have hs5:=hn5.size
  have hz45:=New.blk hn5 hz4
  have hn25:=(hn3.new hn4).new hn5
  have hz15:=New.blk hn25 hz12
  have hz25:=New.blk hn25 hz2
  refine ⟨λy=>Blk y b3 (aA.cells ⟨(bZ cj t.got).2.1.1,(bZ cj t.got).2.1.2⟩) TCO,hz45,_,λy hy=>hy.cell (i:=0) rfl,_,λy hy=>hy.cell (i:=1) rfl,?_⟩
  refine pS hz15 (i:=32) rfl λu6 hz6 hk6=>⟨hk6.blk hz45 (by omega),?_⟩
  refine pS hz6 (i:=34) rfl λu7 hz7 hk7=>⟨hk7.blk (hk6.blk hz45 (by omega)) (by omega),?_⟩
  refine pS hz7 (i:=40) rfl λu8 hz8 hk8=>?_
  rintro u9 hu9
  have hn9:New u8 u9:=by rw [hu9];exact aU _
  clear hu9
  have hk58:Keep (λk=>k=b1) u5 u8:=(hk6.trans hk7 λ_ _ e=>e).trans hk8 λ_ _ e=>e
  have hz8:Blk u8 b1 (aB.cells { r with Over:=(bZ cj t.got).2.2,Code:=(bZ cj t.got).2.1.1,Fate:=(bZ cj t.got).2.1.2 }) TTa:=hz8
  have hz9:=New.blk hn9 hz8
  have hz29:Blk u9 b2 cs2 TTa:=New.blk hn9 (hk58.blk hz25 (by omega))
  have hk59:Keep (λk=>k=b1) u5 u9:=hk58.new hn9
  refine ⟨λy=>New u9 y,Keep.refl _ _,aB.mk_ex { r with Over:=(bZ cj t.got).2.2,Code:=(bZ cj t.got).2.1.1,Fate:=(bZ cj t.got).2.1.2 } ⟨λy hy=>aI (New.blk hy hz9) rfl,?_⟩⟩
  refine il hz29 (by rw [hcs2];rfl) (aB.single _) λuA hzA hkA=>?_
  refine aB.mk_ex { r with Over:=(bZ cj t.got).2.2,Code:=(bZ cj t.got).2.1.1,Fate:=(bZ cj t.got).2.1.2 } ⟨aI hzA rfl,rfl,?_⟩
  have hk5A:Keep (λk=>k=b1∨k=b2) u5 uA:=(hk59.mono λk _ e=>.inl e).trans (hkA.mono λk _ e=>.inr e) λ_ _ e=>e
  have hnA:New z uA:=(hn12.new hn25).trans hk5A λk hlt e=>by omega
  have hk3A:Keep (λk=>k=b1∨k=b2) u3 uA:=(Keep.of_new (hn4.new hn5)).trans hk5A λ_ _ e=>e
  refine ⟨hnA,aa,ac,raws,_,rfl,hrd.keep hk3A (lD hrd λk hk e=>by have:=hfr k hk;omega),λk hk=>by have:=hfr k hk;omega,?_,?_⟩
  ·rw [hnx];exact hvs.keep (hk3A.mono λk _ e=>by show k<u2.heap.size;omega) λk _ e=>by show k<u2.heap.size;omega
  ·have hT:=h.keep (A':=A) (Keep.of_new hnA) λ_ _ e=>e
   rw [htold]
   exact ⟨hT.kind,hT.client,rfl,hT.bad,hT.got,hT.gl,hT.gc,hT.job,⟨rfl,rfl⟩,hT.len⟩
 |inr fj=>
  have hk:r.Kind=9:=by rw [h.kind,hjb];rfl
  have hjj:JAtF A z r.Fetch fj:=by have:=h.job;rw [hjb] at this;exact this
  have htold:t.told={ t with over:=(eV fj t.got).2.2,out:=.inr (eV fj t.got).2.1 }:=by
   unfold Tk.told
   rw [hjb]
   rfl
  have hnx:conv.next (.inr fj) t.got=((eV fj t.got).1,.inr (eV fj t.got).2.1,(eV fj t.got).2.2):=rfl
  refine ⟨_,hz12.cell (i:=0) rfl,er (by rw [hk];rfl) (er (by rw [hk];rfl) (er (by rw [hk];rfl) (er (by rw [hk];rfl) (er (by rw [hk];rfl) (gE (by rw [hk];rfl) ?_)))))⟩
  refine bN.mk_ex r.Fetch ⟨aI hz12 rfl,_,_,_,hz12.cell (i:=31) rfl,?_⟩
  have hk12:Keep A z u2:=Keep.of_new hn12
  have hj:JAtF A u2 r.Fetch fj:=hjj.keep (A':=A) hk12 λ_ _ e=>e
  have hg:=h.got.keep (A':=A) hk12 λ_ _ e=>e
  have hcall:=Eo hj.at_ hg h.gl h.gc
  refine aF hcall ?_
  rintro v u3 ⟨aa,ac,raws,o,rfl,hn3,hrd,hfr,hvs,hfo,hfp⟩
  refine ⟨_,_,_,aQ.mk_ex o ⟨(eV fj t.got).2.2,rfl,?_⟩⟩
  refine gF (vs:=o.cells) rfl (aQ.single _) λb3 u4 hb3 hz4 hn4=>?_
  rintro u5 hu5
  have hn5:New u4 u5:=by rw [hu5];exact aU _
  clear hu5
  have hs3:=hn3.size
  have hs4:=hn4.size
  have hs5:=hn5.size
  have hz4:Blk u4 b3 o.cells TFO:=hz4
  have hz45:=New.blk hn5 hz4
  have hn25:=(hn3.new hn4).new hn5
  have hz15:=New.blk hn25 hz12
  have hz25:=New.blk hn25 hz2
  refine ⟨λy=>Blk y b3 o.cells TFO,hz45,_,λy hy=>hy.cell (i:=0) rfl,_,_,_,λy hy=>hy.cell (i:=1) rfl,?_⟩
  refine pS hz15 (i:=32) rfl λu6 hz6 hk6=>⟨hk6.blk hz45 (by omega),?_⟩
  refine pS hz6 (i:=34) rfl λu7 hz7 hk7=>⟨hk7.blk (hk6.blk hz45 (by omega)) (by omega),?_⟩
  refine pS hz7 (i:=45) rfl λu8 hz8 hk8=>?_
  rintro u9 hu9
  have hn9:New u8 u9:=by rw [hu9];exact aU _
  clear hu9
  have hk58:Keep (λk=>k=b1) u5 u8:=(hk6.trans hk7 λ_ _ e=>e).trans hk8 λ_ _ e=>e
  have hz8:Blk u8 b1 (aB.cells { r with Over:=(eV fj t.got).2.2,Code:=o.Code,Pages:=o.Pages,Pages_l:=o.Pages_l,Pages_c:=o.Pages_c }) TTa:=hz8
  have hz9:=New.blk hn9 hz8
  have hz29:Blk u9 b2 cs2 TTa:=New.blk hn9 (hk58.blk hz25 (by omega))
  have hk59:Keep (λk=>k=b1) u5 u9:=hk58.new hn9
  refine ⟨λy=>New u9 y,Keep.refl _ _,aB.mk_ex { r with Over:=(eV fj t.got).2.2,Code:=o.Code,Pages:=o.Pages,Pages_l:=o.Pages_l,Pages_c:=o.Pages_c } ⟨λy hy=>aI (New.blk hy hz9) rfl,?_⟩⟩
  refine il hz29 (by rw [hcs2];rfl) (aB.single _) λuA hzA hkA=>?_
  refine aB.mk_ex { r with Over:=(eV fj t.got).2.2,Code:=o.Code,Pages:=o.Pages,Pages_l:=o.Pages_l,Pages_c:=o.Pages_c } ⟨aI hzA rfl,rfl,?_⟩
  have hk5A:Keep (λk=>k=b1∨k=b2) u5 uA:=(hk59.mono λk _ e=>.inl e).trans (hkA.mono λk _ e=>.inr e) λ_ _ e=>e
  have hnA:New z uA:=(hn12.new hn25).trans hk5A λk hlt e=>by omega
  have hk3A:Keep (λk=>k=b1∨k=b2) u3 uA:=(Keep.of_new (hn4.new hn5)).trans hk5A λ_ _ e=>e
  have hs12:=hn12.size
  refine ⟨hnA,aa,ac,raws,_,rfl,hrd.keep hk3A (lD hrd λk hk e=>by have:=hfr k hk;omega),λk hk=>by have:=hfr k hk;omega,?_,?_⟩
  ·rw [hnx];exact hvs.keep (hk3A.mono λk _ e=>by show k<u2.heap.size;omega) λk _ e=>by show k<u2.heap.size;omega
  ·have hT:=h.keep (A':=A) (Keep.of_new hnA) λ_ _ e=>e
   rw [htold]
   refine ⟨hT.kind,hT.client,rfl,hT.bad,hT.got,hT.gl,hT.gc,hT.job,⟨hfo.code,hfo.len,hfo.rd.keep hk3A (lD hfo.rd λk hk e=>by have:=hfp k hk;omega),lD hfo.rd λk hk e=>?_,hfo.u64⟩,hT.len⟩
   have:=hfp k hk
   have:=hlow k e
   omega
end Go.Proofs.YtgpmeaicjonenaaGreat.C16
namespace Go.Proofs.YtgpmeaicjonenaaGreat.C16
open Go.Proofs.Tryz
open Go.Eng
def yd (p0 b1 b2:Nat) (z:World) (R:Value→World→Prop):Prop:=
 ∃ (g:Option Addr) (gl gc:Nat),z.cell? ⟨b1,31,none⟩=some (.slice g gl gc)∧(bif (decide ((gl:Int)>200)) then
  ((∃ u,z.cell? ⟨b1,32,none⟩=some u)∧z.frozen? ⟨b1,32,none⟩=false∧∀ z1,z1=z.setCell ⟨b1,32,none⟩ (.bool true)→(∃ u,z1.cell? ⟨b1,33,none⟩=some u)∧z1.frozen? ⟨b1,33,none⟩=false∧∀ z2,z2=z1.setCell ⟨b1,33,none⟩ (.bool true)→
   aB.ex λx=>aC z2 ⟨b1,0,none⟩ 0 x.cells∧wrAt z2 ⟨b2,0,none⟩ 0 x.cells∧∀ w',w'=puts z2 ⟨b2,0,none⟩ 0 x.cells→aB.ex λy=>aC w' ⟨b2,0,none⟩ 0 y.cells∧w'=w'∧R y.val w')
  else (aB.ex λr=>aC z ⟨b1,0,none⟩ 0 r.cells∧Calls prog 95 #[r.val] z λe z3=>∃ (a:Option Addr) (al ac:Nat),aB.ex λr'=>e=.returned (.tuple #[.slice a al ac,r'.val])∧wrAt z3 ⟨b1,0,none⟩ 0 r'.cells∧∀ z4,z4=puts z3 ⟨b1,0,none⟩ 0 r'.cells→
   ∃ ov:Bool,z4.cell? ⟨b1,32,none⟩=some (.bool ov)∧(bif (!ov) then (∃ cl:Int,z4.cell? ⟨b1,1,none⟩=some (.int .i64 cl)∧Calls prog 73 #[.pointer (some ⟨p0,0,none⟩),.int .i64 cl,.slice a al ac] z4 λe z5=>∃ ec:Int,e=.returned (.int .i64 ec)∧(bif (ec != 0) then
     ((∃ u,z5.cell? ⟨b1,32,none⟩=some u)∧z5.frozen? ⟨b1,32,none⟩=false∧∀ z6,z6=z5.setCell ⟨b1,32,none⟩ (.bool true)→(∃ u,z6.cell? ⟨b1,33,none⟩=some u)∧z6.frozen? ⟨b1,33,none⟩=false∧∀ z7,z7=z6.setCell ⟨b1,33,none⟩ (.bool true)→
      aB.ex λx=>aC z7 ⟨b1,0,none⟩ 0 x.cells∧wrAt z7 ⟨b2,0,none⟩ 0 x.cells∧∀ w',w'=puts z7 ⟨b2,0,none⟩ 0 x.cells→aB.ex λy=>aC w' ⟨b2,0,none⟩ 0 y.cells∧w'=w'∧R y.val w')
     else (aB.ex λx=>aC z5 ⟨b1,0,none⟩ 0 x.cells∧wrAt z5 ⟨b2,0,none⟩ 0 x.cells∧∀ w',w'=puts z5 ⟨b2,0,none⟩ 0 x.cells→aB.ex λy=>aC w' ⟨b2,0,none⟩ 0 y.cells∧w'=w'∧R y.val w')))
    else (aB.ex λx=>aC z4 ⟨b1,0,none⟩ 0 x.cells∧wrAt z4 ⟨b2,0,none⟩ 0 x.cells∧∀ w',w'=puts z4 ⟨b2,0,none⟩ 0 x.cells→aB.ex λy=>aC w' ⟨b2,0,none⟩ 0 y.cells∧w'=w'∧R y.val w'))))
theorem De {A:Nat→Prop} {χ:Nat→Tag} {w z:World} {fb b1 b2:Nat} {B:Nat→Prop} {ξ:Nat→Tag} {X:FabX} {r:TR} {t:Tk conv} (h:TW A χ w fb (λk=>k=b1∨k=b2) z B ξ X) (hne:b1≠b2) (hb1:Blk z b1 r.cells TTa) {cs:List Value} (hb2:Blk z b2 cs TTa) (hcs:cs.length=46) (ht:fL (λk=>B k∨k=b1∨k=b2) z r t) :
  (∃ u,z.cell? ⟨b1,32,none⟩=some u)∧z.frozen? ⟨b1,32,none⟩=false∧∀ z1,z1=z.setCell ⟨b1,32,none⟩ (.bool true)→(∃ u,z1.cell? ⟨b1,33,none⟩=some u)∧z1.frozen? ⟨b1,33,none⟩=false∧∀ z2,z2=z1.setCell ⟨b1,33,none⟩ (.bool true)→
   aB.ex λx=>aC z2 ⟨b1,0,none⟩ 0 x.cells∧wrAt z2 ⟨b2,0,none⟩ 0 x.cells∧∀ w',w'=puts z2 ⟨b2,0,none⟩ 0 x.cells→aB.ex λy=>aC w' ⟨b2,0,none⟩ 0 y.cells∧w'=w'∧ze A χ w fb (X.pure,t.fail) y.val w':=by
 refine ⟨⟨_,hb1.cell rfl⟩,hb1.frozen,?_⟩
 rintro z1 hz1
 have hk1:Keep (λk=>k=b1) z z1:=by rw [hz1];exact aR _ _ _ _
 have hb11:=hb1.setCell (i:=32) (.bool true)
 rw [←hz1] at hb11
 clear hz1
 refine ⟨⟨_,hb11.cell rfl⟩,hb11.frozen,?_⟩
 rintro z2 hz2
 have hk2:Keep (λk=>k=b1) z z2:=by rw [hz2];exact hk1.setCell (.inl rfl) _
 have hb12:=hb11.setCell (i:=33) (.bool true)
 rw [←hz2] at hb12
 clear hz2
 have hb12:Blk z2 b1 ({ r with Over:=true,Bad:=true }:TR).cells TTa:=hb12
 refine tM hb12 (hk2.blk hb2 λe=>hne e.symm) hcs λw' hk'=>?_
 exact CI (h.local hk2 λ_ e=>.inl e) ((ht.keep (hk2.mono λ_ _ e=>.inr (.inl e)) λ_ _ hb=>hb).fail) hk'
set_option maxHeartbeats 2000000 in
theorem Df {A:Nat→Prop} {χ:Nat→Tag} {w z:World} {fb b1 b2:Nat} {B:Nat→Prop} {ξ:Nat→Tag} {X:FabX} {r:TR} {t:Tk conv} (h:TW A χ w fb (λk=>k=b1∨k=b2) z B ξ X) (hok:Good X.pure) (hne:b1≠b2)
  (hb1:Blk z b1 r.cells TTa) {cs:List Value} (hb2:Blk z b2 cs TTa) (hcs:cs.length=46) (ht:fL (λk=>B k∨k=b1∨k=b2) z r t) :
  yd fb b1 b2 z (ze A χ w fb (oW X.pure t)):=by
 unfold yd oW
 have hgl:=ht.gl
 refine ⟨_,_,_,hb1.cell rfl,aH (λhc=>?_) (λhc=>?_)⟩
 ·rw [if_pos (by omega)]
  exact De h hne hb1 hb2 hcs ht
 ·rw [if_neg (by omega)]
  refine aB.mk_ex r ⟨aI hb1 rfl,?_⟩
  refine aF (Fr ht (λk hk=>h.fab.low k hk)) ?_
  rintro v z1 ⟨hn1,aa,ac,raws,r',rfl,hrd,hfr,hvs,ht'⟩
  refine ⟨_,_,_,aB.mk_ex r' ⟨rfl,?_⟩⟩
  have hb1l:=hb1.lt
  have hb2l:=hb2.lt
  refine il (vs:=r'.cells) (New.blk hn1 hb1) rfl (aB.single r') λz2 hb22 hk2=>?_
  have hkz2:Keep (λk=>k=b1) z z2:=(Keep.of_new hn1).trans hk2 λ_ _ e=>e
  have h2:=(h.new hn1).local hk2 λ_ e=>.inl e
  have ht2:=ht'.keep (A':=λk=>B k∨k=b1∨k=b2) (hk2.mono λ_ _ e=>.inr (.inl e)) λ_ _ hb=>hb
  have hb2z:Blk z2 b2 cs TTa:=hkz2.blk hb2 λe=>hne e.symm
  have hrd2:Rd z2 aa (eC raws).flatten:=hrd.keep hk2 (lD hrd λk hk e=>by have:=hfr k hk;omega)
  refine ⟨_,hb22.cell rfl,dG (λho=>?_) (λho=>?_)⟩
  ·have ho':(conv.next t.job t.got).2.2=false:=by rw [←ho];exact ht'.over.symm
   rw [if_neg (by rw [ho'];simp)]
   refine ⟨_,hb22.cell rfl,?_⟩
   have hoff:((eC raws).flatten=[])∨Off (λk=>B k∨k=b1∨k=b2) aa:=lD hrd2 λk hk e=>by
    have h3:=hfr k hk
    have h4:=h.fab.low k e
    omega
   have hvs2:Vs (λk=>B k∨k=b1∨k=b2) z2 raws (conv.next t.job t.got).1:=hvs.keep (hk2.mono λk _ e=>by show k<z.heap.size;omega) λk _ hb=>h.fab.low k hb
   have hcl:r'.Client=t.client:=ht'.client
   rw [hcl]
   refine aF (EM h2.fab hok.ok t.client (lcap:=ac) hrd2 hoff hvs2) ?_
   rintro v z3 ⟨rfl,hp⟩
   obtain ⟨B',ξ',X',h3,hX3,_,hk3,hM3,hL3⟩:=h2.op hp
   have hb13:Blk z3 b1 r'.cells TTa:=(hL3 b1 (.inl rfl)).trans hb22
   have hb23:Blk z3 b2 cs TTa:=(hL3 b2 (.inr rfl)).trans hb2z
   have ht3:=ht2.keep (A':=λk=>B' k∨k=b1∨k=b2) hk3 hM3
   refine ⟨_,rfl,cU (λhc2=>?_) (λhc2=>?_)⟩
   ·rw [if_pos hc2,←hX3]
    exact De h3 hne hb13 hb23 hcs ht3
   ·rw [if_neg (λe=>e hc2)]
    refine tM hb13 hb23 hcs λw' hk'=>?_
    rw [←hX3]
    exact CI h3 ht3 hk'
  ·have ho':(conv.next t.job t.got).2.2=true:=by rw [←ho];exact ht'.over.symm
   rw [if_pos ho']
   refine tM hb22 hb2z hcs λw' hk'=>?_
   exact CI h2 ht2 hk'
set_option maxHeartbeats 2000000 in
theorem Dg {A:Nat→Prop} {χ:Nat→Tag} {w:World} {fb:Nat} {X:FabX} (h:aZ A χ w fb X) (hok:Good X.pure) {r:TR} {t:Tk conv} (ht:fL A w r t) (hsh:tc t) :
  Does 65 [ptr fb,r.val] w (ze A χ w fb (turn X.pure t)):=by
 refine does Tryz.func65 ?_
 rw [ptr,o0]
 rintro b1 w1 hb1 hw1 b2 w2 hb2 hw2
 obtain ⟨hz1,hn1⟩:=aO hb1 hw1
 obtain ⟨hz2,hn2⟩:=aO hb2 hw2
 have hz12:Blk w2 b1 r.cells TTa:=New.blk hn2 hz1
 have hs1:=hz1.lt
 have hs12:=hn1.size
 have hs2:=hz2.lt
 have hs22:=hn2.size
 clear hw1 hw2 hz1
 have hn02:=hn1.new hn2
 have hne:b1≠b2:=by omega
 have hT:TW A χ w fb (λk=>k=b1∨k=b2) w2 A χ X:=TW.start h hn02 λk hk=>by omega
 have ht2:fL (λk=>A k∨k=b1∨k=b2) w2 r t:=ht.keep (Keep.of_new hn02) λk hlt hc=>by
  rcases hc with hc | hc
  ·exact hc
  ·omega
 have hsame:∀ w',Keep (λk=>k=b2) w2 w'→ze A χ w fb (X.pure,t) r.val w':=λw' hk'=>CI hT ht2 hk'
 unfold turn
 have hcl:r.Client=t.client:=ht.client
 refine ⟨_,hz12.cell rfl,?_⟩
 rw [ht.over]
 cases hov:t.over with
 |true=>
  refine gE rfl ?_
  rw [if_pos (.inl rfl)]
  exact tM hz12 hz2 rfl hsame
 |false=>
  refine er rfl ?_
  refine ⟨_,hz12.cell rfl,?_⟩
  rw [hcl]
  refine aF (zT hT.fab _) ?_
  rintro v w4 ⟨rfl,rfl⟩
  refine ⟨_,rfl,dG (λha=>?_) (λha=>?_)⟩
  ·rw [if_pos (.inr (.inl ha))]
   exact tM hz12 hz2 rfl hsame
  refine ⟨_,hz12.cell rfl,?_⟩
  rw [hcl]
  refine aF (zU hT.fab _) ?_
  rintro v w6 ⟨rfl,rfl⟩
  refine ⟨_,rfl,aH (λhw=>?_) (λhw=>?_)⟩
  ·rw [if_pos (.inr (.inr (by omega)))]
   exact tM hz12 hz2 rfl hsame
  rw [if_neg (by rw [ha];simp;omega)]
  refine ⟨_,hz12.cell rfl,?_⟩
  rw [hcl]
  refine aF (EK hT.fab _) ?_
  rintro v w8 hp
  obtain ⟨B',ξ',X',h3,hX3,hK3,hk3,hM3,hL3⟩:=hT.op hp
  have hb13:Blk w8 b1 r.cells TTa:=(hL3 b1 (.inl rfl)).trans hz12
  have hb23:=(hL3 b2 (.inr rfl)).trans hz2
  have ht3:=ht2.keep (A':=λk=>B' k∨k=b1∨k=b2) hk3 hM3
  have hok3:Good X'.pure:=by rw [hX3];exact hok.take _
  have htl:∀ ds,(X.pure.take t.client).1=some ds→ds.length≤1024:=λds=>Ce hok
  have hlen:=hsh hov
  rw [←hX3]
  generalize (X.pure.take t.client).1=od at hK3 htl ⊢
  cases od with
  |none=>
   have hK3:v=.tuple #[.slice none 0 0,.bool false]:=hK3
   subst hK3
   refine ⟨_,_,_,_,rfl,er rfl ?_⟩
   exact Df h3 hok3 hne hb13 hb23 rfl ht3
  |some ds=>
   obtain ⟨b,raw,rfl,hbb,hds,hnb⟩:=hK3
   refine ⟨_,_,_,_,rfl,gE rfl ?_⟩
   refine ⟨_,_,_,hb13.cell rfl,?_⟩
   rw [ht3.gl]
   refine Cf ht3.got (by omega) hbb hds hnb (htl ds rfl) h3.fab.low (by rw [hds.1]) ?_
   intro b3 ap cap z hb3 hgz hcap hnz
   have hb14:=New.blk hnz hb13
   refine ⟨⟨_,hb14.cell rfl⟩,hb14.frozen,?_⟩
   rintro w12 hw12
   have hk12:Keep (λk=>k=b1) z w12:=by rw [hw12];exact aR _ _ _ _
   have hb15:=hb14.setCell (i:=31) (.slice ap (t.got.length+1) cap)
   rw [←hw12] at hb15
   clear hw12
   have hb15:Blk w12 b1 ({ r with Got:=ap,Got_l:=t.got.length+1,Got_c:=cap }:TR).cells TTa:=hb15
   refine Df ((h3.new hnz).local hk12 λ_ e=>.inl e) hok3 hne hb15 (hk12.blk (New.blk hnz hb23) λe=>hne e.symm) rfl ?_
   have hkz:Keep (λk=>B' k∨k=b1∨k=b2) w8 w12:=(Keep.of_new hnz).trans hk12 λ_ _ e=>.inr (.inl e)
   have ht4:=ht3.keep (A':=λk=>B' k∨k=b1∨k=b2) hkz λ_ _ hb=>hb
   have hgl:(t.got++[ds]).length=t.got.length+1:=by simp
   exact ⟨ht4.kind,ht4.client,ht4.over,ht4.bad,hgz.keep (hk12.mono λ_ _ e=>.inr (.inl e)) λ_ _ hb=>hb,hgl.symm,hcap,ht4.job,ht4.out,by show (t.got++[ds]).length≤201;omega⟩
end Go.Proofs.YtgpmeaicjonenaaGreat.C16
