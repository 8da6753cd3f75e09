import Derived.Test.YtegepanmkjemjaaGreatp39
set_option linter.unusedVariables false
namespace Go.Proofs.YtegepanmkjemjaaGreat.C12
open Go.Proofs.Tryz
open Go.Eng
def ux (p0 b1 b2:Nat) (z:World) (R:Value→World→Prop):Prop:=
 ∃ (g:Option Addr) (gl gc:Nat),z.cell? ⟨b1,15,none⟩=some (.slice g gl gc)∧(bif (decide ((gl:Int)>200)) then
  ((∃ u,z.cell? ⟨b1,16,none⟩=some u)∧z.frozen? ⟨b1,16,none⟩=false∧∀ z1,z1=z.setCell ⟨b1,16,none⟩ (.bool true)→(∃ u,z1.cell? ⟨b1,17,none⟩=some u)∧z1.frozen? ⟨b1,17,none⟩=false∧∀ z2,z2=z1.setCell ⟨b1,17,none⟩ (.bool true)→
   aB.ex λx=>aD z2 ⟨b1,0,none⟩ 0 x.cells∧wrAt z2 ⟨b2,0,none⟩ 0 x.cells∧∀ w',w'=puts z2 ⟨b2,0,none⟩ 0 x.cells→aB.ex λy=>aD w' ⟨b2,0,none⟩ 0 y.cells∧w'=w'∧R y.val w')
  else (aB.ex λr=>aD z ⟨b1,0,none⟩ 0 r.cells∧Calls prog 60 #[r.val] z λe z3=>∃ (a:Option Addr) (al ac:Nat),aB.ex λr'=>e=.returned (.tuple #[.slice a al ac,r'.val])∧wrAt z3 ⟨b1,0,none⟩ 0 r'.cells∧∀ z4,z4=puts z3 ⟨b1,0,none⟩ 0 r'.cells→
   ∃ ov:Bool,z4.cell? ⟨b1,16,none⟩=some (.bool ov)∧(bif (!ov) then (∃ cl:Int,z4.cell? ⟨b1,1,none⟩=some (.int .i64 cl)∧Calls prog 61 #[.pointer (some ⟨p0,0,none⟩),.int .i64 cl,.slice a al ac] z4 λe z5=>∃ ec:Int,e=.returned (.int .i64 ec)∧(bif (ec != 0) then
     ((∃ u,z5.cell? ⟨b1,16,none⟩=some u)∧z5.frozen? ⟨b1,16,none⟩=false∧∀ z6,z6=z5.setCell ⟨b1,16,none⟩ (.bool true)→(∃ u,z6.cell? ⟨b1,17,none⟩=some u)∧z6.frozen? ⟨b1,17,none⟩=false∧∀ z7,z7=z6.setCell ⟨b1,17,none⟩ (.bool true)→
      aB.ex λx=>aD z7 ⟨b1,0,none⟩ 0 x.cells∧wrAt z7 ⟨b2,0,none⟩ 0 x.cells∧∀ w',w'=puts z7 ⟨b2,0,none⟩ 0 x.cells→aB.ex λy=>aD w' ⟨b2,0,none⟩ 0 y.cells∧w'=w'∧R y.val w')
     else (aB.ex λx=>aD z5 ⟨b1,0,none⟩ 0 x.cells∧wrAt z5 ⟨b2,0,none⟩ 0 x.cells∧∀ w',w'=puts z5 ⟨b2,0,none⟩ 0 x.cells→aB.ex λy=>aD w' ⟨b2,0,none⟩ 0 y.cells∧w'=w'∧R y.val w')))
    else (aB.ex λx=>aD z4 ⟨b1,0,none⟩ 0 x.cells∧wrAt z4 ⟨b2,0,none⟩ 0 x.cells∧∀ w',w'=puts z4 ⟨b2,0,none⟩ 0 x.cells→aB.ex λy=>aD w' ⟨b2,0,none⟩ 0 y.cells∧w'=w'∧R y.val w'))))
theorem zp {A:Nat→Prop} {χ:Nat→Tag} {w z:World} {fb b1 b2:Nat} {B:Nat→Prop} {ξ:Nat→Tag} {X:FabX} {r:TR} {t:Tk conv} (h:TW A χ w fb (λk=>k=b1∨k=b2) z B ξ X) (hne:b1≠b2) (hb1:Blk z b1 r.cells TTa) {cs:List Value} (hb2:Blk z b2 cs TTa) (hcs:cs.length=25) (ht:ez (λk=>B k∨k=b1∨k=b2) z r t) :
  (∃ u,z.cell? ⟨b1,16,none⟩=some u)∧z.frozen? ⟨b1,16,none⟩=false∧∀ z1,z1=z.setCell ⟨b1,16,none⟩ (.bool true)→(∃ u,z1.cell? ⟨b1,17,none⟩=some u)∧z1.frozen? ⟨b1,17,none⟩=false∧∀ z2,z2=z1.setCell ⟨b1,17,none⟩ (.bool true)→
   aB.ex λx=>aD z2 ⟨b1,0,none⟩ 0 x.cells∧wrAt z2 ⟨b2,0,none⟩ 0 x.cells∧∀ w',w'=puts z2 ⟨b2,0,none⟩ 0 x.cells→aB.ex λy=>aD w' ⟨b2,0,none⟩ 0 y.cells∧w'=w'∧vI A χ w fb (X.pure,t.fail) y.val w':=by
 refine ⟨⟨_,hb1.cell rfl⟩,hb1.frozen,?_⟩
 rintro z1 hz1
 have hk1:Keep (λk=>k=b1) z z1:=by rw [hz1];exact aO _ _ _ _
 have hb11:=hb1.setCell (i:=16) (.bool true)
 rw [←hz1] at hb11
 clear hz1
 refine ⟨⟨_,hb11.cell rfl⟩,hb11.frozen,?_⟩
 rintro z2 hz2
 have hk2:Keep (λk=>k=b1) z z2:=by rw [hz2];exact hk1.setCell (.inl rfl) _
 have hb12:=hb11.setCell (i:=17) (.bool true)
 rw [←hz2] at hb12
 clear hz2
 have hb12:Blk z2 b1 ({ r with Over:=true,Bad:=true }:TR).cells TTa:=hb12
 refine q5 hb12 (hk2.blk hb2 λe=>hne e.symm) hcs λw' hk'=>?_
 exact y0 (h.local hk2 λ_ e=>.inl e) ((ht.keep (hk2.mono λ_ _ e=>.inr (.inl e)) λ_ _ hb=>hb).fail) hk'
set_option maxHeartbeats 2000000 in
theorem zq {A:Nat→Prop} {χ:Nat→Tag} {w z:World} {fb b1 b2:Nat} {B:Nat→Prop} {ξ:Nat→Tag} {X:FabX} {r:TR} {t:Tk conv} (h:TW A χ w fb (λk=>k=b1∨k=b2) z B ξ X) (hok:Good X.pure) (hne:b1≠b2)
  (hb1:Blk z b1 r.cells TTa) {cs:List Value} (hb2:Blk z b2 cs TTa) (hcs:cs.length=25) (ht:ez (λk=>B k∨k=b1∨k=b2) z r t) :
  ux fb b1 b2 z (vI A χ w fb (qC X.pure t)):=by
 unfold ux qC
 have hgl:=ht.gl
 refine ⟨_,_,_,hb1.cell rfl,aH (λhc=>?_) (λhc=>?_)⟩
 ·rw [if_pos (by omega)]
  exact zp h hne hb1 hb2 hcs ht
 ·rw [if_neg (by omega)]
  refine aB.mk_ex r ⟨aJ hb1 rfl,?_⟩
  refine aE (BI ht (λk hk=>h.fab.low k hk)) ?_
  rintro v z1 ⟨hn1,aa,ac,raws,r',rfl,hrd,hfr,hvs,ht'⟩
  refine ⟨_,_,_,aB.mk_ex r' ⟨rfl,?_⟩⟩
  have hb1l:=hb1.lt
  have hb2l:=hb2.lt
  refine eZ (vs:=r'.cells) (New.blk hn1 hb1) rfl (aB.single r') λz2 hb22 hk2=>?_
  have hkz2:Keep (λk=>k=b1) z z2:=(Keep.of_new hn1).trans hk2 λ_ _ e=>e
  have h2:=(h.new hn1).local hk2 λ_ e=>.inl e
  have ht2:=ht'.keep (A':=λk=>B k∨k=b1∨k=b2) (hk2.mono λ_ _ e=>.inr (.inl e)) λ_ _ hb=>hb
  have hb2z:Blk z2 b2 cs TTa:=hkz2.blk hb2 λe=>hne e.symm
  have hrd2:Rd z2 aa (dT raws).flatten:=hrd.keep hk2 (ny hrd λk hk e=>by have:=hfr k hk;omega)
  refine ⟨_,hb22.cell rfl,cZ (λho=>?_) (λho=>?_)⟩
  ·have ho':(conv.next t.job t.got).2.2=false:=by rw [←ho];exact ht'.over.symm
   rw [if_neg (by rw [ho'];simp)]
   refine ⟨_,hb22.cell rfl,?_⟩
   have hoff:((dT raws).flatten=[])∨Off (λk=>B k∨k=b1∨k=b2) aa:=ny hrd2 λk hk e=>by
    have h3:=hfr k hk
    have h4:=h.fab.low k e
    omega
   have hvs2:Vs (λk=>B k∨k=b1∨k=b2) z2 raws (conv.next t.job t.got).1:=hvs.keep (hk2.mono λk _ e=>by show k<z.heap.size;omega) λk _ hb=>h.fab.low k hb
   have hcl:r'.Client=t.client:=ht'.client
   rw [hcl]
   refine aE (Bd h2.fab hok.ok t.client (lcap:=ac) hrd2 hoff hvs2) ?_
   rintro v z3 ⟨rfl,hp⟩
   obtain ⟨B',ξ',X',h3,hX3,_,hk3,hM3,hL3⟩:=h2.op hp
   have hb13:Blk z3 b1 r'.cells TTa:=(hL3 b1 (.inl rfl)).trans hb22
   have hb23:Blk z3 b2 cs TTa:=(hL3 b2 (.inr rfl)).trans hb2z
   have ht3:=ht2.keep (A':=λk=>B' k∨k=b1∨k=b2) hk3 hM3
   refine ⟨_,rfl,cB (λhc2=>?_) (λhc2=>?_)⟩
   ·rw [if_pos hc2,←hX3]
    exact zp h3 hne hb13 hb23 hcs ht3
   ·rw [if_neg (λe=>e hc2)]
    refine q5 hb13 hb23 hcs λw' hk'=>?_
    rw [←hX3]
    exact y0 h3 ht3 hk'
  ·have ho':(conv.next t.job t.got).2.2=true:=by rw [←ho];exact ht'.over.symm
   rw [if_pos ho']
   refine q5 hb22 hb2z hcs λw' hk'=>?_
   exact y0 h2 ht2 hk'
set_option maxHeartbeats 2000000 in
theorem zr {A:Nat→Prop} {χ:Nat→Tag} {w:World} {fb:Nat} {X:FabX} (h:aV A χ w fb X) (hok:Good X.pure) {r:TR} {t:Tk conv} (ht:ez A w r t) (hsh:rB t) :
  Does 44 [ptr fb,r.val] w (vI A χ w fb (turn X.pure t)):=by
 refine does Tryz.func44 ?_
 rw [ptr,ni]
 rintro b1 w1 hb1 hw1 b2 w2 hb2 hw2
 obtain ⟨hz1,hn1⟩:=aM hb1 hw1
 obtain ⟨hz2,hn2⟩:=aM hb2 hw2
 have hz12:Blk w2 b1 r.cells TTa:=New.blk hn2 hz1
 have hs1:=hz1.lt
 have hs12:=hn1.size
 have hs2:=hz2.lt
 have hs22:=hn2.size
 clear hw1 hw2 hz1
 have hn02:=hn1.new hn2
 have hne:b1≠b2:=by omega
 have hT:TW A χ w fb (λk=>k=b1∨k=b2) w2 A χ X:=TW.start h hn02 λk hk=>by omega
 have ht2:ez (λk=>A k∨k=b1∨k=b2) w2 r t:=ht.keep (Keep.of_new hn02) λk hlt hc=>by
  rcases hc with hc | hc
  ·exact hc
  ·omega
 have hsame:∀ w',Keep (λk=>k=b2) w2 w'→vI A χ w fb (X.pure,t) r.val w':=λw' hk'=>y0 hT ht2 hk'
 unfold turn
 have hcl:r.Client=t.client:=ht.client
 refine ⟨_,hz12.cell rfl,?_⟩
 rw [ht.over]
 cases hov:t.over with
 |true=>
  refine jm rfl ?_
  rw [if_pos (.inl rfl)]
  exact q5 hz12 hz2 rfl hsame
 |false=>
  refine cX rfl ?_
  refine ⟨_,hz12.cell rfl,?_⟩
  rw [hcl]
  refine aE (wy hT.fab _) ?_
  rintro v w4 ⟨rfl,rfl⟩
  refine ⟨_,rfl,cZ (λha=>?_) (λha=>?_)⟩
  ·rw [if_pos (.inr (.inl ha))]
   exact q5 hz12 hz2 rfl hsame
  refine ⟨_,hz12.cell rfl,?_⟩
  rw [hcl]
  refine aE (wz hT.fab _) ?_
  rintro v w6 ⟨rfl,rfl⟩
  refine ⟨_,rfl,aH (λhw=>?_) (λhw=>?_)⟩
  ·rw [if_pos (.inr (.inr (by omega)))]
   exact q5 hz12 hz2 rfl hsame
  rw [if_neg (by rw [ha];simp;omega)]
  refine ⟨_,hz12.cell rfl,?_⟩
  rw [hcl]
  refine aE (Bb hT.fab _) ?_
  rintro v w8 hp
  obtain ⟨B',ξ',X',h3,hX3,hK3,hk3,hM3,hL3⟩:=hT.op hp
  have hb13:Blk w8 b1 r.cells TTa:=(hL3 b1 (.inl rfl)).trans hz12
  have hb23:=(hL3 b2 (.inr rfl)).trans hz2
  have ht3:=ht2.keep (A':=λk=>B' k∨k=b1∨k=b2) hk3 hM3
  have hok3:Good X'.pure:=by rw [hX3];exact hok.take _
  have htl:∀ ds,(X.pure.take t.client).1=some ds→ds.length≤1024:=λds=>yo hok
  have hlen:=hsh hov
  rw [←hX3]
  generalize (X.pure.take t.client).1=od at hK3 htl ⊢
  cases od with
  |none=>
   have hK3:v=.tuple #[.slice none 0 0,.bool false]:=hK3
   subst hK3
   refine ⟨_,_,_,_,rfl,cX rfl ?_⟩
   exact zq h3 hok3 hne hb13 hb23 rfl ht3
  |some ds=>
   obtain ⟨b,raw,rfl,hbb,hds,hnb⟩:=hK3
   refine ⟨_,_,_,_,rfl,jm rfl ?_⟩
   refine ⟨_,_,_,hb13.cell rfl,?_⟩
   rw [ht3.gl]
   refine yp ht3.got (by omega) hbb hds hnb (htl ds rfl) h3.fab.low (by rw [hds.1]) ?_
   intro b3 ap cap z hb3 hgz hcap hnz
   have hb14:=New.blk hnz hb13
   refine ⟨⟨_,hb14.cell rfl⟩,hb14.frozen,?_⟩
   rintro w12 hw12
   have hk12:Keep (λk=>k=b1) z w12:=by rw [hw12];exact aO _ _ _ _
   have hb15:=hb14.setCell (i:=15) (.slice ap (t.got.length+1) cap)
   rw [←hw12] at hb15
   clear hw12
   have hb15:Blk w12 b1 ({ r with Got:=ap,Got_l:=t.got.length+1,Got_c:=cap }:TR).cells TTa:=hb15
   refine zq ((h3.new hnz).local hk12 λ_ e=>.inl e) hok3 hne hb15 (hk12.blk (New.blk hnz hb23) λe=>hne e.symm) rfl ?_
   have hkz:Keep (λk=>B' k∨k=b1∨k=b2) w8 w12:=(Keep.of_new hnz).trans hk12 λ_ _ e=>.inr (.inl e)
   have ht4:=ht3.keep (A':=λk=>B' k∨k=b1∨k=b2) hkz λ_ _ hb=>hb
   have hgl:(t.got++[ds]).length=t.got.length+1:=by simp
   exact ⟨ht4.kind,ht4.client,ht4.over,ht4.bad,hgz.keep (hk12.mono λ_ _ e=>.inr (.inl e)) λ_ _ hb=>hb,hgl.symm,hcap,ht4.job,ht4.out,by show (t.got++[ds]).length≤201;omega⟩
end Go.Proofs.YtegepanmkjemjaaGreat.C12
namespace Go.Proofs.YtegepanmkjemjaaGreat.C12
open Go.Proofs.Tryz
open Go.Eng
structure DW (A:Nat→Prop) (χ:Nat→Tag) (w:World) (fb:Nat) (la:Option Addr) (lc:Nat) (ds:List (Option Addr×List Value)) (u:World) (B:Nat→Prop) (ξ:Nat→Tag) (X:FabX) (ts:List (TR×Tk conv)):Prop where
 tw:TW A χ w fb (isB la) u B ξ X
 own:Owns u TTa 25 la ts.length lc (kV ts).flatten
 tx:∀ x ∈ ts,ez (λk=>B k∨isB la k) u x.1 x.2∧rB x.2
 dat:∀ d ∈ ds,Dat (λk=>B k∨isB la k) u d.1 d.2
 fine:Fine X.pure
theorem DW.new {A:Nat→Prop} {χ:Nat→Tag} {w u u':World} {fb:Nat} {la:Option Addr} {lc:Nat} {ds:List (Option Addr×List Value)} {B:Nat→Prop} {ξ:Nat→Tag} {X:FabX} {ts:List (TR×Tk conv)} (h:DW A χ w fb la lc ds u B ξ X ts) (hn:New u u'):DW A χ w fb la lc ds u' B ξ X ts:=
 ⟨h.tw.new hn,Owns.new hn h.own,λx hx=>⟨(h.tx x hx).1.keep (Keep.of_new hn) λ_ _ e=>e,(h.tx x hx).2⟩,λd hd=>(h.dat d hd).keep (Keep.of_new hn) λ_ _ e=>e,h.fine⟩
theorem DW.op {A:Nat→Prop} {χ:Nat→Tag} {w u u':World} {fb:Nat} {la:Option Addr} {lc:Nat} {ds:List (Option Addr×List Value)} {B:Nat→Prop} {ξ:Nat→Tag} {X:FabX} {ts:List (TR×Tk conv)} (h:DW A χ w fb la lc ds u B ξ X ts) {F:Fab} {K:(Nat→Prop)→Prop} (p:cK (λk=>B k∨isB la k) ξ u fb F u' K) (hF:Fine F) :
  ∃ B' ξ' X',DW A χ w fb la lc ds u' B' ξ' X' ts∧X'.pure=F∧K (λk=>B' k∨isB la k):=by
 obtain ⟨B',ξ',X',h3,hX3,hK3,hk3,hM3,hL3⟩:=h.tw.op p
 refine ⟨B',ξ',X',⟨h3,?_,λx hx=>⟨(h.tx x hx).1.keep hk3 hM3,(h.tx x hx).2⟩,λd hd=>(h.dat d hd).keep hk3 hM3,by rw [hX3];exact hF⟩,hX3,hK3⟩
 refine ⟨h.own.1,?_⟩
 rcases h.own.2 with hn | ⟨g,cur,hg,hb,rest⟩
 ·exact .inl hn
 ·exact .inr ⟨g,cur,hg,(hL3 g ⟨0,hg⟩).trans hb,rest⟩
theorem DW.turned {A:Nat→Prop} {χ:Nat→Tag} {w u w1:World} {fb lb:Nat} {lc:Nat} {ds:List (Option Addr×List Value)} {B:Nat→Prop} {ξ:Nat→Tag} {X:FabX} {ts:List (TR×Tk conv)} (h:DW A χ w fb (some ⟨lb,0,none⟩) lc ds u B ξ X ts) {i:Nat} {x:TR×Tk conv} (hx:ts[i]?=some x) {v:Value}
  (hp:vI (λk=>B k∨isB (some ⟨lb,0,none⟩) k) ξ u fb (turn X.pure x.2) v w1) :
  ∃ B' ξ' X' r',v=r'.val∧wrAt w1 ⟨lb,i * 25,none⟩ 0 r'.cells∧
   DW A χ w fb (some ⟨lb,0,none⟩) lc ds (puts w1 ⟨lb,i * 25,none⟩ 0 r'.cells) B' ξ' X' (ts.set i (r',(turn X.pure x.2).2))∧X'.pure=(turn X.pure x.2).1:=by
 obtain ⟨B',ξ',X',h3,hX3,r',hv,ht'⟩:=h.op hp (h.fine.turn _)
 have hlt:=(List.getElem?_eq_some_iff.1 hx).1
 obtain ⟨hw,ho⟩:=Owns.putRow h3.own (kz ts) (by simp [kV]) hlt (vs:=r'.cells) rfl (aB.single r')
 have hk:Keep (λk=>k=lb) w1 (puts w1 ⟨lb,i * 25,none⟩ 0 r'.cells):=cW _ _ _ _ _
 have hS:∀ k,k=lb→isB (some ⟨lb,0,none⟩) k:=λk e=>⟨0,by rw [e]⟩
 have hkA:Keep (λk=>B' k∨isB (some ⟨lb,0,none⟩) k) w1 (puts w1 ⟨lb,i * 25,none⟩ 0 r'.cells):=hk.mono λk _ e=>.inr (hS k e)
 refine ⟨B',ξ',X',r',hv,hw,⟨h3.tw.local hk hS,?_,λy hy=>?_,λd hd=>(h3.dat d hd).keep hkA λ_ _ e=>e,h3.fine⟩,hX3⟩
 ·rw [List.length_set]
  have e:kV (ts.set i (r',(turn X.pure x.2).2))=(kV ts).set i r'.cells:=by simp [kV,List.map_set]
  rw [e]
  exact ho
 ·rcases List.mem_or_eq_of_mem_set hy with h4 | rfl
  ·exact ⟨(h3.tx y h4).1.keep hkA λ_ _ e=>e,(h3.tx y h4).2⟩
  ·exact ⟨ht'.keep hkA λ_ _ e=>e,vm (h.tx x (List.mem_of_getElem? hx)).2⟩
theorem DW.la {A:Nat→Prop} {χ:Nat→Tag} {w u:World} {fb:Nat} {la:Option Addr} {lc:Nat} {ds:List (Option Addr×List Value)} {B:Nat→Prop} {ξ:Nat→Tag} {X:FabX} {ts:List (TR×Tk conv)} (h:DW A χ w fb la lc ds u B ξ X ts) (hl:0<ts.length):∃ lb,la=some ⟨lb,0,none⟩:=by
 rcases h.own.2 with ⟨_,hn,_⟩ | ⟨g,cur,hg,_⟩
 ·omega
 ·exact ⟨g,hg⟩
def td (A:Nat→Prop) (χ:Nat→Tag) (w:World) (fb:Nat) (r:Fab×List (Tk conv)) (v:Value) (w':World):Prop:=
 cK A χ w fb r.1 w' λB=>∃ la lc ts',v=.slice la r.2.length lc∧ts'.map Prod.snd=r.2∧Owns w' TTa 25 la r.2.length lc (kV ts').flatten∧(∀ k,isB la k→¬ B k)∧∀ x ∈ ts',ez B w' x.1 x.2
theorem xB (ts:List (TR×Tk conv)) (i:Nat) (r:TR) (t:Tk conv):(ts.set i (r,t)).map Prod.snd=(ts.map Prod.snd).set i t:=by simp [List.map_set]
set_option maxHeartbeats 4000000 in
theorem xC {A:Nat→Prop} {χ:Nat→Tag} {w:World} {fb:Nat} {X:FabX} (h:aV A χ w fb X) (hf:Fine X.pure) {ts:List (TR×Tk conv)} {pa:Option Addr} {pc:Nat} (hts:Rd w pa (kV ts).flatten) (htx:∀ x ∈ ts,ez A w x.1 x.2∧rB x.2) (htl:ts.length≤1000)
  {sch:List Int} {sa:Option Addr} {sc:Nat} (hsd:Dat A w sa (is sch)) (hsi:∀ x ∈ sch,I64 x) {es:List iq} {ea:Option Addr} {ec:Nat} (hed:Dat A w ea (oI es).flatten) (hei:∀ e ∈ es,e.Ok) (hel:es.length≤1000000) {most:Nat} (hm:most≤1000000) :
  Does 23 [ptr fb,.slice pa ts.length pc,.slice sa sch.length sc,.slice ea es.length ec,.int .i64 most] w (td A χ w fb (drive X.pure (ts.map Prod.snd) sch es most)):=by
 refine does Tryz.func23 ?_
 rw [ptr,mJ]
 obtain ⟨inf,hi,hz,hsz,hby⟩:=ig (T:=TTa) (z:=.agg #[(.int .i64 0),(.int .i64 0),(.int .i64 0),(.int .i64 0),(.int .i64 0),(.int .i64 0),(.int .i64 0),(.int .u64 0),(.int .i64 0),(.int .i64 0),(.int .i64 0),(.int .i64 0),(.slice none 0 0),(.slice none 0 0),(.slice none 0 0),(.slice none 0 0),(.bool false),(.bool false),(.int .i64 0),(.int .i64 0),(.slice none 0 0),(.int .i64 0),(.slice none 0 0),(.int .u64 0),(.int .i64 0)]) (n:=25) (m:=288) (by kernel_rfl)
 have hon:Owns w TTa inf.size none 0 0 []:=Owns.nil _ _ _
 obtain ⟨ap,apc,w1,hrun,hown,hk1,hap⟩:=Owns.append (P:=prog) (t:=TST) (ty:=TST) Tryz.underlying61 hi hz (by rw [hsz];rfl) (by omega) hon (s:=pa) (m:=ts.length) (c:=pc) (news:=(kV ts).flatten) (by rw [hsz,dD (kz ts)];simp [kV]) hts (tc ts) (by omega) (by rw [hby];omega)
 rw [Nat.zero_add,List.nil_append,hsz] at hown
 rw [Nat.zero_add] at hrun
 have hn1:New w w1:=hk1.mono λk _ hb=>by obtain ⟨o,ho⟩:=hb;cases ho
 have hfr1:∀ k,isB ap k→w.heap.size≤k:=λk hk=>by
  rcases hap with e | e
  ·rw [e] at hk;obtain ⟨o,ho⟩:=hk;cases ho
  ·rw [e] at hk;obtain ⟨o,ho⟩:=hk;simp at ho;omega
 have hmono:∀ k,k<w.heap.size→A k∨isB ap k→A k:=λk hlt hc=>hc.elim id λhb=>by have:=hfr1 k hb;omega
 have hT:TW A χ w fb (isB ap) w1 A χ X:=TW.start h hn1 λk hk=>⟨hfr1 k hk,hown.lt hk⟩
 have hD0:DW A χ w fb ap apc [(sa,is sch),(ea,(oI es).flatten)] w1 A χ X ts:=by
  refine ⟨hT,hown,λx hx=>⟨(htx x hx).1.keep (Keep.of_new hn1) hmono,(htx x hx).2⟩,λd hd=>?_,hf⟩
  simp at hd
  rcases hd with rfl | rfl
  ·exact hsd.keep (Keep.of_new hn1) hmono
  ·exact hed.keep (Keep.of_new hn1) hmono
 refine ⟨ap,ts.length,apc,w1,hrun,?_⟩
 clear hrun hk1 hT hon hz hby hsz hi inf hap
 obtain ⟨inf,hi,hz,hsz,hby⟩:=ig (T:=TI) (z:=.int .i64 0) (n:=1) (m:=8) (by kernel_rfl)
 generalize hcs:(ts.map Prod.snd).map Tk.client=cs
 refine aR mix (λm env u=>∃ (i:Nat) (ca:Option Addr) (cc:Nat) (jj:List Value),m=ts.length - i∧i≤ts.length∧env=dH ⟨fb,0,none⟩ ap ts.length apc sa sch.length sc ea es.length ec most ca i cc i jj∧New w1 u∧Owns u TI 1 ca i cc (is (cs.take i))∧(∀ k,isB ca k→w1.heap.size≤k)) ts.length
  ⟨0,none,0,_,rfl,by omega,rfl,Keep.refl _ _,Owns.nil _ _ _,λk hk=>by obtain ⟨o,ho⟩:=hk;cases ho⟩ ?_
 rintro m env u ⟨i,ca,cc,jj,rfl,hile,rfl,hnu,hoc,hfc⟩
 rw [iK]
 refine aH (λhp=>?_) (λhp=>?_)
 ·have hlt:i<ts.length:=by omega
  have hg:ts[i]?=some ts[i]:=List.getElem?_eq_getElem hlt
  obtain ⟨ba,oa,hae,hca,hcell⟩:=(Owns.new hnu hown).rd.row (kz ts) (by omega) (qk hg)
  have hcsi:cs[i]?=some ts[i].2.client:=by rw [←hcs];simp [hg]
  rw [hae]
  refine aX (by omega) (by omega) ⟨ts[i].2.client,by rw [←(htx _ (List.getElem_mem hlt)).1.client];simpa using hcell 1 _ rfl,?_⟩
  have hoc':Owns u TI inf.size ca i cc (is (cs.take i)):=by rw [hsz];exact hoc
  refine push_k Tryz.underlying22 hi hz (by rw [hsz];rfl) (by omega) hoc' (vs:=[.int .i64 ts[i].2.client]) (by rw [hsz];rfl) (by intro v hv;simp at hv;subst hv;rfl) (by omega) (by omega) ?_
  intro b3 ap1 cap1 u2 hb3 ho2 hk2 hap1
  rw [hsz] at ho2
  rw [w64 (by omega) (by omega),←hae]
  refine ⟨ts.length - (i+1),by omega,i+1,ap1,cap1,_,rfl,by omega,rfl,iU hnu hk2 hfc,?_,?_⟩
  ·have e:is (cs.take (i+1))=is (cs.take i)++[.int .i64 ts[i].2.client]:=by
    rw [List.take_add_one,hcsi]
    simp [is]
   rw [e]
   exact ho2
  ·intro k hk
   rcases hap1 k hk with h1 | h1
   ·exact hfc k h1
   ·have:=hnu.size
    omega
 have hin:i=ts.length:=by omega
 subst hin
 have hcl:cs.length=ts.length:=by rw [←hcs];simp
 rw [List.take_of_length_le (by omega)] at hoc
 rw [jX]
 clear hp hile
 have hD1:DW A χ w fb ap apc [(ca,is cs),(sa,is sch),(ea,(oI es).flatten)] u A χ X ts:=by
  have hd:=hD0.new hnu
  refine ⟨hd.tw,hd.own,hd.tx,λd hdm=>?_,hf⟩
  rcases List.mem_cons.1 hdm with rfl | hdm
  ·refine ⟨hoc.rd,ny hoc.rd λk hk e=>?_⟩
   have h1:=hfc k hk
   rcases e with e | e
   ·have:=h.low k e
    have:=hn1.size
    omega
   ·have:=hown.lt e
    omega
  ·exact hd.dat d hdm
 have hdrive:drive X.pure (ts.map Prod.snd) sch es most=turns (driveGo cs sch es most 0 X.pure (ts.map Prod.snd)).1 (driveGo cs sch es most 0 X.pure (ts.map Prod.snd)).2:=by unfold drive;rw [hcs]
 rw [hdrive]
 generalize hGo:driveGo cs sch es most 0 X.pure (ts.map Prod.snd)=GG
 have hGo':=hGo
 clear hdrive hD0 hoc hfc hnu hts htx hsd hed
 have hcl1:cs.length≤1000:=by omega
 have hlast:∀ (z:World) (B:Nat→Prop) (ξ:Nat→Tag) (Y:FabX) (ys:List (TR×Tk conv)) (jj:List Value),DW A χ w fb ap apc [(ca,is cs),(sa,is sch),(ea,(oI es).flatten)] z B ξ Y ys→ys.length=ts.length→(Y.pure,ys.map Prod.snd)=GG→
   W prog (sub (aG f23) [1,1,1,1,1]) (dJ ⟨fb,0,none⟩ ap ts.length apc jj) (retQ prog f23 (td A χ w fb (turns GG.1 GG.2))) z:=by
  intro z B ξ Y ys jj hD hyl hYG
  rw [jY]
  rw [←hYG]
  dsimp only
  refine aR mix (λm env z=>∃ (i:Nat) (B:Nat→Prop) (ξ:Nat→Tag) (Z:FabX) (zs:List (TR×Tk conv)) (jj:List Value),m=ts.length - i∧i≤ts.length∧env=dK ⟨fb,0,none⟩ ap ts.length apc i jj∧DW A χ w fb ap apc [(ca,is cs),(sa,is sch),(ea,(oI es).flatten)] z B ξ Z zs∧zs.length=ts.length∧TRo Y.pure (ys.map Prod.snd) i Z.pure (zs.map Prod.snd)) ts.length
   ⟨0,B,ξ,Y,ys,_,rfl,by omega,rfl,hD,hyl,TRo.start _ _⟩ ?_
  clear hD hYG
  rintro m env z ⟨i,B,ξ,Z,zs,jj,rfl,hile,rfl,hD,hzl,hTR⟩
  rw [iN]
  refine aH (λhp=>?_) (λhp=>?_)
  ·have hlt:i<zs.length:=by omega
   have hg:zs[i]?=some zs[i]:=List.getElem?_eq_getElem hlt
   obtain ⟨lb,hla⟩:=hD.la (by omega)
   rw [hla] at hD ⊢
   obtain ⟨ba,oa,hae,hca,hcell⟩:=hD.own.rd.row (kz zs) (by omega) (qk hg)
   simp at hae
   obtain ⟨rfl,rfl⟩:=hae
   have hx:=hD.tx _ (List.mem_of_getElem? hg)
   refine aX (by omega) (by omega) ?_
   refine aB.mk_ex zs[i].1 ⟨by simpa using hca,?_⟩
   refine aE (zr hD.tw.fab hD.fine.good hx.1 hx.2) ?_
   rintro v z1 hp1
   obtain ⟨B',ξ',Z',r',rfl,hw,hD',hZ'⟩:=hD.turned hg hp1
   refine aB.mk_ex r' ⟨rfl,?_⟩
   refine aX (by omega) (by omega) ?_
   have e12:0+Int.toNat (i:Int) * 25=i * 25:=by omega
   rw [e12]
   refine ⟨hw,?_⟩
   rintro z2 hz2
   rw [w64 (by omega) (by omega)]
   refine ⟨ts.length - (i+1),by omega,i+1,B',ξ',Z',_,_,rfl,by omega,rfl,by rw [hz2];exact hD',by simpa using hzl,?_⟩
   rw [xB,hZ']
   exact hTR.step (by simp [hg])
  ·have hin:i=ts.length:=by omega
   rw [j0]
   have hdone:=hTR.done (by simp;omega)
   rw [hdone]
   refine hD.tw.done ⟨ap,apc,zs,by simp [hzl],rfl,by simpa using hD.own,λk hk hb=>?_,λx hx=>(hD.tx x hx).1.keep (Keep.refl _ _) λ_ _ e=>.inl e⟩
   obtain ⟨l1,l2,l3⟩:=hD.tw.loc k hk
   rcases (hD.tw.next.iff k).1 hb with hc | hc
   ·exact hc l3
   ·omega
 refine aR mix (λm env z=>∃ (n:Nat) (B:Nat→Prop) (ξ:Nat→Tag) (Y:FabX) (ys:List (TR×Tk conv)) (jj:List Value),m=most - n∧n≤most∧env=dI ⟨fb,0,none⟩ ap ts.length apc sa sch.length sc ea es.length ec most ca ts.length cc n jj∧DW A χ w fb ap apc [(ca,is cs),(sa,is sch),(ea,(oI es).flatten)] z B ξ Y ys∧ys.length=ts.length∧driveGo cs sch es (most - n) n Y.pure (ys.map Prod.snd)=GG) most
  ⟨0,A,χ,X,ts,_,rfl,by omega,rfl,hD1,rfl,hGo⟩ ?_
 clear hD1 hGo hGo'
 rintro m env z ⟨n,B,ξ,Y,ys,jj,rfl,hnm,rfl,hD,hyl,hG⟩
 rw [iL]
 refine aH (λhp=>?_) (λhp=>?_)
 ·have hms:most - n=(most - (n+1))+1:=by omega
  rw [hms,driveGo] at hG
  refine aR mix (λm env z=>∃ (k:Nat) (B:Nat→Prop) (ξ:Nat→Tag) (Z:FabX) (jj:List Value),m=es.length - k∧k≤es.length∧env=cM ⟨fb,0,none⟩ ap ts.length apc sa sch.length sc ea es.length ec most ca ts.length cc n k jj∧DW A χ w fb ap apc [(ca,is cs),(sa,is sch),(ea,(oI es).flatten)] z B ξ Z ys∧Z.pure=happens Y.pure cs n (es.take k)) es.length
   ⟨0,B,ξ,Y,_,rfl,by omega,rfl,hD,rfl⟩ ?_
  clear hD
  rintro m env z ⟨k,B,ξ,Z,jj,rfl,hke,rfl,hD,hZ⟩
  rw [iM]
  refine aH (λhq=>?_) (λhq=>?_)
  ·have hlt:k<es.length:=by omega
   have hg:es[k]?=some es[k]:=List.getElem?_eq_getElem hlt
   have hok:=hei _ (List.mem_of_getElem? hg)
   have hsn:=sy (F:=Y.pure) (cs:=cs) (n:=n) (es.take k) es[k]
   rw [←List.take_succ_eq_append_getElem hlt,←hZ] at hsn
   have hed:=(hD.dat (ea,(oI es).flatten) (by simp)).1
   obtain ⟨ba,oa,hae,hca,hcell⟩:=hed.row (wR es) (by omega) (wS hg)
   have hae':ea=some ⟨ba,oa,none⟩:=hae
   rw [hae']
   refine aX (by omega) (by omega) ⟨es[k].at_,by simpa using hcell 0 _ rfl,?_⟩
   refine aE (lO _ _ _ hok.at_ (by omega)) ?_
   rintro v z1 ⟨rfl,rfl⟩
   rw [if_neg (by omega)]
   refine ⟨_,rfl,bG (λhe=>?_) (λhe=>?_)⟩
   ·refine aX (by omega) (by omega) (aZ.mk_ex ⟨es[k].at_,es[k].kind,es[k].a⟩ ⟨by simpa [iq.cells,aZ.cells] using hca,?_⟩)
    have hcr:=(hD.dat (ca,is cs) (by simp)).1
    have hhc:=yq hD.tw.fab hD.fine hcr (cc:=cc) hcl1 hok
    rw [hcl] at hhc
    refine aE hhc ?_
    rintro v z2 ⟨rfl,hp2⟩
    obtain ⟨B',ξ',Z',hD',hZ',_⟩:=hD.op hp2 (hD.fine.happen _ _)
    refine ⟨rfl,?_⟩
    rw [w64 (by omega) (by omega),←hae']
    rw [if_pos he] at hsn
    exact ⟨es.length - (k+1),by omega,k+1,B',ξ',Z',_,rfl,by omega,rfl,hD',by rw [hZ',hsn]⟩
   ·rw [w64 (by omega) (by omega),←hae']
    rw [if_neg he] at hsn
    exact ⟨es.length - (k+1),by omega,k+1,B,ξ,Z,_,rfl,by omega,rfl,hD,hsn.symm⟩
  have hke':k=es.length:=by omega
  subst hke'
  rw [List.take_of_length_le (Nat.le_refl _)] at hZ
  rw [jZ]
  rw [←hZ] at hG
  refine aR mix (λm env z=>∃ (i:Nat) (B:Nat→Prop) (ξ:Nat→Tag) (V:FabX) (zs:List (TR×Tk conv)) (jj:List Value),m=ts.length - i∧i≤ts.length∧env=dL ⟨fb,0,none⟩ ap ts.length apc sa sch.length sc ea es.length ec most ca ts.length cc n i jj∧DW A χ w fb ap apc [(ca,is cs),(sa,is sch),(ea,(oI es).flatten)] z B ξ V zs∧zs.length=ts.length∧TRo Z.pure (ys.map Prod.snd) i V.pure (zs.map Prod.snd)) ts.length
   ⟨0,B,ξ,Z,ys,_,rfl,by omega,rfl,hD,hyl,TRo.start _ _⟩ ?_
  clear hD hq hke
  rintro m env z ⟨i,B,ξ,V,zs,jj,rfl,hile,rfl,hD,hzl,hTR⟩
  rw [iO]
  refine aH (λhq=>?_) (λhq=>?_)
  ·have hlt:i<zs.length:=by omega
   have hg:zs[i]?=some zs[i]:=List.getElem?_eq_getElem hlt
   obtain ⟨lb,hla⟩:=hD.la (by omega)
   rw [hla] at hD ⊢
   obtain ⟨ba,oa,hae,hca,hcell⟩:=hD.own.rd.row (kz zs) (by omega) (qk hg)
   simp at hae
   obtain ⟨rfl,rfl⟩:=hae
   have hx:=hD.tx _ (List.mem_of_getElem? hg)
   refine aX (by omega) (by omega) ?_
   refine aB.mk_ex zs[i].1 ⟨by simpa using hca,?_⟩
   refine aE (zr hD.tw.fab hD.fine.good hx.1 hx.2) ?_
   rintro v z1 hp1
   obtain ⟨B',ξ',Z',r',rfl,hw,hD',hZ'⟩:=hD.turned hg hp1
   refine aB.mk_ex r' ⟨rfl,?_⟩
   refine aX (by omega) (by omega) ?_
   have e12:0+Int.toNat (i:Int) * 25=i * 25:=by omega
   rw [e12]
   refine ⟨hw,?_⟩
   rintro z2 hz2
   rw [w64 (by omega) (by omega)]
   refine ⟨ts.length - (i+1),by omega,i+1,B',ξ',Z',_,_,rfl,by omega,rfl,by rw [hz2];exact hD',by simpa using hzl,?_⟩
   rw [xB,hZ']
   exact hTR.step (by simp [hg])
  ·have hin:i=ts.length:=by omega
   have hdone:=hTR.done (by simp;omega)
   rw [hdone] at hG
   rw [j1]
   have hsr:=(hD.dat (sa,is sch) (by simp)).1
   refine aE (zU hD.tw.fab hD.fine hsr hsi n) ?_
   rintro v z1 ⟨rfl,hp1⟩
   obtain ⟨B',ξ',V',hD',hV',_⟩:=hD.op hp1 (hD.fine.rstep _ _)
   refine ⟨_,rfl,cZ (λhb=>?_) (λhb=>?_)⟩
   ·rw [if_neg (by rw [hb];simp)] at hG
    exact hlast z1 B' ξ' V' zs _ hD' hzl (by rw [hV'];exact hG)
   ·rw [if_pos hb] at hG
    rw [w64 (by omega) (by omega)]
    exact ⟨most - (n+1),by omega,n+1,B',ξ',V',zs,_,rfl,by omega,rfl,hD',hzl,by rw [hV'];exact hG⟩
 ·have hnm':most - n=0:=by omega
  rw [hnm',driveGo] at hG
  exact hlast z B ξ Y ys _ hD hyl hG
theorem xD {l:List (TR×Tk conv)} {t:Tk conv} (h:l.map Prod.snd=[t]):∃ r,l=[(r,t)]:=by
 cases l with
 |nil=>cases h
 |cons x l=>
  rw [List.map_cons] at h
  obtain ⟨h1,h2⟩:=List.cons.inj h
  have h3:l=[]:=List.map_eq_nil_iff.1 h2
  subst h3
  exact ⟨x.1,by rw [←h1]⟩
theorem xE (F:Fab) (r:TR) (t:Tk conv):drive F ([(r,t)].map Prod.snd) [] [] 20000=alone F t:=rfl
section
attribute [local irreducible] drive alone
set_option maxHeartbeats 2000000 in
theorem AI {A:Nat→Prop} {χ:Nat→Tag} {w:World} {fb:Nat} {X:FabX} (h:aV A χ w fb X) (hf:Fine X.pure) {r:TR} {t:Tk conv} (hx:ez A w r t) (hsh:rB t) :
  Does 15 [ptr fb,r.val] w λv w'=>cK A χ w fb (alone X.pure t).1 w' λB=>∃ t' r',(alone X.pure t).2=[t']∧v=r'.val∧ez B w' r' t':=by
 refine does Tryz.func15 ?_
 rw [ptr,mI]
 rintro b1 w1 hb1 hw1 b2 w2 hb2 hw2
 obtain ⟨hz1,hn1⟩:=aM hb1 hw1
 obtain ⟨hz2,hn2⟩:=aM hb2 hw2
 have hz12:Blk w2 b1 r.cells TTa:=New.blk hn2 hz1
 have hs12:=hn1.size
 have hs2:=hz2.lt
 clear hw1 hw2 hz1
 refine aB.mk_ex r ⟨aJ hz12 rfl,?_⟩
 rintro b3 w3 hb3 hw3
 obtain ⟨hz3,hn3⟩:=aM hb3 hw3
 have hz3:Blk w3 b3 r.cells TTa:=hz3
 clear hw3
 have hn03:=(hn1.new hn2).new hn3
 have hs3:=hn3.size
 have hT:TW A χ w fb (λk=>k=b2) w3 A χ X:=TW.start h hn03 λk hk=>by omega
 have hmono:∀ k,k<w.heap.size→A k∨k=b2→A k:=λk hlt hc=>hc.elim id λe=>by omega
 have hdn:Dat (λk=>A k∨k=b2) w3 none ([]:List Value):=⟨.inl rfl,.inl rfl⟩
 have hrd:Rd w3 (some ⟨b3,0,none⟩) (kV [(r,t)]).flatten:=el hz3 (by simp [kV,aB.cells])
 have hdr:=xC hT.fab hf (ts:=[(r,t)]) (pc:=1) hrd (λx hxm=>by simp at hxm;rw [hxm];exact ⟨hx.keep (Keep.of_new hn03) hmono,hsh⟩) (by simp) (sch:=[]) (sa:=none) (sc:=0) hdn (λx hx=>by cases hx) (es:=[]) (ea:=none) (ec:=0) hdn (λx hx=>by cases hx) (by simp) (most:=20000) (by omega)
 refine aE hdr ?_
 rintro v w4 hp
 obtain ⟨B',ξ',X',h3,hX3,hK3,hk3,hM3,hL3⟩:=hT.op hp
 obtain ⟨la,lc,ts',rfl,hts',how,hnB,htx'⟩:=hK3
 have hal:=xE X.pure r t
 rw [hal] at hX3 hts' how ⊢
 obtain ⟨t',ht'⟩:=wQ X.pure t
 rw [ht'] at hts' how ⊢
 obtain ⟨r',rfl⟩:=xD hts'
 refine ⟨_,_,_,rfl,?_⟩
 obtain ⟨ba,oa,hae,hca,hcell⟩:=how.rd.row (kz [(r',t')]) (by omega) (i:=0) rfl
 have hoa:oa=0:=by
  rcases how.2 with ⟨he,_⟩ | ⟨g,cur,hg,_⟩
  ·rw [he] at hae;cases hae
  ·rw [hg] at hae;simp at hae;omega
 subst hoa
 rw [hae]
 refine aX (by omega) (by simp) ?_
 have hb24:=(hL3 b2 rfl).trans (New.blk hn3 hz2)
 refine aB.mk_ex r' ⟨by simpa using hca,?_⟩
 refine eZ (vs:=r'.cells) hb24 rfl (aB.single r') λw5 hb5 hk5=>?_
 refine aB.mk_ex r' ⟨aJ hb5 rfl,rfl,?_⟩
 rw [←hX3]
 refine (h3.local hk5 λ_ e=>e).done ⟨t',r',rfl,rfl,?_⟩
 exact (htx' (r',t') (by simp)).keep (hk5.mono λ_ _ e=>.inr e) λk _ e=>.inl e
end
end Go.Proofs.YtegepanmkjemjaaGreat.C12
