import Derived.Test.YtegepanmkjemjaaGreatr19
import Derived.Test.YtegepanmkjemjaaGreatr22
import Derived.Test.YtegepanmkjemjaaGreatr30
import Derived.Test.YtegepanmkjemjaaGreatr01
import Derived.Laws.StructEq
set_option linter.unusedVariables false
namespace Go.Proofs.YtegepanmkjemjaaGreat.C12
open Go.Eng
def lF (F:Fab):Bool:=F.orphans.isEmpty && F.clients.all λC=>decide (C.lanes.length≤F.nodes.length) && C.lanes.all λl=>l.pair.verbs.isEmpty && l.places.isEmpty
theorem yu {F:Fab} (h:lF F=true) (c:Nat):Solo c F:=by
 simp only [lF,Bool.and_eq_true,List.isEmpty_iff,List.all_eq_true,decide_eq_true_eq] at h
 obtain ⟨h1,h2⟩:=h
 have hl:∀ (i:Nat) (C:Comp),F.clients[i]?=some C→C.lanes.length≤F.nodes.length∧∀ (j:Nat) (l:Lane),C.lanes[j]?=some l→l.pair.verbs=[]∧l.places=[]:=λi C hC=>⟨(h2 C (List.mem_of_getElem? hC)).1,λj l hj=>(h2 C (List.mem_of_getElem? hC)).2 l (List.mem_of_getElem? hj)⟩
 refine ⟨h1,λi C _ hC j l hj=>((hl i C hC).2 j l hj).1,λC hC=>⟨λi l hi=>?_,λi j l l' _ hi hj k hk=>?_⟩,λC hC=>(hl c C hC).1⟩
 ·obtain ⟨a,b⟩:=(hl c C hC).2 i l hi
  rw [a,b]
  rfl
 ·rw [((hl c C hC).2 i l hi).2] at hk
  cases hk
def rU (c:Nat) (F:Fab) (t:Tk conv):Option (Fab×Tk conv):=match runP c 400 (turn F t) with
 |some (k,e)=>if k<3000 then some (turn e.1 e.2) else none
 |none=>none
theorem t8 {c:Nat} {F:Fab} {t:Tk conv} {e:Fab×Tk conv} (hf:Fine F) (hs:lF F=true) (hc:t.client=(c:Int)) (h:rU c F t=some e) (sch:List Int) {most:Nat} (hm:3000≤most):drive F [t] sch [] most=(e.1,[e.2]):=by
 unfold rU at h
 cases hr:runP c 400 (turn F t) with
 |none=>rw [hr] at h;cases h
 |some x=>
  obtain ⟨k,e'⟩:=x
  rw [hr] at h
  simp only at h
  split at h
  ·rename_i hk
   have:=yb (sch:=sch) (most:=most) ⟨hf,yu hs c,hc⟩ hr (by omega)
   rw [this]
   cases h
   rfl
  ·cases h
def noN:aO:=⟨[],true⟩
def jF (F:Fab) (i:Nat):aO:=F.nodes.getD i noN
def segM (n:aO) (at_ c:Nat):List Int:=(n.words.drop at_).take c
def eqL:List Int→List Int→Bool
 | [],[]=>true
 |x::xs,y::ys=>x == y && eqL xs ys
 | _,_=>false
theorem yv:∀ {a b:List Int},eqL a b=true→a=b
 | [],[],_=>rfl
 |x::xs,y::ys,h=>by
  simp only [eqL,Bool.and_eq_true,beq_iff_eq] at h
  rw [h.1,yv h.2]
 | [],y::ys,h=>by simp [eqL] at h
 |x::xs,[],h=>by simp [eqL] at h
theorem uY {n:aO} {at_ c i:Nat} (h:i<c):n.get (at_+i)=(segM n at_ c).getD i 0:=by
 unfold aO.get segM
 rw [List.getD_eq_getElem?_getD,List.getD_eq_getElem?_getD,List.getElem?_take_of_lt h,List.getElem?_drop]
def eqB (F:Fab) (n lines:Nat) (E:List Int):Bool:=decide (F.nodes.length=n∧F.lines=lines) && ((List.range (lines - 96)).all (λq=>E.getD (q * 8) 0 % 256 == 0) && (List.range n).all λi=>!(jF F i).down && (eqL (segM (jF F i) 768 ((lines - 96) * 8)) E && eqL (segM (jF F i) 24 14) (segM (jF F 0) 24 14)))
def pgE (E:List Int) (l:Nat):aG:=⟨l,E.getD ((l - 96) * 8) 0,E.getD ((l - 96) * 8+1) 0,E.getD ((l - 96) * 8+2) 0,E.getD ((l - 96) * 8+3) 0,E.getD ((l - 96) * 8+4) 0,E.getD ((l - 96) * 8+5) 0,E.getD ((l - 96) * 8+6) 0,E.getD ((l - 96) * 8+7) 0⟩
structure EqN (a b:aO) (lines:Nat):Prop where
 up:b.down=false
 page:∀ l,96≤l→l<lines→a.page l=b.page l∧a.get (l * 8) % 256=0
 clock:∀ c,c<6→a.get (32+c)=b.get (32+c)∧a.get (24+c)=b.get (24+c)
theorem Cw {n:aO} {lines:Nat} {E:List Int} (h:segM n 768 ((lines - 96) * 8)=E) {l:Nat} (h1:96≤l) (h2:l<lines):n.page l=pgE E l:=by
 have g:∀ k,k<8→n.get (l * 8+k)=E.getD ((l - 96) * 8+k) 0:=λk hk=>by
  rw [←h,←uY (by omega)]
  congr 1
  omega
 have g0:=g 0 (by omega)
 have g1:=g 1 (by omega)
 have g2:=g 2 (by omega)
 have g3:=g 3 (by omega)
 have g4:=g 4 (by omega)
 have g5:=g 5 (by omega)
 have g6:=g 6 (by omega)
 have g7:=g 7 (by omega)
 rw [Nat.add_zero,Nat.add_zero] at g0
 unfold aO.page pgE
 rw [g0,g1,g2,g3,g4,g5,g6,g7]
structure EqF (F:Fab) (n lines:Nat) (E:List Int):Prop where
 len:F.nodes.length=n
 lns:F.lines=lines
 page:∀ i,i<n→∀ l,96≤l→l<lines→(jF F i).page l=pgE E l
 eq:∀ i,i<n→EqN (jF F 0) (jF F i) lines
theorem Cx {F:Fab} {n lines:Nat} {E:List Int} (h:eqB F n lines E=true):EqF F n lines E:=by
 simp only [eqB,Bool.and_eq_true,List.all_eq_true,List.mem_range,decide_eq_true_eq,Bool.not_eq_true',beq_iff_eq] at h
 obtain ⟨⟨h1,h2⟩,h3,h4⟩:=h
 have hp:∀ i,i<n→∀ l,96≤l→l<lines→(jF F i).page l=pgE E l:=λi hi l h5 h6=>Cw (yv (h4 i hi).2.1) h5 h6
 refine ⟨h1,h2,hp,λi hi=>⟨(h4 i hi).1,λl h5 h6=>?_,λc hc=>?_⟩⟩
 ·have h0:=hp 0 (by omega) l h5 h6
  refine ⟨by rw [h0,hp i hi l h5 h6],?_⟩
  have e:(jF F 0).get (l * 8)=((jF F 0).page l).Head:=rfl
  rw [e,h0]
  exact h3 (l - 96) (by omega)
 ·have e:=yv (h4 i hi).2.2
  have g:∀ k,k<14→(jF F 0).get (24+k)=(jF F i).get (24+k):=λk hk=>by rw [uY hk,uY hk,e]
  have g1:=g (8+c) (by omega)
  rw [show 24+(8+c)=32+c by omega] at g1
  exact ⟨g1,g c (by omega)⟩
def bump (c:Int) (p:aG):aG:={ p with Head:=wY .u64 p.Head 255,Data0:=IntKind.u64.wrap (p.Data0+1),Data1:=IntKind.u64.wrap (IntKind.i64.wrap (c+1)) }
def cws (c:Int) (n:aO) (L:List Nat):List aG:=L.map λl=>bump c (n.page l)
end Go.Proofs.YtegepanmkjemjaaGreat.C12
namespace Go.Proofs.YtegepanmkjemjaaGreat
open Go.Eng
theorem TW.more {A:Nat→Prop} {χ:Nat→Tag} {w u u':World} {fb:Nat} {L B:Nat→Prop} {ξ:Nat→Tag} {X:FabX} (t:TW A χ w fb L u B ξ X) (hn:New u u'):TW A χ w fb (λk=>L k∨(u.heap.size≤k∧k<u'.heap.size)) u' B ξ X:=by
 have hs:=t.next.keep.size
 refine ⟨⟨t.next.keep.trans hn λk hlt hs=>hs.elim,t.next.grow,t.next.iff⟩,?_,λk hk=>?_⟩
 ·refine (t.fab.widen hn).recolor (λk hk=>?_) λk hk=>.inl ((t.next.iff k).2 (.inl hk))
  rcases hk with hk | hk | hk
  ·exact .inl (.inl hk)
  ·exact .inl (.inr hk)
  ·exact .inr hk
 ·rcases hk with hk | hk
  ·have:=t.loc k hk
   exact ⟨this.1,Nat.lt_of_lt_of_le this.2.1 hn.size,this.2.2⟩
  ·exact ⟨by omega,hk.2,t.fab.fresh hk.1⟩
theorem TW.less {A:Nat→Prop} {χ:Nat→Tag} {w u:World} {fb:Nat} {L L' B:Nat→Prop} {ξ:Nat→Tag} {X:FabX} (t:TW A χ w fb L u B ξ X) (hL:∀ k,L' k→L k):TW A χ w fb L' u B ξ X:=
 ⟨t.next,t.fab.recolor (λk hk=>hk.imp id (hL k)) λk hk=>.inl ((t.next.iff k).2 (.inl hk)),λk hk=>t.loc k (hL k hk)⟩
theorem TW.out {A:Nat→Prop} {χ:Nat→Tag} {w u:World} {fb:Nat} {L B:Nat→Prop} {ξ:Nat→Tag} {X:FabX} (t:TW A χ w fb L u B ξ X) {k:Nat} (hk:L k):¬ B k:=λhb=>by
 obtain ⟨h1,h2,h3⟩:=t.loc k hk
 rcases (t.next.iff k).1 hb with h | h
 ·exact h h3
 ·omega
theorem TW.mine {A:Nat→Prop} {χ:Nat→Tag} {w0 w u:World} {fb:Nat} {L B:Nat→Prop} {ξ:Nat→Tag} {X X0:FabX} (t:TW A χ w fb L u B ξ X) (hF:aV A χ w fb X0) (hn:New w0 w) (hA:∀ k,A k→w0.heap.size≤k):New w0 u:=
 hn.trans t.next.keep λk hk hc=>by
  have:=hA k (hF.avoid k hc)
  omega
theorem zU {A:Nat→Prop} {χ:Nat→Tag} {w:World} {fb:Nat} {X:FabX} (h:aV A χ w fb X) {c:Nat} {C:Comp} (hc:X.pure.clients[c]?=some C):Does 34 [ptr fb,.int .i64 c] w λv w'=>v=.int .i64 C.posted∧w'=w:=by
 refine does Tryz.func34 ?_
 rw [ptr,lx]
 have hx:∃ x,X.clients[c]?=some x∧x.pure=C:=by simpa [FabX.pure] using hc
 obtain ⟨x,h1,rfl⟩:=hx
 refine aF (eX h h1) ?_
 rintro v w' ⟨rfl,rfl⟩
 exact ⟨_,rfl,⟨_,h.ccell (k:=6) h1 rfl,rfl,rfl⟩⟩
abbrev TFo:TypeId:=40
def fofC (fb:Nat) (lines:Int) (r:aN):List Value:=[ptr fb,.int .i64 lines,.int .i64 r.Number,.slice r.Members r.Members_l r.Members_c]
def wP (n:Nat):Vw:=⟨0,stM n⟩
structure Made (w u:World) (n lines:Nat) (fb p:Nat) (A:Nat→Prop) (χ:Nat→Tag) (X:FabX) (r:aN):Prop where
 fab:aV A χ u fb X
 pure:X.pure=Fab.fresh n 6 lines
 new:New w u
 own:∀ k,A k→w.heap.size≤k
 box:Blk u p (fofC fb lines r) TFo
 out:¬ A p
 view:ViewAt A u r (wP n)
theorem BE {w:World} {n:Nat} (hn:1≤n∧n≤5) {x:Int} (hx:I64 x):Does 12 [.int .i64 n,.int .i64 x] w λv u=>∃ fb p A χ X r,v=.tuple #[ptr p,.bool true]∧Made w u n (98+(x % 7).toNat) fb p A χ X r:=by
 refine does Tryz.func12 ?_
 rw [m8]
 have e:(98+x % 7:Int)=((98+(x % 7).toNat:Nat):Int):=by omega
 refine aF (yd _ hx) ?_
 rintro v u1 ⟨rfl,rfl⟩
 rw [e]
 refine ⟨_,rfl,?_⟩
 refine aF (xW (c:=6) (lines:=98+(x % 7).toNat) hn (by omega) (by omega)) ?_
 rintro v u2 ⟨fb,A,χ,X,rfl,hF,hn2,hA,hX⟩
 refine ⟨_,_,rfl,?_⟩
 refine aF (yd _ hx) ?_
 rintro v u3 ⟨rfl,rfl⟩
 rw [e]
 refine ⟨_,rfl,?_⟩
 refine aF (ye _ (n:=n) (by omega) (by omega)) ?_
 rintro v u4 ⟨r,vw,rfl,hv,hn4,_,rfl⟩
 refine aN.mk_ex r ⟨rfl,?_⟩
 rintro b1 u5 hb1 hu5
 obtain ⟨hz5,hn5⟩:=aM hb1 hu5
 clear hu5
 have hs4:=hn4.size
 refine ⟨fb,b1,A,χ,X,r,rfl,(hF.new hn4).new hn5,hX,(hn2.new hn4).new hn5,hA,hz5,λh=>?_,?_⟩
 ·have:=hF.low _ h
  omega
 ·have h1:ViewAt A u4 r ⟨0,stM (n:Int).toNat⟩:=hv.mono λk _ hk=>hF.low k hk
  exact h1.new hn5
def zV (x q:Nat):Bool:=(x+1) / 2 ^ q % 2 == 1
def gO (x i:Nat):List Nat:=((List.range i).filter (zV x)).map (96+·)
def aT (x:Nat):List Nat:=gO x 4
def ns (l:List Nat):List Int:=l.map Int.ofNat
theorem pd (x i:Nat):gO x (i+1)=gO x i++(if zV x i=true then [96+i] else []):=by
 unfold gO
 rw [List.range_succ,List.filter_append,List.map_append]
 congr 1
 cases h:zV x i<;>simp [h]
theorem wQ:∀ x,x<14→∀ i,i<4→(band .i64 (bshr .i64 (((x+1:Nat):Int)) ((i:Nat):Int)) 1 == 1)=zV x i:=by decide
theorem wR {x l:Nat} (h:l ∈ aT x):96≤l∧l<100:=by
 simp only [aT,gO,List.mem_map,List.mem_filter,List.mem_range] at h
 obtain ⟨q,⟨h1,_⟩,rfl⟩:=h
 omega
theorem t9 (x i:Nat):(gO x i).length≤i:=by
 unfold gO
 rw [List.length_map]
 exact Nat.le_trans (List.length_filter_le _ _) (by simp)
theorem sL {w:World} {x:Int} (hx:I64 x):Does 22 [.int .i64 x] w λv u=>∃ a c,v=.slice a (aT (x % 14).toNat).length c∧Rd u a (is (ns (aT (x % 14).toNat)))∧New w u:=by
 refine does Tryz.func22 ?_
 rw [mD]
 obtain ⟨y,hy,hy14⟩:∃ y:Nat,x % 14=y∧y<14:=⟨(x % 14).toNat,by omega,by omega⟩
 refine aR mix (λm env u=>∃ (i:Nat) (a:Option Addr) (n c:Nat) (jj:List Value),m=4 - i∧i≤4∧n=(gO y i).length∧env=cL x a n c i jj∧New w u∧Owns u 3 1 a n c (is (ns (gO y i)))∧∀ k,isB a k→w.heap.size≤k) 4
  ⟨0,none,0,0,_,rfl,by omega,rfl,rfl,Keep.refl _ _,Owns.nil _ _ _,λk hk=>(lf hk).elim⟩ ?_
 rintro m env u ⟨i,a,n,c,jj,rfl,hi,rfl,rfl,hn,hown,hfr⟩
 rw [i0]
 refine aH (λhlt=>?_) (λhge=>?_)
 ·have hlt:i<4:=by omega
  refine aF (nv _ _ _ hx (by omega)) ?_
  rintro v u1 ⟨rfl,rfl⟩
  rw [if_neg (by omega),hy]
  refine ⟨_,rfl,?_⟩
  have hlen:=t9 y i
  have e1:IntKind.i64.wrap ((y:Int)+1)=((y+1:Nat):Int):=by rw [w64 (by omega) (by omega)];omega
  have e2:IntKind.u64.wrap (i:Int)=(i:Int):=rg (by omega) (by omega)
  rw [e1,e2,wQ y hy14 i hlt,w64 (x:=(i:Int)+1) (by omega) (by omega),w64 (x:=96+(i:Int)) (by omega) (by omega)]
  refine ⟨by omega,rf (λhb=>?_) (λhb=>?_)⟩
  ·refine Ba hown (x:=96+(i:Int)) (by omega) ?_
   intro b ap cap u3 hb3 ho3 hk3 hap
   have hsz:=hn.size
   have hs:=pd y i
   rw [if_pos hb] at hs
   refine ⟨4 - (i+1),by omega,i+1,ap,_,cap,_,rfl,by omega,by rw [hs,List.length_append];rfl,rfl,iL hn hk3 hfr,?_,λk hk=>?_⟩
   ·rw [hs]
    have:is (ns (gO y i++[96+i]))=is (ns (gO y i)++[96+(i:Int)]):=by simp [is,ns]
    rw [this]
    exact ho3
   ·rcases hap k hk with h1 | h1
    ·exact hfr k h1
    ·omega
  ·have hs:=pd y i
   rw [if_neg (by simp [hb]),List.append_nil] at hs
   exact ⟨4 - (i+1),by omega,i+1,a,_,c,_,rfl,by omega,by rw [hs],rfl,hn,by rw [hs];exact hown,hfr⟩
 ·have:i=4:=by omega
  subst this
  rw [j7]
  have e:(x % 14).toNat=y:=by omega
  rw [e]
  exact ⟨a,c,rfl,hown.rd,hn⟩
end Go.Proofs.YtegepanmkjemjaaGreat
namespace Go.Mx
open Go.Eng
def vK (sz:TypeId→Nat) (f:TypeId→Option (List Bool)):List Field→Nat→Option (List Bool)
 | [],off=>some []
 |fd::fs,off=>match f fd.type with
  |some ks=>match fd.name != "_" && (Nat.beq fd.offset off && Nat.beq (sz fd.type) ks.length) with
   |true=>match vK sz f fs (off+ks.length) with
    |some r=>some (ks++r)
    |none=>none
   |false=>none
  |none=>none
def rA (P:Program):Nat→TypeId→Option (List Bool)
 | 0,_=>none
 |d+1,t=>match P.underlying t with
  |some (.int _)=>some [false]
  |some .bool=>some [true]
  |some (.struct fs)=>match P.stoodInHeld t with
   |true=>none
   |false=>vK (uo P) (rA P d) fs.toList 0
  |some (.array len e)=>match rA P d e with
   |some ks=>match Nat.beq (uo P e) ks.length with
    |true=>some (List.replicate len ks).flatten
    |false=>none
   |none=>none
  | _=>none
def cmp1:Bool→Value→Value→Prop
 |false,.int k _,.int j _=>k=j
 |true,.bool _,.bool _=>True
 | _,_,_=>False
def pe:List Bool→List Value→List Value→Prop
 | [],[],[]=>True
 |k::ks,x::xs,y::ys=>cmp1 k x y∧pe ks xs ys
 | _,_,_=>False
def eqv1:Value→Value→Bool
 | .int _ a,.int _ b=>a == b
 | .bool a,.bool b=>a == b
 | _,_=>true
def eqvL:List Value→List Value→Bool
 |x::xs,y::ys=>eqv1 x y && eqvL xs ys
 | _,_=>true
theorem pe.len:∀ {ks:List Bool} {xs ys:List Value},pe ks xs ys→xs.length=ks.length∧ys.length=ks.length
 | [],[],[],_=>⟨rfl,rfl⟩
 | _::_,_::_,_::_,⟨_,h⟩=>by simp [pe.len h]
theorem pe.split:∀ {ks ls:List Bool} {xs ys:List Value},pe (ks++ls) xs ys→pe ks (xs.take ks.length) (ys.take ks.length)∧pe ls (xs.drop ks.length) (ys.drop ks.length)∧
  eqvL xs ys=(eqvL (xs.take ks.length) (ys.take ks.length) && eqvL (xs.drop ks.length) (ys.drop ks.length))
 | [],ls,xs,ys,h=>⟨trivial,h,rfl⟩
 |k::ks,ls,x::xs,y::ys,⟨a,h⟩=>by
  obtain ⟨h1,h2,h3⟩:=pe.split h
  refine ⟨⟨a,h1⟩,h2,?_⟩
  show (eqv1 x y && eqvL xs ys)=((eqv1 x y && eqvL (xs.take ks.length) (ys.take ks.length)) && eqvL (xs.drop ks.length) (ys.drop ks.length))
  rw [h3,Bool.and_assoc]
theorem yw {k:Bool}:∀ {xs ys:List Value},pe [k] xs ys→∃ x y,xs=[x]∧ys=[y]∧cmp1 k x y
 | [],[],h=>h.elim
 | [],_::_,h=>h.elim
 | _::_,[],h=>h.elim
 | [x],[y],h=>⟨x,y,rfl,rfl,h.1⟩
 | _::_::_,[_],h=>h.2.elim
 | [_],_::_::_,h=>h.2.elim
 | _::_::_,_::_::_,h=>h.2.elim
section
variable {P:Program}
def rB (P:Program) (t:TypeId) (xs:List Value):Value:=if isAgg? P t=true then .agg xs.toArray else xs.headD undef
theorem vL {t:TypeId} {i:TypeInfo} {dsc:TypeDesc} (hi:P.info? t=some i) (hd:P.underlying t=some dsc) {cs:List Value} {off n:Nat} (hn:i.size=n) (hl:off+n≤cs.length) (h1:isAgg? P t=false→n=1) (w:World) :
  (part t cs.toArray off).run P w=.ok (rB P t ((cs.drop off).take n)) w:=by
 unfold part rB
 rw [Sem.run_bind,iH hd]
 simp only [Result.andThen_ok]
 split
 ·simp only [Sem.run_bind,Eng.run_sizeOf hi,Result.andThen_ok,Sem.run_pure,hn]
  congr 2
  apply Array.ext'
  simp [List.extract]
 ·rename_i ha
  have hn1:=h1 (by simpa using ha)
  subst hn1
  have hlt:off<cs.length:=by omega
  have hx:(cs.drop off).take 1=[cs[off]]:=by
   rw [List.drop_eq_getElem_cons hlt]
   rfl
  have hg:cs.toArray[off]?=some cs[off]:=by simp [hlt]
  rw [hx]
  simp only [hg]
  rfl
theorem ub {d:Nat} {t:TypeId} {n:List Bool} (h:rA P d t=some n):∃ i dsc,P.info? t=some i∧P.underlying t=some dsc:=by
 cases d with
 |zero=>cases h
 |succ d=>
  unfold rA at h
  cases hu:P.underlying t with
  |none=>rw [hu] at h;cases h
  |some dsc=>
   cases hi:P.info? t with
   |some i=>exact ⟨i,dsc,rfl,rfl⟩
   |none=>simp [Program.underlying,hi] at hu
theorem qZ {d:Nat} {t:TypeId} {n:List Bool} (h:rA P d t=some n) (ha:isAgg? P t=false):n.length=1:=by
 cases d with
 |zero=>cases h
 |succ d=>
  unfold rA at h
  unfold isAgg? at ha
  split at h
  ·cases h;rfl
  ·cases h;rfl
  ·rename_i hu;rw [hu] at ha;cases ha
  ·rename_i hu;rw [hu] at ha;cases ha
  ·cases h
def EqOk (P:Program) (D:Nat) (t:TypeId) (ks:List Bool):Prop:=∀ xs ys:List Value,pe ks xs ys→∀ w,(Op.equalIn D t (rB P t xs) (rB P t ys)).run P w=.ok (eqvL xs ys) w
theorem yx {t:TypeId} {ks:List Bool} {D off:Nat} {xs ys:List Value} (hE:EqOk P D t ks) {i:TypeInfo} {dsc:TypeDesc} (hi:P.info? t=some i) (hd:P.underlying t=some dsc) (hn:i.size=ks.length) (h1:isAgg? P t=false→ks.length=1)
  (hc:pe ks ((xs.drop off).take ks.length) ((ys.drop off).take ks.length)) (w:World) {α:Type} (K:Bool→Sem α) :
  ((do K (← Op.equalIn D t (← part t xs.toArray off) (← part t ys.toArray off))):Sem α).run P w=(K (eqvL ((xs.drop off).take ks.length) ((ys.drop off).take ks.length))).run P w:=by
 obtain ⟨l1,l2⟩:=hc.len
 rw [List.length_take,List.length_drop] at l1 l2
 cases hk:ks.length with
 |zero=>
  have:i.size=0:=by omega
  cases ha:isAgg? P t with
  |false=>have:=h1 ha;omega
  |true=>
   have run0:∀ cs:List Value,(part t cs.toArray off).run P w=.ok (rB P t []) w:=by
    intro cs
    unfold part rB
    rw [Sem.run_bind,iH hd,ha]
    simp only [Result.andThen_ok,if_true,Sem.run_bind,Eng.run_sizeOf hi,Sem.run_pure,this]
    congr 2
    apply Array.ext'
    simp [List.extract]
   rw [hk] at hc
   simp only [Sem.run_bind,run0,Result.andThen_ok]
   rw [hE [] [] hc]
   rfl
 |succ n=>
  rw [←hk]
  simp only [Sem.run_bind,vL (cs:=xs) (off:=off) hi hd hn (by omega) h1 w,vL (cs:=ys) (off:=off) hi hd hn (by omega) h1 w,Result.andThen_ok]
  rw [hE _ _ hc]
  rfl
theorem ud {d D:Nat} (hE:∀ t ks,rA P d t=some ks→EqOk P D t ks) {xs ys:List Value}:∀ (fs:List Field) (off:Nat) (ks:List Bool),vK (uo P) (rA P d) fs off=some ks→pe ks (xs.drop off) (ys.drop off)→
  ∀ w,(Op.eqFields D xs.toArray ys.toArray fs).run P w=.ok (eqvL (xs.drop off) (ys.drop off)) w
 | [],off,ks,h,hc=>by
  cases h
  intro w
  have h0:=hc.len
  rw [List.eq_nil_of_length_eq_zero h0.1]
  simp [Op.eqFields,eqvL]
 |fd::fs,off,ks,h,hc=>by
  unfold vK at h
  split at h
  rotate_left
  ·cases h
  rename_i ks1 hm
  split at h
  rotate_left
  ·cases h
  rename_i hb
  split at h
  rotate_left
  ·cases h
  rename_i ks2 hr
  cases h
  simp only [Bool.and_eq_true,bne_iff_ne,ne_eq] at hb
  obtain ⟨hnm,ho,hs⟩:=hb
  have ho:fd.offset=off:=Nat.eq_of_beq_eq_true ho
  have hs:uo P fd.type=ks1.length:=Nat.eq_of_beq_eq_true hs
  obtain ⟨c1,c2,c3⟩:=hc.split
  rw [List.drop_drop,List.drop_drop] at c2 c3
  have ih:=ud hE fs (off+ks1.length) ks2 hr c2
  intro w
  obtain ⟨i,dsc,hi,hd⟩:=ub hm
  have hsz:i.size=ks1.length:=by unfold uo at hs;rw [hi] at hs;exact hs
  unfold Op.eqFields
  rw [if_pos (by simpa using hnm),ho]
  have:=yx (K:=λr=>if (!r)=true then pure false else Op.eqFields D xs.toArray ys.toArray fs) (hE _ _ hm) hi hd hsz (qZ hm) c1 w
  refine Eq.trans this ?_
  rw [c3]
  cases hq:eqvL ((xs.drop off).take ks1.length) ((ys.drop off).take ks1.length) with
  |false=>rfl
  |true=>
   simp only [Bool.not_true,Bool.false_eq_true,if_false,Bool.true_and]
   exact ih w
theorem vM {D:Nat} {e:TypeId} {ks:List Bool} (hE:EqOk P D e ks) {i:TypeInfo} {dsc:TypeDesc} (hi:P.info? e=some i) (hd:P.underlying e=some dsc) (hn:i.size=ks.length) (h1:isAgg? P e=false→ks.length=1) {xs ys:List Value} (w:World) :
  ∀ (l:List Nat) (a:Nat),l=List.range' a l.length→pe (List.replicate l.length ks).flatten (xs.drop (a * ks.length)) (ys.drop (a * ks.length))→
   (forIn l ((none,()):Option Bool×Unit) (λi _=>do
    let r ← Op.equalIn D e (← part e xs.toArray (i * ks.length)) (← part e ys.toArray (i * ks.length))
    if (!r)=true then pure (ForInStep.done (some false,())) else pure (ForInStep.yield (none,()))):Sem (Option Bool×Unit)).run P w=.ok ((if eqvL (xs.drop (a * ks.length)) (ys.drop (a * ks.length))=true then none else some false),()) w
 | [],a,_,hc=>by
  have h0:=hc.len
  rw [List.eq_nil_of_length_eq_zero h0.1]
  simp [eqvL]
 |j::l,a,hr,hc=>by
  rw [List.length_cons,List.range'_succ] at hr
  simp only [List.cons.injEq] at hr
  obtain ⟨rfl,hr⟩:=hr
  rw [List.length_cons,List.replicate_succ,List.flatten_cons] at hc
  obtain ⟨c1,c2,c3⟩:=hc.split
  rw [List.drop_drop,List.drop_drop,←Nat.succ_mul] at c2 c3
  rw [List.forIn_cons,Sem.run_bind]
  have:=yx (K:=λr=>if (!r)=true then (pure (ForInStep.done (some false,())):Sem (ForInStep (Option Bool×Unit))) else pure (ForInStep.yield (none,()))) hE hi hd hn h1 c1 w
  rw [this,c3]
  have ih:=vM hE hi hd hn h1 w l (j+1) hr c2
  cases hq:eqvL ((xs.drop (j * ks.length)).take ks.length) ((ys.drop (j * ks.length)).take ks.length) with
  |false=>rfl
  |true=>
   simp only [Bool.not_true,Bool.false_eq_true,if_false,Bool.true_and]
   exact ih
theorem yy:∀ (d:Nat) (t:TypeId) (ks:List Bool),rA P d t=some ks→∀ D,d≤D→EqOk P D t ks
 | 0,_,_,h=>by cases h
 |d+1,t,ks,h=>by
  intro D hD xs ys hc w
  obtain ⟨D,rfl⟩:∃ D',D=D'+1:=⟨D - 1,by omega⟩
  have hD':d≤D:=by omega
  unfold rA at h
  split at h
  ·rename_i k hu
   cases h
   have ha:isAgg? P t=false:=by unfold isAgg?;rw [hu]
   obtain ⟨x,y,rfl,rfl,hxy⟩:=yw hc
   unfold rB
   rw [ha]
   cases x<;>cases y<;>first | exact hxy.elim | skip
   have hk:_=_:=hxy
   subst hk
   refine (run_equalIn_int w D t _ k _ _ hu).trans ?_
   simp [eqvL,eqv1]
  ·rename_i hu
   cases h
   have ha:isAgg? P t=false:=by unfold isAgg?;rw [hu]
   obtain ⟨x,y,rfl,rfl,hxy⟩:=yw hc
   unfold rB
   rw [ha]
   cases x<;>cases y<;>first | exact hxy.elim | skip
   refine (run_equalIn_bool' w D t _ _ hu).trans ?_
   simp [eqvL,eqv1]
  ·rename_i fs hu
   split at h
   ·cases h
   rename_i hst
   have ha:isAgg? P t=true:=by unfold isAgg?;rw [hu]
   have hf:P.fieldsOf t=fs:=by unfold Program.fieldsOf;rw [hu]
   have:=ud (λt ks h=>yy d t ks h D hD') fs.toList 0 ks h hc w
   unfold rB
   rw [if_pos ha,if_pos ha,run_equalIn_struct w D t _ _ (by rw [hf];exact hu) hst,hf]
   exact this
  ·rename_i len e hu
   split at h
   rotate_left
   ·cases h
   rename_i ks1 hm
   split at h
   rotate_left
   ·cases h
   rename_i hs
   cases h
   have hs:uo P e=ks1.length:=Nat.eq_of_beq_eq_true hs
   obtain ⟨i,dsc,hi,hd⟩:=ub hm
   have hsz:i.size=ks1.length:=by unfold uo at hs;rw [hi] at hs;exact hs
   have ha:isAgg? P t=true:=by unfold isAgg?;rw [hu]
   have:=vM (yy d e ks1 hm D hD') hi hd hsz (qZ hm) (xs:=xs) (ys:=ys) w (List.range' 0 len) 0 (by simp) (by simpa using hc)
   unfold rB
   rw [if_pos ha,if_pos ha]
   simp only [Op.equalIn,Sem.run_bind,run_underlying hu,Result.andThen_ok,Eng.run_sizeOf hi,hsz]
   simp only [Nat.zero_mul,List.drop_zero] at this
   rw [Std.Legacy.Range.forIn_eq_forIn_range']
   simp only [Std.Legacy.Range.size,Nat.sub_zero,Nat.add_one_sub_one,Nat.div_one]
   rw [this]
   cases eqvL xs ys<;>rfl
  ·cases h
end
end Go.Mx
