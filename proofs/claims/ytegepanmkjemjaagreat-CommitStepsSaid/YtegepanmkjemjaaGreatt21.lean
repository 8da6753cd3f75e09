import Derived.Test.YtegepanmkjemjaaGreatt20
import Derived.Test.YtegepanmkjemjaaGreatProg
import Derived.Test.YtegepanmkjemjaaGreatt03
import Derived.Test.YtegepanmkjemjaaGreatt16
set_option linter.unusedVariables false
namespace Go.Proofs.YtegepanmkjemjaaGreat
open Go.Proofs.Tryz
open Go.Eng
abbrev TPg:TypeId:=55
def dF (l:List aD):List (List Value):=l.map aD.cells
def noP:aD:=⟨0,0,0,0,0,0,0,0,0⟩
def unl (h:Int):Bool:=band .u64 h 255 == 0
def oX (h:Int):Bool:=decide (1≤bshr .u64 h 8∧bshr .u64 h 8≤281474976710654)
def p6 (p:aD):Bool:=oX p.Head && unl p.Head
def ascP (l:List aD) (i:Nat):Bool:=decide (i=0) || decide ((l.getD (i - 1) noP).Line<(l.getD i noP).Line)
def mi (seq:Int) (W:List aD) (lines:Int):Int:=
 if ¬ (98≤lines∧lines≤256) then 18 else if seq<1∨1073741824≤seq∨W.length<1∨12<W.length then 1
 else if W.all (λp=>iU p.Line lines)=false then 2 else if (List.range W.length).all (λi=>ascP W i && p6 (W.getD i noP))=false then 1 else 0
theorem FF {h:Int} (h0:U64 h):0≤bshr .u64 h 8∧bshr .u64 h 8<18446744073709551615:=by
 have e:bshr .u64 h 8=h / 256:=by
  show Int.fdiv h 256=_
  rw [Int.fdiv_eq_ediv_of_nonneg _ (by decide)]
 have:=h0.1
 have:=h0.2
 omega
theorem D2 (w:World) (h:Int):Does 145 [.int .u64 h] w λv w'=>v=.bool (unl h)∧w'=w:=by
 refine does Tryz.func145 ?_
 rw [uf]
 exact ⟨rfl,rfl⟩
theorem Cx (w:World) (h:Int):Does 197 [.int .u64 h] w λv w'=>v=.tuple #[.int .u64 (bshr .u64 h 8),.int .i64 (IntKind.i64.wrap (band .u64 h 255))]∧w'=w:=by
 refine does Tryz.func197 ?_
 rw [rn]
 exact ⟨rfl,rfl⟩
theorem Hb {a b c:Int} {w:World} (h:b=c):∃ x,Value.tuple #[.int .u64 a,.int .i64 b]=.tuple #[.int .u64 x,.int .i64 c]∧w=w:=⟨a,by rw [h],rfl⟩
theorem FG (w:World) (h:Int):Does 177 [.int .u64 h] w λv w'=>∃ x,v=.tuple #[.int .u64 x,.int .i64 (if oX h=true then 0 else 2)]∧w'=w:=by
 refine does Tryz.func177 ?_
 rw [tP]
 refine aG (Cx w h) ?_
 rintro v w1 ⟨rfl,rfl⟩
 refine ⟨_,_,rfl,?_⟩
 refine aG (uU w1 _ 1 281474976710654) ?_
 rintro v w2 ⟨rfl,rfl⟩
 refine ⟨_,rfl,dV (λhf=>Hb ?_) (λht=>Hb ?_)⟩
 ·rw [if_neg (by unfold oX;rw [hf];simp)]
 ·rw [if_pos (by unfold oX;exact ht)]
structure vm (w:World) (a:Option Addr) (n:Nat) (W:List aD):Prop where
 rd:Rd w a (dF W).flatten
 len:n=W.length
 few:W.length≤1000000
 u64:∀ p ∈ W,U64 p.Head
theorem vm.new {w w':World} {a:Option Addr} {n:Nat} {W:List aD} (h:vm w a n W) (hn:New w w'):vm w' a n W:=⟨h.rd.new hn,h.len,h.few,h.u64⟩
theorem okLV:oz prog 176=true:=by kernel_rfl
theorem II (w:World) (p:aD) {c0:Nat} {lines:Int} (hc:w.cell? ⟨c0,0,none⟩=some (.int .i64 lines)):Does 176 [p.val,.pointer (some ⟨c0,0,none⟩)] w λv w'=>v=.bool (decide (p.Line<96) || decide (lines≤p.Line))∧New w w':=by
 refine does Tryz.func176 ?_
 rw [tE]
 rintro b1 w1 hb1 hw1
 obtain ⟨hz,hn⟩:=aO hb1 hw1
 have hz:Blk w1 b1 p.cells TPg:=hz
 clear hw1
 refine ⟨_,hz.cell (i:=0) rfl,aI (λh=>⟨?_,hn⟩) (λh=>⟨_,hz.cell (i:=0) rfl,_,fA hn hc id,?_,hn⟩)⟩
 ·rw [decide_eq_true h];rfl
 ·rw [decide_eq_false h];rfl
section
attribute [local irreducible] oz ql vH
theorem Cy {w:World} {a:Option Addr} {n c c0:Nat} {lines:Int} {W:List aD} (h:vm w a n W) (hc:w.cell? ⟨c0,0,none⟩=some (.int .i64 lines)) :
  Does 196 [.slice a n c,.func (.func 176) #[] #[.pointer (some ⟨c0,0,none⟩)]] w λv w'=>∃ z:Int,v=.int .i64 z∧(decide (z≥0)=W.any λp=>decide (p.Line<96) || decide (lines≤p.Line))∧New w w':=by
 have hl:=h.len
 subst hl
 have hfew:=h.few
 refine does Tryz.func196 ?_
 rw [hO]
 refine aR mix (λm env u=>∃ (i:Nat) (jj:List Value),m=W.length - i∧i≤W.length∧env=bO a W.length c (.func (.func 176) #[] #[.pointer (some ⟨c0,0,none⟩)]) W.length i jj∧New w u∧((W.take i).any λp=>decide (p.Line<96) || decide (lines≤p.Line))=false) W.length
  ⟨0,_,by omega,by omega,rfl,Keep.refl _ _,rfl⟩ ?_
 rintro m env u ⟨i,jj,rfl,hi,rfl,hn,hno⟩
 rw [fQ]
 refine aI (λhp=>?_) (λhp=>?_)
 ·have hlt:i<W.length:=by omega
  have hg:W[i]?=some W[i]:=List.getElem?_eq_getElem hlt
  refine gJ (cells:=aD.cells) aD.len (by omega) (h.rd.new hn) hg rfl rfl λb o hcc _=>aD.mk_ex W[i] ⟨hcc,?_⟩
  refine qg okLV (xs:=#[W[i].val,.pointer (some ⟨c0,0,none⟩)]) (by simp) ?_
  refine aG (II u W[i] (fA hn hc id)) ?_
  rintro v u1 ⟨rfl,hn1⟩
  refine ⟨_,rfl,jP (λhf=>⟨i,rfl,?_,hn.new hn1⟩) (λhf=>?_)⟩
  ·have h1:(W.any λp=>decide (p.Line<96) || decide (lines≤p.Line))=true:=List.any_eq_true.2 ⟨W[i],List.getElem_mem hlt,hf⟩
   rw [h1]
   simp
  ·rw [w64 (by omega) (by omega)]
   refine ⟨W.length - (i+1),by omega,i+1,_,rfl,by omega,rfl,hn.new hn1,?_⟩
   rw [List.take_add_one,hg,List.any_append,hno]
   simpa using hf
 ·rw [gC]
  have:W.take i=W:=List.take_of_length_le (by omega)
  rw [this] at hno
  exact ⟨-1,rfl,by rw [hno];decide,hn⟩
end
theorem yj {w:World} {a:Option Addr} {n c c0:Nat} {lines:Int} {W:List aD} (h:vm w a n W) (hc:w.cell? ⟨c0,0,none⟩=some (.int .i64 lines)) :
  Does 175 [.slice a n c,.func (.func 176) #[] #[.pointer (some ⟨c0,0,none⟩)]] w λv w'=>v=.bool (W.any λp=>decide (p.Line<96) || decide (lines≤p.Line))∧New w w':=by
 refine does Tryz.func175 ?_
 rw [gI]
 refine aG (Cy h hc) ?_
 rintro v w1 ⟨z,rfl,hz,hn⟩
 exact ⟨_,rfl,by rw [hz],hn⟩
theorem D3 {W:List aD} {lines:Int} (hl:98≤lines∧lines≤256):(W.any λp=>decide (p.Line<96) || decide (lines≤p.Line))=!(W.all λp=>iU p.Line lines):=by
 induction W with
 |nil=>rfl
 |cons p W ih=>
  rw [List.any_cons,List.all_cons,ih,Bool.not_and]
  congr 1
  unfold iU
  rw [Bool.eq_iff_iff]
  simp
  omega
theorem zk {n:Nat} {p q:Nat→Bool}:((List.range n).all λi=>p i && q i)=false↔(List.range n).all p=false∨(List.range n).all q=false:=by
 have:((List.range n).all λi=>p i && q i)=((List.range n).all p && (List.range n).all q):=by
  rw [Bool.eq_iff_iff]
  simp only [List.all_eq_true,Bool.and_eq_true]
  exact ⟨λh=>⟨λx hx=>(h x hx).1,λx hx=>(h x hx).2⟩,λh x hx=>⟨h.1 x hx,h.2 x hx⟩⟩
 rw [this,Bool.and_eq_false_iff]
set_option maxHeartbeats 1000000 in
theorem xh {w:World} {r:aT} {W:List aD} (h:vm w r.Writes r.Writes_l W) (lines:Int):Does 142 [r.val,.int .i64 lines] w λx w'=>x=.int .i64 (mi r.Seq W lines)∧New w w':=by
 refine does Tryz.func142 ?_
 rw [vl]
 rintro b1 w1 hb1 hw1
 obtain ⟨hz1,hn1⟩:=aO hb1 hw1
 have hz1:Blk w1 b1 r.cells 252:=hz1
 clear hw1
 rintro b2 w2 hb2 hw2
 obtain ⟨hz2,hn2⟩:=aO hb2 hw2
 have hz2:Blk w2 b2 [.int .i64 lines] 3:=hz2
 clear hw2
 have hz12:=New.blk hn2 hz1
 have hn:=hn1.new hn2
 have hlen:=h.len
 have hfew:=h.few
 refine ⟨_,hz2.cell (i:=0) rfl,?_⟩
 have hil:Does 174 [.int .i64 lines] w2 λv w'=>v=.bool (decide (98≤lines∧lines≤256))∧w'=w2:=by
  refine does Tryz.func174 ?_
  rw [tD]
  refine aI (λh=>⟨?_,rfl⟩) (λh=>⟨?_,rfl⟩)
  ·have h:98≤lines:=h;congr 1;simp [h]
  ·have h:¬ 98≤lines:=h;congr 1;simp [h]
 refine aG hil ?_
 rintro x w3 ⟨rfl,rfl⟩
 unfold mi
 refine ⟨_,rfl,dV (λhf=>?_) (λht=>?_)⟩
 ·rw [if_pos (by simpa using hf)];exact ⟨rfl,hn⟩
 have hl:98≤lines∧lines≤256:=by simpa using ht
 rw [if_neg (λe=>e hl)]
 refine ⟨_,hz12.cell (i:=0) rfl,aI (λhp=>?_) (λhp=>⟨_,hz12.cell (i:=0) rfl,aI (λhp2=>?_) (λhp2=>⟨_,_,_,hz12.cell (i:=1) rfl,aI (λhp3=>?_) (λhp3=>⟨_,_,_,hz12.cell (i:=1) rfl,aI (λhp4=>?_) (λhp4=>⟨_,_,_,hz12.cell (i:=1) rfl,?_⟩)⟩)⟩)⟩)⟩
 ·rw [if_pos (by omega)];exact ⟨rfl,hn⟩
 ·rw [if_pos (by omega)];exact ⟨rfl,hn⟩
 ·rw [if_pos (by omega)];exact ⟨rfl,hn⟩
 ·rw [if_pos (by omega)];exact ⟨rfl,hn⟩
 rw [if_neg (by omega)]
 refine aG (yj (h.new hn) (hz2.cell (i:=0) rfl)) ?_
 rintro x w4 ⟨rfl,hn4⟩
 rw [D3 hl]
 refine ⟨_,rfl,dV (λhf=>?_) (λht=>?_)⟩
 ·rw [if_pos hf];exact ⟨rfl,hn.new hn4⟩
 rw [if_neg (by rw [ht];simp)]
 have hz14:=New.blk hn4 hz12
 have hn04:=hn.new hn4
 refine ⟨_,_,_,hz14.cell (i:=1) rfl,?_⟩
 refine aR mix (λm env u=>∃ (i:Nat) (jj:List Value),m=W.length - i∧i≤W.length∧env=dX ⟨b1,0,none⟩ r.Writes r.Writes_l r.Writes_c r.Writes_l i jj∧New w4 u∧∀ k,k<i→ascP W k=true) W.length
  ⟨0,_,by omega,by omega,rfl,Keep.refl _ _,λk hk=>by omega⟩ ?_
 rintro m env u ⟨i,jj,rfl,hi,rfl,hnu,hok⟩
 rw [oK]
 refine aI (λhq=>?_) (λhq=>?_)
 ·have hlt:i<W.length:=by omega
  have hg:W[i]?=some W[i]:=List.getElem?_eq_getElem hlt
  have hgd:=pY (d:=noP) hg
  refine gJ (cells:=aD.cells) aD.len (by omega) (h.rd.new (hn04.new hnu)) hg rfl hlen λb o hc _=>aD.mk_ex W[i] ⟨hc,?_⟩
  refine ii (vs:=W[i].cells) rfl (aD.single _) λb3 u2 hb3 hz3 hn3=>?_
  rintro u3 hu3
  have hn3':New u2 u3:=by rw [hu3];exact aW _
  clear hu3
  have hz33:=New.blk hn3' hz3
  have hnu3:=(hnu.new hn3).new hn3'
  have go:ascP W i=true→∀ jj',∃ m',m'<W.length - i∧∃ (i':Nat) (jj:List Value),m'=W.length - i'∧i'≤W.length∧dX ⟨b1,0,none⟩ r.Writes r.Writes_l r.Writes_c r.Writes_l (IntKind.i64.wrap ((i:Int)+1)) jj'=dX ⟨b1,0,none⟩ r.Writes r.Writes_l r.Writes_c r.Writes_l i' jj∧New w4 u3∧∀ k,k<i'→ascP W k=true:=by
   intro ha jj'
   rw [w64 (by omega) (by omega)]
   refine ⟨W.length - (i+1),by omega,i+1,jj',rfl,by omega,rfl,hnu3,λk hk=>?_⟩
   rcases Nat.lt_succ_iff_lt_or_eq.1 hk with hk | rfl
   ·exact hok k hk
   ·exact ha
  refine ⟨λy=>New u3 y,Keep.refl _ _,aI (λh0=>⟨_,λy hy=>(New.blk hy hz33).cell (i:=0) rfl,_,_,_,λy hy=>(New.blk (hnu3.new hy) hz14).cell (i:=1) rfl,?_⟩) (λh0=>go (by unfold ascP;simp;omega) _)⟩
  have hg1:W[i - 1]?=some W[i - 1]:=List.getElem?_eq_getElem (by omega)
  have hgd1:=pY (d:=noP) hg1
  refine iI (cells:=aD.cells) aD.len (by omega) (h.rd.new (hn04.new hnu3)) hg1 (by rw [w64 (by omega) (by omega)];omega) hlen λb' o' hc'=>⟨_,λy hy=>hc' y hy 0 _ rfl,aI (λhp6=>?_) (λhp6=>go (by unfold ascP;rw [hgd,hgd1];simp;omega) _)⟩
  rw [if_pos (zk.2 (.inl (mX hlt (by unfold ascP;rw [hgd,hgd1];simp;omega))))]
  exact ⟨rfl,hn04.new hnu3⟩
 have hall:(List.range W.length).all (ascP W)=true:=by
  rw [List.all_eq_true]
  intro k hk
  exact hok k (by have:=List.mem_range.1 hk;omega)
 rw [qC]
 refine ⟨_,_,_,(New.blk hnu hz14).cell (i:=1) rfl,?_⟩
 clear hq hi hok
 refine aR mix (λm env z=>∃ (i:Nat) (jj:List Value),m=W.length - i∧i≤W.length∧env=hH r.Writes r.Writes_l r.Writes_c r.Writes_l i jj∧New u z∧∀ k,k<i→p6 (W.getD k noP)=true) W.length
  ⟨0,_,by omega,by omega,rfl,Keep.refl _ _,λk hk=>by omega⟩ ?_
 rintro m env z ⟨i,jj,rfl,hi,rfl,hnz,hok⟩
 have hn0z:=(hn04.new hnu).new hnz
 rw [oL]
 refine aI (λhq=>?_) (λhq=>?_)
 ·have hlt:i<W.length:=by omega
  have hg:W[i]?=some W[i]:=List.getElem?_eq_getElem hlt
  have hgd:=pY (d:=noP) hg
  have bad:p6 W[i]=false→(if ((List.range W.length).all λi=>ascP W i && p6 (W.getD i noP))=false then 1 else (0:Int))=1:=λe=>by
   rw [if_pos (zk.2 (.inr (mX hlt (by rw [hgd];exact e))))]
  refine gJ (cells:=aD.cells) aD.len (by omega) (h.rd.new hn0z) hg rfl hlen λb o hc _=>aD.mk_ex W[i] ⟨hc,?_⟩
  refine ii (vs:=W[i].cells) rfl (aD.single _) λb3 z2 hb3 hz3 hn3=>?_
  refine ⟨_,hz3.cell (i:=1) rfl,?_⟩
  refine aG (FG z2 W[i].Head) ?_
  rintro x z3 ⟨y,rfl,rfl⟩
  refine ⟨_,_,rfl,bY (λhne=>?_) (λhe=>⟨_,hz3.cell (i:=1) rfl,?_⟩)⟩
  ·rw [bad (by unfold p6;cases hnx:oX W[i].Head with
    |true=>rw [hnx] at hne;simp at hne
    |false=>rfl)]
   exact ⟨rfl,hn0z.new hn3⟩
  have hnx:oX W[i].Head=true:=by
   cases hnx:oX W[i].Head with
   |true=>rfl
   |false=>rw [hnx] at he;simp at he
  refine aG (D2 z3 W[i].Head) ?_
  rintro x z4 ⟨rfl,rfl⟩
  refine ⟨_,rfl,dV (λhf=>?_) (λht=>?_)⟩
  ·rw [bad (by unfold p6;rw [hf,Bool.and_false])]
   exact ⟨rfl,hn0z.new hn3⟩
  ·rw [w64 (by omega) (by omega)]
   refine ⟨W.length - (i+1),by omega,i+1,_,rfl,by omega,rfl,hnz.new hn3,λk hk=>?_⟩
   rcases Nat.lt_succ_iff_lt_or_eq.1 hk with hk | rfl
   ·exact hok k hk
   ·rw [hgd];unfold p6;rw [hnx,ht];rfl
 ·rw [qD]
  have hall2:(List.range W.length).all (λi=>p6 (W.getD i noP))=true:=by
   rw [List.all_eq_true]
   intro k hk
   exact hok k (by have:=List.mem_range.1 hk;omega)
  rw [if_neg (λe=>by
   rcases zk.1 e with e | e
   ·rw [hall] at e;cases e
   ·rw [hall2] at e;cases e)]
  exact ⟨rfl,hn0z⟩
end Go.Proofs.YtegepanmkjemjaaGreat
namespace Go.Proofs.YtegepanmkjemjaaGreat
open Go.Proofs.Tryz
open Go.Eng IntKind
variable (w:World) (R:Value→World→Prop)
def gD (s6:Addr) (s9:Option Addr) (a b:Nat) (c:Addr) (d:Int) (j:LV):LV:=[jg j 0,jg j 1,jg j 2,jg j 3,jg j 4,jg j 5,(.pointer (some s6)),jg j 6,jg j 7,(.slice s9 a b),jg j 8,(.pointer (some c)),(.int .i64 d),jg j 9,jg j 10,jg j 11,jg j 12,jg j 13,jg j 14,jg j 15,jg j 16,jg j 17,jg j 18,jg j 19,jg j 20,jg j 21,jg j 22,jg j 23,jg j 24,jg j 25,jg j 26,jg j 27,jg j 28,jg j 29,jg j 30,jg j 31,jg j 32,jg j 33,jg j 34,jg j 35,jg j 36,jg j 37,jg j 38,jg j 39,jg j 40,jg j 41,jg j 42,jg j 43,jg j 44,jg j 45,jg j 46,jg j 47]
def mj (a b:Addr) (j:LV):LV:=jq j 0 6 (.pointer (some a)::jq j 6 4 (.pointer (some b)::jq j 10 40 []))
theorem tF (p0:Nat) (p1 p2:Int):fnW prog f18 [.pointer (some ⟨p0,0,none⟩),.int .i64 p1,.int .i64 p2] R w=(∀ b1 w1,b1=w.heap.size→w1=w.alloc (.cells #[.int .i64 0,.int .u64 0,.int .u64 0,.int .u64 0,.int .u64 0,.int .u64 0,.int .u64 0,.int .u64 0,.int .u64 0] 55)→Calls prog 25 #[.pointer (some ⟨p0,0,none⟩),.int .i64 p1] w1 λe w2=>∃ (a:Option Addr),e=.returned (.pointer a)∧(bif (Option.isNone a) then (wrAt w2 ⟨b1,0,none⟩ 0 [.int .i64 0,.int .u64 0,.int .u64 0,.int .u64 0,.int .u64 0,.int .u64 0,.int .u64 0,.int .u64 0,.int .u64 0]∧∀ w3,w3=puts w2 ⟨b1,0,none⟩ 0 [.int .i64 0,.int .u64 0,.int .u64 0,.int .u64 0,.int .u64 0,.int .u64 0,.int .u64 0,.int .u64 0,.int .u64 0]→aD.ex λh=>aF w3 ⟨b1,0,none⟩ 0 h.cells∧w3=w3∧R (.tuple #[h.val,.bool false]) w3) else (Calls prog 41 #[.int .i64 p2] w2 λe w4=>∃ (b:Int),e=.returned (.int .i64 b)∧Calls prog 40 #[.pointer a,.int .i64 b,.int .i64 8] w4 λe w5=>∃ (c:Option Addr) (d f:Nat) (g:Int),e=.returned (.tuple #[.slice c d f,.int .i64 g])∧(bif ((g:Int) != 0) then (wrAt w5 ⟨b1,0,none⟩ 0 [.int .i64 0,.int .u64 0,.int .u64 0,.int .u64 0,.int .u64 0,.int .u64 0,.int .u64 0,.int .u64 0,.int .u64 0]∧∀ w6,w6=puts w5 ⟨b1,0,none⟩ 0 [.int .i64 0,.int .u64 0,.int .u64 0,.int .u64 0,.int .u64 0,.int .u64 0,.int .u64 0,.int .u64 0,.int .u64 0]→aD.ex λi=>aF w6 ⟨b1,0,none⟩ 0 i.cells∧w6=w6∧R (.tuple #[i.val,.bool false]) w6) else ((bif (((d:Nat):Int) != 8) then (wrAt w5 ⟨b1,0,none⟩ 0 [.int .i64 0,.int .u64 0,.int .u64 0,.int .u64 0,.int .u64 0,.int .u64 0,.int .u64 0,.int .u64 0,.int .u64 0]∧∀ w7,w7=puts w5 ⟨b1,0,none⟩ 0 [.int .i64 0,.int .u64 0,.int .u64 0,.int .u64 0,.int .u64 0,.int .u64 0,.int .u64 0,.int .u64 0,.int .u64 0]→aD.ex λk=>aF w7 ⟨b1,0,none⟩ 0 k.cells∧w7=w7∧R (.tuple #[k.val,.bool false]) w7) else (idxS c d 0 1 λad=>∃ x,w5.cell? ad=some (.int .u64 x)∧∀ b2 w8,b2=w5.heap.size→w8=w5.alloc (.cells #[.int .i64 0,.int .u64 0,.int .u64 0,.int .u64 0,.int .u64 0,.int .u64 0,.int .u64 0,.int .u64 0,.int .u64 0] 55)→wrAt w8 ⟨b2,0,none⟩ 0 [.int .i64 p2,.int .u64 x,.int .u64 0,.int .u64 0,.int .u64 0,.int .u64 0,.int .u64 0,.int .u64 0,.int .u64 0]∧∀ w9,w9=puts w8 ⟨b2,0,none⟩ 0 [.int .i64 p2,.int .u64 x,.int .u64 0,.int .u64 0,.int .u64 0,.int .u64 0,.int .u64 0,.int .u64 0,.int .u64 0]→bX prog (.loop (sub (aB f18) [1,1,1,1,1,1,0,1,0,0])) (gD ⟨b1,0,none⟩ c d f ⟨b2,0,none⟩ 0 (jp ⟨p0,0,none⟩::ji p1::ji p2::uq 3 (jb false::.pointer a::ji g::jp ⟨p0,0,none⟩::ji p1::.pointer a::.pointer a::jb (Option.isNone a)::undef::.tuple #[.slice c d f,.int .i64 g]::.pointer a::ji p2::ji b::.tuple #[.slice c d f,.int .i64 g]::js c d f::ji g::ji g::jb ((g:Int) != 0)::jb false::js c d f::jn d::jb (((d:Nat):Int) != 8)::jb (((d:Nat):Int) != 8)::undef::ji p2::js c d f::jp ad::ju x::.agg #[.int .i64 p2,.int .u64 x,.int .u64 0,.int .u64 0,.int .u64 0,.int .u64 0,.int .u64 0,.int .u64 0,.int .u64 0]::uq 13 []))) (aJ 0 (nx f18 [1,1,1,1,1,1,1] R)) w9))))))):=by kernel_rfl
theorem nf (s6:Addr) (s9:Option Addr) (a b:Nat) (c:Addr) (d:Int) (j:LV) (N1:LV→World→Prop):W prog (sub (aB f18) [1,1,1,1,1,1,0,1,0,0]) (gD s6 s9 a b c d j) (seqQ N1 (aJ 0 (nx f18 [1,1,1,1,1,1,1] R))) w=((bif (decide ((d:Int)<7)) then (idxS s9 a (i64.wrap (1+d)) 1 λad=>∃ x,w.cell? ad=some (.int .u64 x)∧idxA ⟨c.block,c.off+2,none⟩ 7 d 1 λf=>(∃ u,w.cell? f=some u)∧w.frozen? f=false∧∀ w1,w1=w.setCell f (.int .u64 x)→N1 (gD s6 s9 a b c (i64.wrap (d+1)) (jq j 0 35 [ji d,jb (decide ((d:Int)<7)),ji d,ji (i64.wrap (d+1)),ji d,js s9 a b,ji d,ji (i64.wrap (1+d)),jp ad,ju x,jf c 2,jp f,jg j 47])) w1) else (W prog (sub (aB f18) [1,1,1,1,1,1,1]) (mj s6 c (jq j 0 8 (js s9 a b::jg j 8::ji d::jq j 9 26 (ji d::jb (decide ((d:Int)<7))::jq j 37 11 [])))) (retQ prog f18 R) w))):=by kernel_rfl
theorem pj (a b:Addr) (j:LV):W prog (sub (aB f18) [1,1,1,1,1,1,1]) (mj a b j) (retQ prog f18 R) w=(aD.ex λr=>aF w b 0 r.cells∧wrAt w a 0 r.cells∧∀ w1,w1=puts w a 0 r.cells→aD.ex λc=>aF w1 a 0 c.cells∧w1=w1∧R (.tuple #[c.val,.bool true]) w1):=by kernel_rfl
theorem ry (p0:Int):fnW prog f20 [.int .i64 p0] R w=(Calls prog 42 #[.int .i64 p0] w λe w1=>∃ a,e=.returned (.bool a)∧(bif (!a) then (R (.int .i64 (-1)) w1) else (R (.int .i64 (i64.wrap (32+p0))) w1))):=by kernel_rfl
theorem qG (p0:Int):fnW prog f41 [.int .i64 p0] R w=((bif (decide ((p0:Int)<96)) then (R (.int .i64 (-1)) w) else ((bif (decide ((p0:Int)≥256)) then (R (.int .i64 (-1)) w) else (R (.int .i64 (i64.wrap (p0 * 8))) w))))):=by kernel_rfl
end Go.Proofs.YtegepanmkjemjaaGreat
namespace Go.Proofs.YtegepanmkjemjaaGreat
open Go.Eng
theorem D4 (w:World) {l:Int} (h1:96≤l) (h2:l<256):Does 41 [.int .i64 l] w λv w'=>v=.int .i64 (l * 8)∧w'=w:=by
 refine does Tryz.func41 ?_
 rw [qG]
 refine eC (by simp;omega) (eC (by simp;omega) ⟨?_,rfl⟩)
 rw [w64 (by omega) (by omega)]
def aP.page (n:aP) (l:Nat):aD:=⟨l,n.get (l * 8),n.get (l * 8+1),n.get (l * 8+2),n.get (l * 8+3),n.get (l * 8+4),n.get (l * 8+5),n.get (l * 8+6),n.get (l * 8+7)⟩
theorem D5 {n:aP} {at_ c q:Nat} (hq:q<c) (hl:at_+c≤n.words.length):(n.read at_ c)[q]?=some (n.get (at_+q)):=by
 unfold aP.read
 have hs:n.words[at_+q]?=some (n.get (at_+q)):=aP.get_some (by omega)
 rw [Int.toNat_natCast,Int.toNat_natCast,List.getElem?_take_of_lt hq,List.getElem?_drop,hs]
theorem D6 {n:aP} {l i:Nat} (hi:i<7):((n.page l).cells.take (2+i)++List.replicate (7 - i) (Value.int .u64 0)).set (2+i) (Value.int .u64 (n.get (l * 8+(1+i))))=(n.page l).cells.take (2+(i+1))++List.replicate (7 - (i+1)) (Value.int .u64 0):=by
 have h:i=0∨i=1∨i=2∨i=3∨i=4∨i=5∨i=6:=by omega
 rcases h with rfl | rfl | rfl | rfl | rfl | rfl | rfl<;>rfl
set_option maxRecDepth 20000 in
set_option maxHeartbeats 2000000 in
theorem zZ {A:Nat→Prop} {χ:Nat→Tag} {w:World} {fb:Nat} {X:FabX} (h:aZ A χ w fb X) {i:Nat} {x:ep} (hx:X.nodes[i]?=some x) {l:Nat} (hl:96≤l∧l<256) (hw:l * 8+8≤x.n.words.length) (hd:x.n.down=false) :
  Does 18 [ptr fb,.int .i64 i,.int .i64 l] w λv w'=>v=.tuple #[(x.n.page l).val,.bool true]∧New w w':=by
 refine does Tryz.func18 ?_
 rw [ptr,tF]
 rintro b1 w1 hb1 hw1
 obtain ⟨hz1,hn1⟩:=aO hb1 hw1
 have hz1:Blk w1 b1 (aD.cells ⟨0,0,0,0,0,0,0,0,0⟩) TPg:=hz1
 clear hw1
 have h1:=h.new hn1
 refine aG (nQ h1 hx) ?_
 rintro v u1 ⟨rfl,rfl⟩
 refine ⟨_,rfl,eC rfl ?_⟩
 refine aG (D4 _ (l:=(l:Int)) (by omega) (by omega)) ?_
 rintro v u2 ⟨rfl,rfl⟩
 refine ⟨_,rfl,?_⟩
 have hchk:x.n.chk ((l:Int) * 8) 8=0:=by
  unfold aP.chk
  rw [if_neg (by omega),if_neg (by simp [hd])]
 refine aG (xP (h1.node i x hx).node ((l:Int) * 8) 8) ?_
 rintro v u3 (⟨hc,_⟩ | ⟨_,a,cap,rfl,hn3,ho,ha⟩)
 ·exact absurd hchk hc
 have hg:∀ q,q<8→(x.n.read ((l:Int) * 8) 8)[q]?=some (x.n.get (l * 8+q)):=λq hq=>by
  have:=D5 (n:=x.n) (at_:=l * 8) (c:=8) hq (by omega)
  simpa using this
 have hlen:(x.n.read ((l:Int) * 8) 8).length=8:=aP.read_len hchk
 have hrd:=ho.rd
 obtain ⟨ba,oa,rfl⟩:∃ b o,a=⟨b,o,none⟩:=by
  rcases hrd with hr | ⟨b,o,he,_⟩
  ·have:=congrArg List.length hr
   simp [us,hlen] at this
  ·simp at he
   exact ⟨b,o,he⟩
 have hrc:∀ z,New u3 z→∀ q,q<8→z.cell? ⟨ba,oa+q,none⟩=some (.int .u64 (x.n.get (l * 8+q))):=λz hz q hq=>by
  rcases hrd.new hz with hr | ⟨b,o,he,hcell⟩
  ·have:=congrArg List.length hr
   simp [us,hlen] at this
  ·simp at he
   obtain ⟨rfl,rfl⟩:=he
   exact hcell q _ (by simp [us,hg q hq])
 have hs1:=hn1.size
 have hs3:=hn3.size
 have hl1:=hz1.lt
 refine ⟨_,_,_,_,rfl,eC rfl (eC rfl ?_)⟩
 refine bB (by omega) (by decide) ⟨_,by simpa using hrc u3 (Keep.refl _ _) 0 (by omega),?_⟩
 refine ii (vs:=aD.cells ⟨l,x.n.get (l * 8),0,0,0,0,0,0,0⟩) rfl (aD.single _) λb2 u4 hb2 hz2 hn4=>?_
 refine aR mix (λq env z=>∃ (i:Nat) (jj:List Value),q=7 - i∧i≤7∧env=gD ⟨b1,0,none⟩ (some ⟨ba,oa,none⟩) 8 cap ⟨b2,0,none⟩ i jj∧New u3 z∧Blk z b2 ((x.n.page l).cells.take (2+i)++List.replicate (7 - i) (.int .u64 0)) TPg) 7
  ⟨0,_,rfl,by omega,rfl,hn4,hz2⟩ ?_
 rintro q env z ⟨i,jj,rfl,hi,rfl,hnz,hbz⟩
 rw [nf]
 refine aI (λhlt=>?_) (λhge=>?_)
 ·have hlt':i<7:=by omega
  rw [w64 (x:=1+(i:Int)) (by omega) (by omega)]
  refine bB (by omega) (by omega) ⟨x.n.get (l * 8+(1+i)),?_,?_⟩
  ·have:=hrc z hnz (1+i) (by omega)
   simpa [show (1+(i:Int)).toNat=1+i by omega] using this
  refine eG (by omega) (by omega) ?_
  have e:0+2+(i:Int).toNat * 1=2+i:=by omega
  rw [e]
  refine mb hbz (by rw [List.length_append,List.length_take,List.length_replicate,aD.len];omega) λz2 hbz2 hk2=>?_
  rw [w64 (x:=(i:Int)+1) (by omega) (by omega)]
  rw [D6 hlt'] at hbz2
  exact ⟨7 - (i+1),by omega,i+1,_,rfl,by omega,rfl,hnz.trans hk2 λk hk e=>by have e2:k=b2:=e;omega,hbz2⟩
 ·have hi7:i=7:=by omega
  subst hi7
  rw [pj]
  have hbz:Blk z b2 (x.n.page l).cells TPg:=hbz
  have hz1z:Blk z b1 (aD.cells ⟨0,0,0,0,0,0,0,0,0⟩) TPg:=New.blk (hn3.new hnz) hz1
  refine aD.mk_ex (x.n.page l) ⟨aK hbz rfl,?_⟩
  refine g8 hz1z rfl (aD.single _) λz2 hb12 hk2=>?_
  refine aD.mk_ex (x.n.page l) ⟨aK hb12 rfl,rfl,rfl,?_⟩
  exact ((hn1.new hn3).new hnz).trans hk2 λk hk e=>by omega
end Go.Proofs.YtegepanmkjemjaaGreat
