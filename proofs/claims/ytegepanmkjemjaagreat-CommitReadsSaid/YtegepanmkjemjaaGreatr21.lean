import Derived.Test.YtegepanmkjemjaaGreatr20
import Derived.Test.YtegepanmkjemjaaGreatProg
import Derived.Test.YtegepanmkjemjaaGreatr03
import Derived.Test.YtegepanmkjemjaaGreatr16
set_option linter.unusedVariables false
namespace Go.Proofs.YtegepanmkjemjaaGreat
open Go.Proofs.Tryz
open Go.Eng
abbrev TPg:TypeId:=55
def kk (l:List aG):List (List Value):=l.map aG.cells
def noP:aG:=⟨0,0,0,0,0,0,0,0,0⟩
def unl (h:Int):Bool:=band .u64 h 255 == 0
def lD (h:Int):Bool:=decide (1≤bshr .u64 h 8∧bshr .u64 h 8≤281474976710654)
def mC (p:aG):Bool:=lD p.Head && unl p.Head
def ascP (l:List aG) (i:Nat):Bool:=decide (i=0) || decide ((l.getD (i - 1) noP).Line<(l.getD i noP).Line)
def jU (seq:Int) (W:List aG) (lines:Int):Int:=
 if ¬ (98≤lines∧lines≤256) then 18 else if seq<1∨1073741824≤seq∨W.length<1∨12<W.length then 1
 else if W.all (λp=>jT p.Line lines)=false then 2 else if (List.range W.length).all (λi=>ascP W i && mC (W.getD i noP))=false then 1 else 0
theorem Bb {h:Int} (h0:U64 h):0≤bshr .u64 h 8∧bshr .u64 h 8<18446744073709551615:=by
 have e:bshr .u64 h 8=h / 256:=by
  show Int.fdiv h 256=_
  rw [Int.fdiv_eq_ediv_of_nonneg _ (by decide)]
 have:=h0.1
 have:=h0.2
 omega
theorem zw (w:World) (h:Int):Does 145 [.int .u64 h] w λv w'=>v=.bool (unl h)∧w'=w:=by
 refine does Tryz.func145 ?_
 rw [p8]
 exact ⟨rfl,rfl⟩
theorem yf (w:World) (h:Int):Does 197 [.int .u64 h] w λv w'=>v=.tuple #[.int .u64 (bshr .u64 h 8),.int .i64 (IntKind.i64.wrap (band .u64 h 255))]∧w'=w:=by
 refine does Tryz.func197 ?_
 rw [nO]
 exact ⟨rfl,rfl⟩
theorem Ch {a b c:Int} {w:World} (h:b=c):∃ x,Value.tuple #[.int .u64 a,.int .i64 b]=.tuple #[.int .u64 x,.int .i64 c]∧w=w:=⟨a,by rw [h],rfl⟩
theorem Bc (w:World) (h:Int):Does 177 [.int .u64 h] w λv w'=>∃ x,v=.tuple #[.int .u64 x,.int .i64 (if lD h=true then 0 else 2)]∧w'=w:=by
 refine does Tryz.func177 ?_
 rw [pM]
 refine aF (yf w h) ?_
 rintro v w1 ⟨rfl,rfl⟩
 refine ⟨_,_,rfl,?_⟩
 refine aF (qF w1 _ 1 281474976710654) ?_
 rintro v w2 ⟨rfl,rfl⟩
 refine ⟨_,rfl,dD (λhf=>Ch ?_) (λht=>Ch ?_)⟩
 ·rw [if_neg (by unfold lD;rw [hf];simp)]
 ·rw [if_pos (by unfold lD;exact ht)]
structure qU (w:World) (a:Option Addr) (n:Nat) (W:List aG):Prop where
 rd:Rd w a (kk W).flatten
 len:n=W.length
 few:W.length≤1000000
 u64:∀ p ∈ W,U64 p.Head
theorem qU.new {w w':World} {a:Option Addr} {n:Nat} {W:List aG} (h:qU w a n W) (hn:New w w'):qU w' a n W:=⟨h.rd.new hn,h.len,h.few,h.u64⟩
theorem okLV:k7 prog 176=true:=by kernel_rfl
theorem C1 (w:World) (p:aG) {c0:Nat} {lines:Int} (hc:w.cell? ⟨c0,0,none⟩=some (.int .i64 lines)):Does 176 [p.val,.pointer (some ⟨c0,0,none⟩)] w λv w'=>v=.bool (decide (p.Line<96) || decide (lines≤p.Line))∧New w w':=by
 refine does Tryz.func176 ?_
 rw [pz]
 rintro b1 w1 hb1 hw1
 obtain ⟨hz,hn⟩:=aM hb1 hw1
 have hz:Blk w1 b1 p.cells TPg:=hz
 clear hw1
 refine ⟨_,hz.cell (i:=0) rfl,aH (λh=>⟨?_,hn⟩) (λh=>⟨_,hz.cell (i:=0) rfl,_,dY hn hc id,?_,hn⟩)⟩
 ·rw [decide_eq_true h];rfl
 ·rw [decide_eq_false h];rfl
section
attribute [local irreducible] k7 mR re
theorem yg {w:World} {a:Option Addr} {n c c0:Nat} {lines:Int} {W:List aG} (h:qU w a n W) (hc:w.cell? ⟨c0,0,none⟩=some (.int .i64 lines)) :
  Does 196 [.slice a n c,.func (.func 176) #[] #[.pointer (some ⟨c0,0,none⟩)]] w λv w'=>∃ z:Int,v=.int .i64 z∧(decide (z≥0)=W.any λp=>decide (p.Line<96) || decide (lines≤p.Line))∧New w w':=by
 have hl:=h.len
 subst hl
 have hfew:=h.few
 refine does Tryz.func196 ?_
 rw [fC]
 refine aR mix (λm env u=>∃ (i:Nat) (jj:List Value),m=W.length - i∧i≤W.length∧env=bG a W.length c (.func (.func 176) #[] #[.pointer (some ⟨c0,0,none⟩)]) W.length i jj∧New w u∧((W.take i).any λp=>decide (p.Line<96) || decide (lines≤p.Line))=false) W.length
  ⟨0,_,by omega,by omega,rfl,Keep.refl _ _,rfl⟩ ?_
 rintro m env u ⟨i,jj,rfl,hi,rfl,hn,hno⟩
 rw [eg]
 refine aH (λhp=>?_) (λhp=>?_)
 ·have hlt:i<W.length:=by omega
  have hg:W[i]?=some W[i]:=List.getElem?_eq_getElem hlt
  refine fD (cells:=aG.cells) aG.len (by omega) (h.rd.new hn) hg rfl rfl λb o hcc _=>aG.mk_ex W[i] ⟨hcc,?_⟩
  refine mJ okLV (xs:=#[W[i].val,.pointer (some ⟨c0,0,none⟩)]) (by simp) ?_
  refine aF (C1 u W[i] (dY hn hc id)) ?_
  rintro v u1 ⟨rfl,hn1⟩
  refine ⟨_,rfl,rf (λhf=>⟨i,rfl,?_,hn.new hn1⟩) (λhf=>?_)⟩
  ·have h1:(W.any λp=>decide (p.Line<96) || decide (lines≤p.Line))=true:=List.any_eq_true.2 ⟨W[i],List.getElem_mem hlt,hf⟩
   rw [h1]
   simp
  ·rw [w64 (by omega) (by omega)]
   refine ⟨W.length - (i+1),by omega,i+1,_,rfl,by omega,rfl,hn.new hn1,?_⟩
   rw [List.take_add_one,hg,List.any_append,hno]
   simpa using hf
 ·rw [eA]
  have:W.take i=W:=List.take_of_length_le (by omega)
  rw [this] at hno
  exact ⟨-1,rfl,by rw [hno];decide,hn⟩
end
theorem tL {w:World} {a:Option Addr} {n c c0:Nat} {lines:Int} {W:List aG} (h:qU w a n W) (hc:w.cell? ⟨c0,0,none⟩=some (.int .i64 lines)) :
  Does 175 [.slice a n c,.func (.func 176) #[] #[.pointer (some ⟨c0,0,none⟩)]] w λv w'=>v=.bool (W.any λp=>decide (p.Line<96) || decide (lines≤p.Line))∧New w w':=by
 refine does Tryz.func175 ?_
 rw [eJ]
 refine aF (yg h hc) ?_
 rintro v w1 ⟨z,rfl,hz,hn⟩
 exact ⟨_,rfl,by rw [hz],hn⟩
theorem zx {W:List aG} {lines:Int} (hl:98≤lines∧lines≤256):(W.any λp=>decide (p.Line<96) || decide (lines≤p.Line))=!(W.all λp=>jT p.Line lines):=by
 induction W with
 |nil=>rfl
 |cons p W ih=>
  rw [List.any_cons,List.all_cons,ih,Bool.not_and]
  congr 1
  unfold jT
  rw [Bool.eq_iff_iff]
  simp
  omega
theorem uR {n:Nat} {p q:Nat→Bool}:((List.range n).all λi=>p i && q i)=false↔(List.range n).all p=false∨(List.range n).all q=false:=by
 have:((List.range n).all λi=>p i && q i)=((List.range n).all p && (List.range n).all q):=by
  rw [Bool.eq_iff_iff]
  simp only [List.all_eq_true,Bool.and_eq_true]
  exact ⟨λh=>⟨λx hx=>(h x hx).1,λx hx=>(h x hx).2⟩,λh x hx=>⟨h.1 x hx,h.2 x hx⟩⟩
 rw [this,Bool.and_eq_false_iff]
set_option maxHeartbeats 1000000 in
theorem sG {w:World} {r:aQ} {W:List aG} (h:qU w r.Writes r.Writes_l W) (lines:Int):Does 142 [r.val,.int .i64 lines] w λx w'=>x=.int .i64 (jU r.Seq W lines)∧New w w':=by
 refine does Tryz.func142 ?_
 rw [qT]
 rintro b1 w1 hb1 hw1
 obtain ⟨hz1,hn1⟩:=aM hb1 hw1
 have hz1:Blk w1 b1 r.cells 252:=hz1
 clear hw1
 rintro b2 w2 hb2 hw2
 obtain ⟨hz2,hn2⟩:=aM hb2 hw2
 have hz2:Blk w2 b2 [.int .i64 lines] 3:=hz2
 clear hw2
 have hz12:=New.blk hn2 hz1
 have hn:=hn1.new hn2
 have hlen:=h.len
 have hfew:=h.few
 refine ⟨_,hz2.cell (i:=0) rfl,?_⟩
 have hil:Does 174 [.int .i64 lines] w2 λv w'=>v=.bool (decide (98≤lines∧lines≤256))∧w'=w2:=by
  refine does Tryz.func174 ?_
  rw [py]
  refine aH (λh=>⟨?_,rfl⟩) (λh=>⟨?_,rfl⟩)
  ·have h:98≤lines:=h;congr 1;simp [h]
  ·have h:¬ 98≤lines:=h;congr 1;simp [h]
 refine aF hil ?_
 rintro x w3 ⟨rfl,rfl⟩
 unfold jU
 refine ⟨_,rfl,dD (λhf=>?_) (λht=>?_)⟩
 ·rw [if_pos (by simpa using hf)];exact ⟨rfl,hn⟩
 have hl:98≤lines∧lines≤256:=by simpa using ht
 rw [if_neg (λe=>e hl)]
 refine ⟨_,hz12.cell (i:=0) rfl,aH (λhp=>?_) (λhp=>⟨_,hz12.cell (i:=0) rfl,aH (λhp2=>?_) (λhp2=>⟨_,_,_,hz12.cell (i:=1) rfl,aH (λhp3=>?_) (λhp3=>⟨_,_,_,hz12.cell (i:=1) rfl,aH (λhp4=>?_) (λhp4=>⟨_,_,_,hz12.cell (i:=1) rfl,?_⟩)⟩)⟩)⟩)⟩
 ·rw [if_pos (by omega)];exact ⟨rfl,hn⟩
 ·rw [if_pos (by omega)];exact ⟨rfl,hn⟩
 ·rw [if_pos (by omega)];exact ⟨rfl,hn⟩
 ·rw [if_pos (by omega)];exact ⟨rfl,hn⟩
 rw [if_neg (by omega)]
 refine aF (tL (h.new hn) (hz2.cell (i:=0) rfl)) ?_
 rintro x w4 ⟨rfl,hn4⟩
 rw [zx hl]
 refine ⟨_,rfl,dD (λhf=>?_) (λht=>?_)⟩
 ·rw [if_pos hf];exact ⟨rfl,hn.new hn4⟩
 rw [if_neg (by rw [ht];simp)]
 have hz14:=New.blk hn4 hz12
 have hn04:=hn.new hn4
 refine ⟨_,_,_,hz14.cell (i:=1) rfl,?_⟩
 refine aR mix (λm env u=>∃ (i:Nat) (jj:List Value),m=W.length - i∧i≤W.length∧env=cU ⟨b1,0,none⟩ r.Writes r.Writes_l r.Writes_c r.Writes_l i jj∧New w4 u∧∀ k,k<i→ascP W k=true) W.length
  ⟨0,_,by omega,by omega,rfl,Keep.refl _ _,λk hk=>by omega⟩ ?_
 rintro m env u ⟨i,jj,rfl,hi,rfl,hnu,hok⟩
 rw [lp]
 refine aH (λhq=>?_) (λhq=>?_)
 ·have hlt:i<W.length:=by omega
  have hg:W[i]?=some W[i]:=List.getElem?_eq_getElem hlt
  have hgd:=mA (d:=noP) hg
  refine fD (cells:=aG.cells) aG.len (by omega) (h.rd.new (hn04.new hnu)) hg rfl hlen λb o hc _=>aG.mk_ex W[i] ⟨hc,?_⟩
  refine gP (vs:=W[i].cells) rfl (aG.single _) λb3 u2 hb3 hz3 hn3=>?_
  rintro u3 hu3
  have hn3':New u2 u3:=by rw [hu3];exact aS _
  clear hu3
  have hz33:=New.blk hn3' hz3
  have hnu3:=(hnu.new hn3).new hn3'
  have go:ascP W i=true→∀ jj',∃ m',m'<W.length - i∧∃ (i':Nat) (jj:List Value),m'=W.length - i'∧i'≤W.length∧cU ⟨b1,0,none⟩ r.Writes r.Writes_l r.Writes_c r.Writes_l (IntKind.i64.wrap ((i:Int)+1)) jj'=cU ⟨b1,0,none⟩ r.Writes r.Writes_l r.Writes_c r.Writes_l i' jj∧New w4 u3∧∀ k,k<i'→ascP W k=true:=by
   intro ha jj'
   rw [w64 (by omega) (by omega)]
   refine ⟨W.length - (i+1),by omega,i+1,jj',rfl,by omega,rfl,hnu3,λk hk=>?_⟩
   rcases Nat.lt_succ_iff_lt_or_eq.1 hk with hk | rfl
   ·exact hok k hk
   ·exact ha
  refine ⟨λy=>New u3 y,Keep.refl _ _,aH (λh0=>⟨_,λy hy=>(New.blk hy hz33).cell (i:=0) rfl,_,_,_,λy hy=>(New.blk (hnu3.new hy) hz14).cell (i:=1) rfl,?_⟩) (λh0=>go (by unfold ascP;simp;omega) _)⟩
  have hg1:W[i - 1]?=some W[i - 1]:=List.getElem?_eq_getElem (by omega)
  have hgd1:=mA (d:=noP) hg1
  refine nG (cells:=aG.cells) aG.len (by omega) (h.rd.new (hn04.new hnu3)) hg1 (by rw [w64 (by omega) (by omega)];omega) hlen λb' o' hc'=>⟨_,λy hy=>hc' y hy 0 _ rfl,aH (λhp6=>?_) (λhp6=>go (by unfold ascP;rw [hgd,hgd1];simp;omega) _)⟩
  rw [if_pos (uR.2 (.inl (kj hlt (by unfold ascP;rw [hgd,hgd1];simp;omega))))]
  exact ⟨rfl,hn04.new hnu3⟩
 have hall:(List.range W.length).all (ascP W)=true:=by
  rw [List.all_eq_true]
  intro k hk
  exact hok k (by have:=List.mem_range.1 hk;omega)
 rw [m3]
 refine ⟨_,_,_,(New.blk hnu hz14).cell (i:=1) rfl,?_⟩
 clear hq hi hok
 refine aR mix (λm env z=>∃ (i:Nat) (jj:List Value),m=W.length - i∧i≤W.length∧env=fB r.Writes r.Writes_l r.Writes_c r.Writes_l i jj∧New u z∧∀ k,k<i→mC (W.getD k noP)=true) W.length
  ⟨0,_,by omega,by omega,rfl,Keep.refl _ _,λk hk=>by omega⟩ ?_
 rintro m env z ⟨i,jj,rfl,hi,rfl,hnz,hok⟩
 have hn0z:=(hn04.new hnu).new hnz
 rw [lq]
 refine aH (λhq=>?_) (λhq=>?_)
 ·have hlt:i<W.length:=by omega
  have hg:W[i]?=some W[i]:=List.getElem?_eq_getElem hlt
  have hgd:=mA (d:=noP) hg
  have bad:mC W[i]=false→(if ((List.range W.length).all λi=>ascP W i && mC (W.getD i noP))=false then 1 else (0:Int))=1:=λe=>by
   rw [if_pos (uR.2 (.inr (kj hlt (by rw [hgd];exact e))))]
  refine fD (cells:=aG.cells) aG.len (by omega) (h.rd.new hn0z) hg rfl hlen λb o hc _=>aG.mk_ex W[i] ⟨hc,?_⟩
  refine gP (vs:=W[i].cells) rfl (aG.single _) λb3 z2 hb3 hz3 hn3=>?_
  refine ⟨_,hz3.cell (i:=1) rfl,?_⟩
  refine aF (Bc z2 W[i].Head) ?_
  rintro x z3 ⟨y,rfl,rfl⟩
  refine ⟨_,_,rfl,cH (λhne=>?_) (λhe=>⟨_,hz3.cell (i:=1) rfl,?_⟩)⟩
  ·rw [bad (by unfold mC;cases hnx:lD W[i].Head with
    |true=>rw [hnx] at hne;simp at hne
    |false=>rfl)]
   exact ⟨rfl,hn0z.new hn3⟩
  have hnx:lD W[i].Head=true:=by
   cases hnx:lD W[i].Head with
   |true=>rfl
   |false=>rw [hnx] at he;simp at he
  refine aF (zw z3 W[i].Head) ?_
  rintro x z4 ⟨rfl,rfl⟩
  refine ⟨_,rfl,dD (λhf=>?_) (λht=>?_)⟩
  ·rw [bad (by unfold mC;rw [hf,Bool.and_false])]
   exact ⟨rfl,hn0z.new hn3⟩
  ·rw [w64 (by omega) (by omega)]
   refine ⟨W.length - (i+1),by omega,i+1,_,rfl,by omega,rfl,hnz.new hn3,λk hk=>?_⟩
   rcases Nat.lt_succ_iff_lt_or_eq.1 hk with hk | rfl
   ·exact hok k hk
   ·rw [hgd];unfold mC;rw [hnx,ht];rfl
 ·rw [m4]
  have hall2:(List.range W.length).all (λi=>mC (W.getD i noP))=true:=by
   rw [List.all_eq_true]
   intro k hk
   exact hok k (by have:=List.mem_range.1 hk;omega)
  rw [if_neg (λe=>by
   rcases uR.1 e with e | e
   ·rw [hall] at e;cases e
   ·rw [hall2] at e;cases e)]
  exact ⟨rfl,hn0z⟩
end Go.Proofs.YtegepanmkjemjaaGreat
namespace Go.Proofs.YtegepanmkjemjaaGreat
open Go.Proofs.Tryz
open Go.Eng IntKind
variable (w:World) (R:Value→World→Prop)
def eh (s0:Addr) (s1:Option Addr) (a b:Nat) (s2 s7:Int) (j:LV):LV:=[(.pointer (some s0)),(.slice s1 a b),(.int .i64 s2),jg j 0,jg j 1,jg j 2,jg j 3,(.int .i64 s7),jg j 4,jg j 5,jg j 6,jg j 7,jg j 8,jg j 9,jg j 10,jg j 11,jg j 12,jg j 13,jg j 14,jg j 15,jg j 16,jg j 17,jg j 18,jg j 19,jg j 20,jg j 21,jg j 22,jg j 23,jg j 24,jg j 25,jg j 26,jg j 27,jg j 28,jg j 29,jg j 30,jg j 31,jg j 32,jg j 33,jg j 34,jg j 35,jg j 36,jg j 37,jg j 38,jg j 39,jg j 40,jg j 41,jg j 42,jg j 43,jg j 44,jg j 45,jg j 46,jg j 47,jg j 48,jg j 49,jg j 50,jg j 51,jg j 52,jg j 53,jg j 54,jg j 55,jg j 56,jg j 57,jg j 58,jg j 59,jg j 60,jg j 61,jg j 62,jg j 63,jg j 64,jg j 65,jg j 66,jg j 67,jg j 68,jg j 69,jg j 70,jg j 71,jg j 72,jg j 73,jg j 74,jg j 75,jg j 76,jg j 77,jg j 78,jg j 79,jg j 80,jg j 81,jg j 82,jg j 83,jg j 84,jg j 85,jg j 86,jg j 87,jg j 88,jg j 89,jg j 90,jg j 91,jg j 92,jg j 93,jg j 94,jg j 95,jg j 96,jg j 97,jg j 98,jg j 99,jg j 100,jg j 101,jg j 102,jg j 103,jg j 104,jg j 105,jg j 106,jg j 107,jg j 108,jg j 109,jg j 110,jg j 111,jg j 112,jg j 113,jg j 114,jg j 115,jg j 116,jg j 117,jg j 118,jg j 119,jg j 120,jg j 121,jg j 122,jg j 123,jg j 124,jg j 125,jg j 126,jg j 127,jg j 128,jg j 129,jg j 130,jg j 131,jg j 132,jg j 133,jg j 134,jg j 135,jg j 136,jg j 137,jg j 138,jg j 139,jg j 140]
def jk  (j:LV):LV:=jq j 0 145 []
def ei (s0:Addr) (s1:Option Addr) (a b:Nat) (s2 s7 s8:Int) (j:LV):LV:=.pointer (some s0)::.slice s1 a b::.int .i64 s2::jq j 0 4 (.int .i64 s7::.int .i64 s8::jq j 4 136 [])
def jl (a:Addr) (s1:Option Addr) (b c:Nat) (s2 s7:Int) (j:LV):LV:=.pointer (some a)::.slice s1 b c::.int .i64 s2::jq j 0 4 (.int .i64 s7::jq j 4 137 [])
def ej (s0:Addr) (s1:Option Addr) (a b:Nat) (s2 s7 c:Int) (j:LV):LV:=.pointer (some s0)::.slice s1 a b::.int .i64 s2::jq j 0 4 (.int .i64 s7::jq j 4 5 (.int .i64 c::jq j 9 131 []))
def jm (a:Addr) (s1:Option Addr) (b c:Nat) (s2 s7:Int) (j:LV):LV:=.pointer (some a)::.slice s1 b c::.int .i64 s2::jq j 0 4 (.int .i64 s7::jq j 4 137 [])
theorem oX (p0:Nat) (p1:Option Addr) (a b:Nat) (p2:Int):fnW prog f17 [.pointer (some ⟨p0,0,none⟩),.slice p1 a b,.int .i64 p2] R w=(cA prog (.loop (sub (aE f17) [1,0,1,0,0])) (eh ⟨p0,0,none⟩ p1 a b p2 0 (uq 3 (jb false::uq 137 []))) (aI 0 (nx f17 [1,1] R)) w):=by kernel_rfl
theorem j4 (s0:Addr) (s1:Option Addr) (a b:Nat) (s2 s7:Int) (j:LV) (N1:LV→World→Prop):W prog (sub (aE f17) [1,0,1,0,0]) (eh s0 s1 a b s2 s7 j) (seqQ N1 (aI 0 (nx f17 [1,1] R))) w=((bif (decide ((s7:Int)<(a:Nat))) then (cA prog (.loop (sub (aE f17) [1,0,1,0,0,1,0,0,0,1,0,0])) (ei s0 s1 a b s2 s7 96 (jq j 0 4 (jq j 5 13 (ji s7::js s1 a b::jn a::jb (decide ((s7:Int)<(a:Nat)))::jq j 22 119 [])))) (aI 2 (seqQ (λenv w=>W prog (sub (aE f17) [1,0,1,0,0,1,0,0,1]) env (aI 1 (seqQ (λenv w=>W prog (sub (aE f17) [1,0,1,0,0,1,1]) env (seqQ N1 (aI 0 (nx f17 [1,1] R))) w) (seqQ N1 (aI 0 (nx f17 [1,1] R))))) w) (aI 1 (seqQ (λenv w=>W prog (sub (aE f17) [1,0,1,0,0,1,1]) env (seqQ N1 (aI 0 (nx f17 [1,1] R))) w) (seqQ N1 (aI 0 (nx f17 [1,1] R))))))) w) else (W prog (sub (aE f17) [1,1]) (jk  (jp s0::js s1 a b::ji s2::jq j 0 4 (ji s7::jq j 4 14 (ji s7::js s1 a b::jn a::jb (decide ((s7:Int)<(a:Nat)))::jq j 22 119 [])))) (retQ prog f17 R) w))):=by kernel_rfl
theorem lr  (j:LV):W prog (sub (aE f17) [1,1]) (jk  j) (retQ prog f17 R) w=(R (.bool true) w):=by kernel_rfl
set_option maxHeartbeats 4000000 in
theorem j5 (s0:Addr) (s1:Option Addr) (a b:Nat) (s2 s7 s8:Int) (j:LV) (N1:LV→World→Prop) (N2:LV→World→Prop):W prog (sub (aE f17) [1,0,1,0,0,1,0,0,0,1,0,0]) (ei s0 s1 a b s2 s7 s8 j) (seqQ N2 (aI 2 (seqQ (λenv w=>W prog (sub (aE f17) [1,0,1,0,0,1,0,0,1]) env (aI 1 (seqQ (λenv w=>W prog (sub (aE f17) [1,0,1,0,0,1,1]) env (seqQ N1 (aI 0 (nx f17 [1,1] R))) w) (seqQ N1 (aI 0 (nx f17 [1,1] R))))) w) (aI 1 (seqQ (λenv w=>W prog (sub (aE f17) [1,0,1,0,0,1,1]) env (seqQ N1 (aI 0 (nx f17 [1,1] R))) w) (seqQ N1 (aI 0 (nx f17 [1,1] R)))))))) w=((bif (decide ((s8:Int)<s2)) then (idxS s1 a 0 3 λad=>∃ c,w.cell? ad=some (.int .i64 c)∧Calls prog 18 #[.pointer (some s0),.int .i64 c,.int .i64 s8] w λe w1=>aG.ex λi=>∃ (d:Bool),e=.returned (.tuple #[i.val,.bool d])∧∀ b1 w2,b1=w1.heap.size→w2=w1.alloc (.cells #[.int .i64 0,.int .u64 0,.int .u64 0,.int .u64 0,.int .u64 0,.int .u64 0,.int .u64 0,.int .u64 0,.int .u64 0] 55)→wrAt w2 ⟨b1,0,none⟩ 0 i.cells∧∀ w3,w3=puts w2 ⟨b1,0,none⟩ 0 i.cells→idxS s1 a s7 3 λk=>∃ f,w3.cell? k=some (.int .i64 f)∧Calls prog 18 #[.pointer (some s0),.int .i64 f,.int .i64 s8] w3 λe w4=>aG.ex λl=>∃ (g:Bool),e=.returned (.tuple #[l.val,.bool g])∧∀ b2 w5,b2=w4.heap.size→w5=w4.alloc (.cells #[.int .i64 0,.int .u64 0,.int .u64 0,.int .u64 0,.int .u64 0,.int .u64 0,.int .u64 0,.int .u64 0,.int .u64 0] 55)→wrAt w5 ⟨b2,0,none⟩ 0 l.cells∧∀ w6,w6=puts w5 ⟨b2,0,none⟩ 0 l.cells→(bif (!d) then (R (.bool false) w6) else ((bif (!g) then (R (.bool false) w6) else (aG.ex λr=>aD w6 ⟨b1,0,none⟩ 0 r.cells∧aG.ex λr1=>aD w6 ⟨b2,0,none⟩ 0 r1.cells∧yO prog 55 r.val r1.val λ(eq:Bool)=>(bif (!eq) then (R (.bool false) w6) else (∃ h,w6.cell? ⟨b1,1,none⟩=some (.int .u64 h)∧(bif (((band .u64 h 255):Int) != 0) then (R (.bool false) w6) else (N2 (ei s0 s1 a b s2 s7 (i64.wrap (s8+1)) (jq j 0 4 (jp ⟨b1,0,none⟩::jb d::jp ⟨b2,0,none⟩::jb g::jq j 8 15 (ji s8::ji s2::jb (decide ((s8:Int)<s2))::ji s8::ji (i64.wrap (s8+1))::.tuple #[i.val,.bool d]::jp s0::js s1 a b::jp ad::jp ad::ji c::ji s8::.tuple #[i.val,.bool d]::i.val::jb d::.tuple #[l.val,.bool g]::jp s0::js s1 a b::ji s7::jp k::jp k::ji f::ji s8::.tuple #[l.val,.bool g]::l.val::jb g::jb d::jb (!d)::jb false::jb g::jb (!g)::jb (!g)::jb false::r.val::r1.val::jb (!eq)::jb (!eq)::jb false::jp ⟨b1,1,none⟩::ju h::ju (band .u64 h 255)::jb (((band .u64 h 255):Int) != 0)::jb (((band .u64 h 255):Int) != 0)::jq j 66 74 [])))) w6))))))))) else (W prog (sub (aE f17) [1,0,1,0,0,1,0,0,1]) (jl s0 s1 a b s2 s7 (jq j 0 4 (ji s8::jq j 4 19 (ji s8::ji s2::jb (decide ((s8:Int)<s2))::jq j 26 114 [])))) (aI 1 (seqQ (λenv w=>W prog (sub (aE f17) [1,0,1,0,0,1,1]) env (seqQ N1 (aI 0 (nx f17 [1,1] R))) w) (seqQ N1 (aI 0 (nx f17 [1,1] R))))) w))):=by kernel_rfl
theorem lu (a:Addr) (s1:Option Addr) (b c:Nat) (s2 s7:Int) (j:LV) (N1:LV→World→Prop):W prog (sub (aE f17) [1,0,1,0,0,1,0,0,1]) (jl a s1 b c s2 s7 j) (aI 1 (seqQ (λenv w=>W prog (sub (aE f17) [1,0,1,0,0,1,1]) env (seqQ N1 (aI 0 (nx f17 [1,1] R))) w) (seqQ N1 (aI 0 (nx f17 [1,1] R))))) w=(cA prog (.loop (sub (aE f17) [1,0,1,0,0,1,0,0,1,1,0,0])) (ej a s1 b c s2 s7 0 (jq j 0 9 (jq j 10 131 []))) (aI 4 (aI 1 (seqQ (λenv w=>W prog (sub (aE f17) [1,0,1,0,0,1,1]) env (seqQ N1 (aI 0 (nx f17 [1,1] R))) w) (seqQ N1 (aI 0 (nx f17 [1,1] R)))))) w):=by kernel_rfl
set_option maxHeartbeats 4000000 in
theorem j6 (s0:Addr) (s1:Option Addr) (a b:Nat) (s2 s7 c:Int) (j:LV) (N1:LV→World→Prop) (N3:LV→World→Prop):W prog (sub (aE f17) [1,0,1,0,0,1,0,0,1,1,0,0]) (ej s0 s1 a b s2 s7 c j) (seqQ N3 (aI 4 (aI 1 (seqQ (λenv w=>W prog (sub (aE f17) [1,0,1,0,0,1,1]) env (seqQ N1 (aI 0 (nx f17 [1,1] R))) w) (seqQ N1 (aI 0 (nx f17 [1,1] R))))))) w=((bif (decide ((c:Int)<6)) then (∀ w1,w1=w.drew→∃ Sx:World→Prop,Sx w1∧idxS s1 a 0 3 λad=>∃ d,(∀ u,Sx u→u.cell? ad=some (.int .i64 d))∧Calls prog 20 #[.int .i64 c] w1 λe w2=>∃ (f:Int),e=.returned (.int .i64 f)∧Sx w2∧Calls prog 19 #[.pointer (some s0),.int .i64 d,.int .i64 f] w2 λe w3=>∃ (g:Int) (h:Bool),e=.returned (.tuple #[.int .u64 g,.bool h])∧∀ w4,w4=w3.drew→∃ Sx1:World→Prop,Sx1 w4∧idxS s1 a s7 3 λx=>∃ i,(∀ u,Sx1 u→u.cell? x=some (.int .i64 i))∧Calls prog 20 #[.int .i64 c] w4 λe w5=>∃ (k:Int),e=.returned (.int .i64 k)∧Sx1 w5∧Calls prog 19 #[.pointer (some s0),.int .i64 i,.int .i64 k] w5 λe w6=>∃ (l:Int) (m:Bool),e=.returned (.tuple #[.int .u64 l,.bool m])∧∀ w7,w7=w6.drew→∃ Sx2:World→Prop,Sx2 w7∧idxS s1 a 0 3 λy=>∃ n,(∀ u,Sx2 u→u.cell? y=some (.int .i64 n))∧Calls prog 39 #[.int .i64 c] w7 λe w8=>∃ (o:Int),e=.returned (.int .i64 o)∧Sx2 w8∧Calls prog 19 #[.pointer (some s0),.int .i64 n,.int .i64 o] w8 λe w9=>∃ (p:Int) (q:Bool),e=.returned (.tuple #[.int .u64 p,.bool q])∧∀ z,z=w9.drew→∃ Sx3:World→Prop,Sx3 z∧idxS s1 a s7 3 λaa=>∃ r,(∀ u,Sx3 u→u.cell? aa=some (.int .i64 r))∧Calls prog 39 #[.int .i64 c] z λe ab=>∃ (s:Int),e=.returned (.int .i64 s)∧Sx3 ab∧Calls prog 19 #[.pointer (some s0),.int .i64 r,.int .i64 s] ab λe ac=>∃ (t:Int) (v:Bool),e=.returned (.tuple #[.int .u64 t,.bool v])∧(bif (!h) then (R (.bool false) ac) else ((bif (!m) then (R (.bool false) ac) else ((bif (!q) then (R (.bool false) ac) else ((bif (!v) then (R (.bool false) ac) else ((bif ((g:Int) != l) then (R (.bool false) ac) else ((bif ((p:Int) != t) then (R (.bool false) ac) else (N3 (ej s0 s1 a b s2 s7 (i64.wrap (c+1)) (jq j 0 9 (ju g::jb h::ju l::jb m::ju p::jb q::ju t::jb v::jq j 17 49 [ji c,jb (decide ((c:Int)<6)),ji c,ji (i64.wrap (c+1)),.tuple #[.int .u64 g,.bool h],jp s0,js s1 a b,jp ad,jp ad,ji d,ji c,ji f,.tuple #[.int .u64 g,.bool h],ju g,jb h,.tuple #[.int .u64 l,.bool m],jp s0,js s1 a b,ji s7,jp x,jp x,ji i,ji c,ji k,.tuple #[.int .u64 l,.bool m],ju l,jb m,.tuple #[.int .u64 p,.bool q],jp s0,js s1 a b,jp y,jp y,ji n,ji c,ji o,.tuple #[.int .u64 p,.bool q],ju p,jb q,.tuple #[.int .u64 t,.bool v],jp s0,js s1 a b,ji s7,jp aa,jp aa,ji r,ji c,ji s,.tuple #[.int .u64 t,.bool v],ju t,jb v,jb h,jb (!h),jb false,jb m,jb (!m),jb (!m),jb false,jb q,jb (!q),jb (!q),jb false,jb v,jb (!v),jb (!v),jb false,ju g,ju l,jb ((g:Int) != l),jb ((g:Int) != l),jb false,ju p,ju t,jb ((p:Int) != t),jb ((p:Int) != t)]))) ac))))))))))))) else (W prog (sub (aE f17) [1,0,1,0,0,1,1]) (jm s0 s1 a b s2 s7 (jq j 0 9 (ji c::jq j 9 57 (ji c::jb (decide ((c:Int)<6))::jq j 68 72 [])))) (seqQ N1 (aI 0 (nx f17 [1,1] R))) w))):=by kernel_rfl
theorem lv (a:Addr) (s1:Option Addr) (b c:Nat) (s2 s7:Int) (j:LV) (N1:LV→World→Prop):W prog (sub (aE f17) [1,0,1,0,0,1,1]) (jm a s1 b c s2 s7 j) (seqQ N1 (aI 0 (nx f17 [1,1] R))) w=(N1 (eh a s1 b c s2 (i64.wrap (s7+1)) (jq j 0 22 (ji s7::ji (i64.wrap (s7+1))::jq j 24 117 []))) w):=by kernel_rfl
def eB (s6:Addr) (s9:Option Addr) (a b:Nat) (c:Addr) (d:Int) (j:LV):LV:=jq j 0 6 (.pointer (some s6)::jq j 6 2 (.slice s9 a b::jq j 8 1 (.pointer (some c)::.int .i64 d::jq j 9 39 [])))
def jV (a b:Addr) (j:LV):LV:=jq j 0 6 (.pointer (some a)::jq j 6 4 (.pointer (some b)::jq j 10 40 []))
theorem pA (p0:Nat) (p1 p2:Int):fnW prog f18 [.pointer (some ⟨p0,0,none⟩),.int .i64 p1,.int .i64 p2] R w=(∀ b1 w1,b1=w.heap.size→w1=w.alloc (.cells #[.int .i64 0,.int .u64 0,.int .u64 0,.int .u64 0,.int .u64 0,.int .u64 0,.int .u64 0,.int .u64 0,.int .u64 0] 55)→Calls prog 25 #[.pointer (some ⟨p0,0,none⟩),.int .i64 p1] w1 λe w2=>∃ (a:Option Addr),e=.returned (.pointer a)∧(bif (Option.isNone a) then (wrAt w2 ⟨b1,0,none⟩ 0 [.int .i64 0,.int .u64 0,.int .u64 0,.int .u64 0,.int .u64 0,.int .u64 0,.int .u64 0,.int .u64 0,.int .u64 0]∧∀ w3,w3=puts w2 ⟨b1,0,none⟩ 0 [.int .i64 0,.int .u64 0,.int .u64 0,.int .u64 0,.int .u64 0,.int .u64 0,.int .u64 0,.int .u64 0,.int .u64 0]→aG.ex λh=>aD w3 ⟨b1,0,none⟩ 0 h.cells∧w3=w3∧R (.tuple #[h.val,.bool false]) w3) else (Calls prog 41 #[.int .i64 p2] w2 λe w4=>∃ (b:Int),e=.returned (.int .i64 b)∧Calls prog 40 #[.pointer a,.int .i64 b,.int .i64 8] w4 λe w5=>∃ (c:Option Addr) (d f:Nat) (g:Int),e=.returned (.tuple #[.slice c d f,.int .i64 g])∧(bif ((g:Int) != 0) then (wrAt w5 ⟨b1,0,none⟩ 0 [.int .i64 0,.int .u64 0,.int .u64 0,.int .u64 0,.int .u64 0,.int .u64 0,.int .u64 0,.int .u64 0,.int .u64 0]∧∀ w6,w6=puts w5 ⟨b1,0,none⟩ 0 [.int .i64 0,.int .u64 0,.int .u64 0,.int .u64 0,.int .u64 0,.int .u64 0,.int .u64 0,.int .u64 0,.int .u64 0]→aG.ex λi=>aD w6 ⟨b1,0,none⟩ 0 i.cells∧w6=w6∧R (.tuple #[i.val,.bool false]) w6) else ((bif (((d:Nat):Int) != 8) then (wrAt w5 ⟨b1,0,none⟩ 0 [.int .i64 0,.int .u64 0,.int .u64 0,.int .u64 0,.int .u64 0,.int .u64 0,.int .u64 0,.int .u64 0,.int .u64 0]∧∀ w7,w7=puts w5 ⟨b1,0,none⟩ 0 [.int .i64 0,.int .u64 0,.int .u64 0,.int .u64 0,.int .u64 0,.int .u64 0,.int .u64 0,.int .u64 0,.int .u64 0]→aG.ex λk=>aD w7 ⟨b1,0,none⟩ 0 k.cells∧w7=w7∧R (.tuple #[k.val,.bool false]) w7) else (idxS c d 0 1 λad=>∃ x,w5.cell? ad=some (.int .u64 x)∧∀ b2 w8,b2=w5.heap.size→w8=w5.alloc (.cells #[.int .i64 0,.int .u64 0,.int .u64 0,.int .u64 0,.int .u64 0,.int .u64 0,.int .u64 0,.int .u64 0,.int .u64 0] 55)→wrAt w8 ⟨b2,0,none⟩ 0 [.int .i64 p2,.int .u64 x,.int .u64 0,.int .u64 0,.int .u64 0,.int .u64 0,.int .u64 0,.int .u64 0,.int .u64 0]∧∀ w9,w9=puts w8 ⟨b2,0,none⟩ 0 [.int .i64 p2,.int .u64 x,.int .u64 0,.int .u64 0,.int .u64 0,.int .u64 0,.int .u64 0,.int .u64 0,.int .u64 0]→cA prog (.loop (sub (aE f18) [1,1,1,1,1,1,0,1,0,0])) (eB ⟨b1,0,none⟩ c d f ⟨b2,0,none⟩ 0 (jp ⟨p0,0,none⟩::ji p1::ji p2::uq 3 (jb false::.pointer a::ji g::jp ⟨p0,0,none⟩::ji p1::.pointer a::.pointer a::jb (Option.isNone a)::undef::.tuple #[.slice c d f,.int .i64 g]::.pointer a::ji p2::ji b::.tuple #[.slice c d f,.int .i64 g]::js c d f::ji g::ji g::jb ((g:Int) != 0)::jb false::js c d f::jn d::jb (((d:Nat):Int) != 8)::jb (((d:Nat):Int) != 8)::undef::ji p2::js c d f::jp ad::ju x::.agg #[.int .i64 p2,.int .u64 x,.int .u64 0,.int .u64 0,.int .u64 0,.int .u64 0,.int .u64 0,.int .u64 0,.int .u64 0]::uq 13 []))) (aI 0 (nx f18 [1,1,1,1,1,1,1] R)) w9))))))):=by kernel_rfl
theorem kx (s6:Addr) (s9:Option Addr) (a b:Nat) (c:Addr) (d:Int) (j:LV) (N1:LV→World→Prop):W prog (sub (aE f18) [1,1,1,1,1,1,0,1,0,0]) (eB s6 s9 a b c d j) (seqQ N1 (aI 0 (nx f18 [1,1,1,1,1,1,1] R))) w=((bif (decide ((d:Int)<7)) then (idxS s9 a (i64.wrap (1+d)) 1 λad=>∃ x,w.cell? ad=some (.int .u64 x)∧idxA ⟨c.block,c.off+2,none⟩ 7 d 1 λf=>(∃ u,w.cell? f=some u)∧w.frozen? f=false∧∀ w1,w1=w.setCell f (.int .u64 x)→N1 (eB s6 s9 a b c (i64.wrap (d+1)) (jq j 0 35 [ji d,jb (decide ((d:Int)<7)),ji d,ji (i64.wrap (d+1)),ji d,js s9 a b,ji d,ji (i64.wrap (1+d)),jp ad,ju x,jf c 2,jp f,jg j 47])) w1) else (W prog (sub (aE f18) [1,1,1,1,1,1,1]) (jV s6 c (jq j 0 8 (js s9 a b::jg j 8::ji d::jq j 9 26 (ji d::jb (decide ((d:Int)<7))::jq j 37 11 [])))) (retQ prog f18 R) w))):=by kernel_rfl
theorem lP (a b:Addr) (j:LV):W prog (sub (aE f18) [1,1,1,1,1,1,1]) (jV a b j) (retQ prog f18 R) w=(aG.ex λr=>aD w b 0 r.cells∧wrAt w a 0 r.cells∧∀ w1,w1=puts w a 0 r.cells→aG.ex λc=>aD w1 a 0 c.cells∧w1=w1∧R (.tuple #[c.val,.bool true]) w1):=by kernel_rfl
theorem nV (p0:Int):fnW prog f20 [.int .i64 p0] R w=(Calls prog 42 #[.int .i64 p0] w λe w1=>∃ a,e=.returned (.bool a)∧(bif (!a) then (R (.int .i64 (-1)) w1) else (R (.int .i64 (i64.wrap (32+p0))) w1))):=by kernel_rfl
theorem oY (p0:Int):fnW prog f39 [.int .i64 p0] R w=(Calls prog 42 #[.int .i64 p0] w λe w1=>∃ a,e=.returned (.bool a)∧(bif (!a) then (R (.int .i64 (-1)) w1) else (R (.int .i64 (i64.wrap (24+p0))) w1))):=by kernel_rfl
theorem m7 (p0:Int):fnW prog f41 [.int .i64 p0] R w=((bif (decide ((p0:Int)<96)) then (R (.int .i64 (-1)) w) else ((bif (decide ((p0:Int)≥256)) then (R (.int .i64 (-1)) w) else (R (.int .i64 (i64.wrap (p0 * 8))) w))))):=by kernel_rfl
end Go.Proofs.YtegepanmkjemjaaGreat
namespace Go.Proofs.YtegepanmkjemjaaGreat
open Go.Eng
theorem zy (w:World) {l:Int} (h1:96≤l) (h2:l<256):Does 41 [.int .i64 l] w λv w'=>v=.int .i64 (l * 8)∧w'=w:=by
 refine does Tryz.func41 ?_
 rw [m7]
 refine dE (by simp;omega) (dE (by simp;omega) ⟨?_,rfl⟩)
 rw [w64 (by omega) (by omega)]
def aO.page (n:aO) (l:Nat):aG:=⟨l,n.get (l * 8),n.get (l * 8+1),n.get (l * 8+2),n.get (l * 8+3),n.get (l * 8+4),n.get (l * 8+5),n.get (l * 8+6),n.get (l * 8+7)⟩
theorem zz {n:aO} {at_ c q:Nat} (hq:q<c) (hl:at_+c≤n.words.length):(n.read at_ c)[q]?=some (n.get (at_+q)):=by
 unfold aO.read
 have hs:n.words[at_+q]?=some (n.get (at_+q)):=aO.get_some (by omega)
 rw [Int.toNat_natCast,Int.toNat_natCast,List.getElem?_take_of_lt hq,List.getElem?_drop,hs]
theorem zB {n:aO} {l i:Nat} (hi:i<7):((n.page l).cells.take (2+i)++List.replicate (7 - i) (Value.int .u64 0)).set (2+i) (Value.int .u64 (n.get (l * 8+(1+i))))=(n.page l).cells.take (2+(i+1))++List.replicate (7 - (i+1)) (Value.int .u64 0):=by
 have h:i=0∨i=1∨i=2∨i=3∨i=4∨i=5∨i=6:=by omega
 rcases h with rfl | rfl | rfl | rfl | rfl | rfl | rfl<;>rfl
set_option maxRecDepth 20000 in
set_option maxHeartbeats 2000000 in
theorem tM {A:Nat→Prop} {χ:Nat→Tag} {w:World} {fb:Nat} {X:FabX} (h:aV A χ w fb X) {i:Nat} {x:iW} (hx:X.nodes[i]?=some x) {l:Nat} (hl:96≤l∧l<256) (hw:l * 8+8≤x.n.words.length) (hd:x.n.down=false) :
  Does 18 [ptr fb,.int .i64 i,.int .i64 l] w λv w'=>v=.tuple #[(x.n.page l).val,.bool true]∧New w w':=by
 refine does Tryz.func18 ?_
 rw [ptr,pA]
 rintro b1 w1 hb1 hw1
 obtain ⟨hz1,hn1⟩:=aM hb1 hw1
 have hz1:Blk w1 b1 (aG.cells ⟨0,0,0,0,0,0,0,0,0⟩) TPg:=hz1
 clear hw1
 have h1:=h.new hn1
 refine aF (mq h1 hx) ?_
 rintro v u1 ⟨rfl,rfl⟩
 refine ⟨_,rfl,dE rfl ?_⟩
 refine aF (zy _ (l:=(l:Int)) (by omega) (by omega)) ?_
 rintro v u2 ⟨rfl,rfl⟩
 refine ⟨_,rfl,?_⟩
 have hchk:x.n.chk ((l:Int) * 8) 8=0:=by
  unfold aO.chk
  rw [if_neg (by omega),if_neg (by simp [hd])]
 refine aF (vr (h1.node i x hx).node ((l:Int) * 8) 8) ?_
 rintro v u3 (⟨hc,_⟩ | ⟨_,a,cap,rfl,hn3,ho,ha⟩)
 ·exact absurd hchk hc
 have hg:∀ q,q<8→(x.n.read ((l:Int) * 8) 8)[q]?=some (x.n.get (l * 8+q)):=λq hq=>by
  have:=zz (n:=x.n) (at_:=l * 8) (c:=8) hq (by omega)
  simpa using this
 have hlen:(x.n.read ((l:Int) * 8) 8).length=8:=aO.read_len hchk
 have hrd:=ho.rd
 obtain ⟨ba,oa,rfl⟩:∃ b o,a=⟨b,o,none⟩:=by
  rcases hrd with hr | ⟨b,o,he,_⟩
  ·have:=congrArg List.length hr
   simp [us,hlen] at this
  ·simp at he
   exact ⟨b,o,he⟩
 have hrc:∀ z,New u3 z→∀ q,q<8→z.cell? ⟨ba,oa+q,none⟩=some (.int .u64 (x.n.get (l * 8+q))):=λz hz q hq=>by
  rcases hrd.new hz with hr | ⟨b,o,he,hcell⟩
  ·have:=congrArg List.length hr
   simp [us,hlen] at this
  ·simp at he
   obtain ⟨rfl,rfl⟩:=he
   exact hcell q _ (by simp [us,hg q hq])
 have hs1:=hn1.size
 have hs3:=hn3.size
 have hl1:=hz1.lt
 refine ⟨_,_,_,_,rfl,dE rfl (dE rfl ?_)⟩
 refine aY (by omega) (by decide) ⟨_,by simpa using hrc u3 (Keep.refl _ _) 0 (by omega),?_⟩
 refine gP (vs:=aG.cells ⟨l,x.n.get (l * 8),0,0,0,0,0,0,0⟩) rfl (aG.single _) λb2 u4 hb2 hz2 hn4=>?_
 refine aR mix (λq env z=>∃ (i:Nat) (jj:List Value),q=7 - i∧i≤7∧env=eB ⟨b1,0,none⟩ (some ⟨ba,oa,none⟩) 8 cap ⟨b2,0,none⟩ i jj∧New u3 z∧Blk z b2 ((x.n.page l).cells.take (2+i)++List.replicate (7 - i) (.int .u64 0)) TPg) 7
  ⟨0,_,rfl,by omega,rfl,hn4,hz2⟩ ?_
 rintro q env z ⟨i,jj,rfl,hi,rfl,hnz,hbz⟩
 rw [kx]
 refine aH (λhlt=>?_) (λhge=>?_)
 ·have hlt':i<7:=by omega
  rw [w64 (x:=1+(i:Int)) (by omega) (by omega)]
  refine aY (by omega) (by omega) ⟨x.n.get (l * 8+(1+i)),?_,?_⟩
  ·have:=hrc z hnz (1+i) (by omega)
   simpa [show (1+(i:Int)).toNat=1+i by omega] using this
  refine kp (by omega) (by omega) ?_
  have e:0+2+(i:Int).toNat * 1=2+i:=by omega
  rw [e]
  refine lY hbz (by rw [List.length_append,List.length_take,List.length_replicate,aG.len];omega) λz2 hbz2 hk2=>?_
  rw [w64 (x:=(i:Int)+1) (by omega) (by omega)]
  rw [zB hlt'] at hbz2
  exact ⟨7 - (i+1),by omega,i+1,_,rfl,by omega,rfl,hnz.trans hk2 λk hk e=>by have e2:k=b2:=e;omega,hbz2⟩
 ·have hi7:i=7:=by omega
  subst hi7
  rw [lP]
  have hbz:Blk z b2 (x.n.page l).cells TPg:=hbz
  have hz1z:Blk z b1 (aG.cells ⟨0,0,0,0,0,0,0,0,0⟩) TPg:=New.blk (hn3.new hnz) hz1
  refine aG.mk_ex (x.n.page l) ⟨aJ hbz rfl,?_⟩
  refine fJ hz1z rfl (aG.single _) λz2 hb12 hk2=>?_
  refine aG.mk_ex (x.n.page l) ⟨aJ hb12 rfl,rfl,rfl,?_⟩
  exact ((hn1.new hn3).new hnz).trans hk2 λk hk e=>by omega
end Go.Proofs.YtegepanmkjemjaaGreat
