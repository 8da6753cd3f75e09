import Derived.Test.YtegepanmkjemjaaGreatq24
import Derived.Test.YtegepanmkjemjaaGreatq25
import Derived.Test.YtegepanmkjemjaaGreatProg
import Derived.Test.YtegepanmkjemjaaGreatq03
set_option linter.unusedVariables false
namespace Go.Proofs.YtegepanmkjemjaaGreat
open Go.Proofs.Tryz
open Go.Eng
abbrev TPg:TypeId:=55
def fK (l:List aG):List (List Value):=l.map aG.cells
def noP:aG:=⟨0,0,0,0,0,0,0,0,0⟩
def unl (h:Int):Bool:=band .u64 h 255 == 0
def lF (h:Int):Bool:=decide (1≤bshr .u64 h 8∧bshr .u64 h 8≤281474976710654)
def mE (p:aG):Bool:=lF p.Head && unl p.Head
def ascP (l:List aG) (i:Nat):Bool:=decide (i=0) || decide ((l.getD (i - 1) noP).Line<(l.getD i noP).Line)
def jW (seq:Int) (W:List aG) (lines:Int):Int:=
 if ¬ (98≤lines∧lines≤256) then 18 else if seq<1∨1073741824≤seq∨W.length<1∨12<W.length then 1
 else if W.all (λp=>jV p.Line lines)=false then 2 else if (List.range W.length).all (λi=>ascP W i && mE (W.getD i noP))=false then 1 else 0
theorem Bp {h:Int} (h0:U64 h):0≤bshr .u64 h 8∧bshr .u64 h 8<18446744073709551615:=by
 have e:bshr .u64 h 8=h / 256:=by
  show Int.fdiv h 256=_
  rw [Int.fdiv_eq_ediv_of_nonneg _ (by decide)]
 have:=h0.1
 have:=h0.2
 omega
theorem zC (w:World) (h:Int):Does 145 [.int .u64 h] w λv w'=>v=.bool (unl h)∧w'=w:=by
 refine does Tryz.func145 ?_
 rw [qd]
 exact ⟨rfl,rfl⟩
theorem yg (w:World) (h:Int):Does 197 [.int .u64 h] w λv w'=>v=.tuple #[.int .u64 (bshr .u64 h 8),.int .i64 (IntKind.i64.wrap (band .u64 h 255))]∧w'=w:=by
 refine does Tryz.func197 ?_
 rw [nN]
 exact ⟨rfl,rfl⟩
theorem CM {a b c:Int} {w:World} (h:b=c):∃ x,Value.tuple #[.int .u64 a,.int .i64 b]=.tuple #[.int .u64 x,.int .i64 c]∧w=w:=⟨a,by rw [h],rfl⟩
theorem Bq (w:World) (h:Int):Does 177 [.int .u64 h] w λv w'=>∃ x,v=.tuple #[.int .u64 x,.int .i64 (if lF h=true then 0 else 2)]∧w'=w:=by
 refine does Tryz.func177 ?_
 rw [pO]
 refine aE (yg w h) ?_
 rintro v w1 ⟨rfl,rfl⟩
 refine ⟨_,_,rfl,?_⟩
 refine aE (qH w1 _ 1 281474976710654) ?_
 rintro v w2 ⟨rfl,rfl⟩
 refine ⟨_,rfl,dG (λhf=>CM ?_) (λht=>CM ?_)⟩
 ·rw [if_neg (by unfold lF;rw [hf];simp)]
 ·rw [if_pos (by unfold lF;exact ht)]
structure qW (w:World) (a:Option Addr) (n:Nat) (W:List aG):Prop where
 rd:Rd w a (fK W).flatten
 len:n=W.length
 few:W.length≤1000000
 u64:∀ p ∈ W,U64 p.Head
theorem qW.new {w w':World} {a:Option Addr} {n:Nat} {W:List aG} (h:qW w a n W) (hn:New w w'):qW w' a n W:=⟨h.rd.new hn,h.len,h.few,h.u64⟩
theorem okLV:k9 prog 176=true:=by kernel_rfl
theorem Dv (w:World) (p:aG) {c0:Nat} {lines:Int} (hc:w.cell? ⟨c0,0,none⟩=some (.int .i64 lines)):Does 176 [p.val,.pointer (some ⟨c0,0,none⟩)] w λv w'=>v=.bool (decide (p.Line<96) || decide (lines≤p.Line))∧New w w':=by
 refine does Tryz.func176 ?_
 rw [pB]
 rintro b1 w1 hb1 hw1
 obtain ⟨hz,hn⟩:=aM hb1 hw1
 have hz:Blk w1 b1 p.cells TPg:=hz
 clear hw1
 refine ⟨_,hz.cell (i:=0) rfl,aH (λh=>⟨?_,hn⟩) (λh=>⟨_,hz.cell (i:=0) rfl,_,ef hn hc id,?_,hn⟩)⟩
 ·rw [decide_eq_true h];rfl
 ·rw [decide_eq_false h];rfl
section
attribute [local irreducible] k9 mQ rb
theorem yh {w:World} {a:Option Addr} {n c c0:Nat} {lines:Int} {W:List aG} (h:qW w a n W) (hc:w.cell? ⟨c0,0,none⟩=some (.int .i64 lines)) :
  Does 196 [.slice a n c,.func (.func 176) #[] #[.pointer (some ⟨c0,0,none⟩)]] w λv w'=>∃ z:Int,v=.int .i64 z∧(decide (z≥0)=W.any λp=>decide (p.Line<96) || decide (lines≤p.Line))∧New w w':=by
 have hl:=h.len
 subst hl
 have hfew:=h.few
 refine does Tryz.func196 ?_
 rw [fG]
 refine aQ mix (λm env u=>∃ (i:Nat) (jj:List Value),m=W.length - i∧i≤W.length∧env=bH a W.length c (.func (.func 176) #[] #[.pointer (some ⟨c0,0,none⟩)]) W.length i jj∧New w u∧((W.take i).any λp=>decide (p.Line<96) || decide (lines≤p.Line))=false) W.length
  ⟨0,_,by omega,by omega,rfl,Keep.refl _ _,rfl⟩ ?_
 rintro m env u ⟨i,jj,rfl,hi,rfl,hn,hno⟩
 rw [el]
 refine aH (λhp=>?_) (λhp=>?_)
 ·have hlt:i<W.length:=by omega
  have hg:W[i]?=some W[i]:=List.getElem?_eq_getElem hlt
  refine eS (cells:=aG.cells) aG.len (by omega) (h.rd.new hn) hg rfl rfl λb o hcc _=>aG.mk_ex W[i] ⟨hcc,?_⟩
  refine mJ okLV (xs:=#[W[i].val,.pointer (some ⟨c0,0,none⟩)]) (by simp) ?_
  refine aE (Dv u W[i] (ef hn hc id)) ?_
  rintro v u1 ⟨rfl,hn1⟩
  refine ⟨_,rfl,sf (λhf=>⟨i,rfl,?_,hn.new hn1⟩) (λhf=>?_)⟩
  ·have h1:(W.any λp=>decide (p.Line<96) || decide (lines≤p.Line))=true:=List.any_eq_true.2 ⟨W[i],List.getElem_mem hlt,hf⟩
   rw [h1]
   simp
  ·rw [w64 (by omega) (by omega)]
   refine ⟨W.length - (i+1),by omega,i+1,_,rfl,by omega,rfl,hn.new hn1,?_⟩
   rw [List.take_add_one,hg,List.any_append,hno]
   simpa using hf
 ·rw [eG]
  have:W.take i=W:=List.take_of_length_le (by omega)
  rw [this] at hno
  exact ⟨-1,rfl,by rw [hno];decide,hn⟩
end
theorem tG {w:World} {a:Option Addr} {n c c0:Nat} {lines:Int} {W:List aG} (h:qW w a n W) (hc:w.cell? ⟨c0,0,none⟩=some (.int .i64 lines)) :
  Does 175 [.slice a n c,.func (.func 176) #[] #[.pointer (some ⟨c0,0,none⟩)]] w λv w'=>v=.bool (W.any λp=>decide (p.Line<96) || decide (lines≤p.Line))∧New w w':=by
 refine does Tryz.func175 ?_
 rw [eR]
 refine aE (yh h hc) ?_
 rintro v w1 ⟨z,rfl,hz,hn⟩
 exact ⟨_,rfl,by rw [hz],hn⟩
theorem zD {W:List aG} {lines:Int} (hl:98≤lines∧lines≤256):(W.any λp=>decide (p.Line<96) || decide (lines≤p.Line))=!(W.all λp=>jV p.Line lines):=by
 induction W with
 |nil=>rfl
 |cons p W ih=>
  rw [List.any_cons,List.all_cons,ih,Bool.not_and]
  congr 1
  unfold jV
  rw [Bool.eq_iff_iff]
  simp
  omega
theorem uP {n:Nat} {p q:Nat→Bool}:((List.range n).all λi=>p i && q i)=false↔(List.range n).all p=false∨(List.range n).all q=false:=by
 have:((List.range n).all λi=>p i && q i)=((List.range n).all p && (List.range n).all q):=by
  rw [Bool.eq_iff_iff]
  simp only [List.all_eq_true,Bool.and_eq_true]
  exact ⟨λh=>⟨λx hx=>(h x hx).1,λx hx=>(h x hx).2⟩,λh x hx=>⟨h.1 x hx,h.2 x hx⟩⟩
 rw [this,Bool.and_eq_false_iff]
set_option maxHeartbeats 1000000 in
theorem sE {w:World} {r:aR} {W:List aG} (h:qW w r.Writes r.Writes_l W) (lines:Int):Does 142 [r.val,.int .i64 lines] w λx w'=>x=.int .i64 (jW r.Seq W lines)∧New w w':=by
 refine does Tryz.func142 ?_
 rw [qV]
 rintro b1 w1 hb1 hw1
 obtain ⟨hz1,hn1⟩:=aM hb1 hw1
 have hz1:Blk w1 b1 r.cells 252:=hz1
 clear hw1
 rintro b2 w2 hb2 hw2
 obtain ⟨hz2,hn2⟩:=aM hb2 hw2
 have hz2:Blk w2 b2 [.int .i64 lines] 3:=hz2
 clear hw2
 have hz12:=New.blk hn2 hz1
 have hn:=hn1.new hn2
 have hlen:=h.len
 have hfew:=h.few
 refine ⟨_,hz2.cell (i:=0) rfl,?_⟩
 have hil:Does 174 [.int .i64 lines] w2 λv w'=>v=.bool (decide (98≤lines∧lines≤256))∧w'=w2:=by
  refine does Tryz.func174 ?_
  rw [pA]
  refine aH (λh=>⟨?_,rfl⟩) (λh=>⟨?_,rfl⟩)
  ·have h:98≤lines:=h;congr 1;simp [h]
  ·have h:¬ 98≤lines:=h;congr 1;simp [h]
 refine aE hil ?_
 rintro x w3 ⟨rfl,rfl⟩
 unfold jW
 refine ⟨_,rfl,dG (λhf=>?_) (λht=>?_)⟩
 ·rw [if_pos (by simpa using hf)];exact ⟨rfl,hn⟩
 have hl:98≤lines∧lines≤256:=by simpa using ht
 rw [if_neg (λe=>e hl)]
 refine ⟨_,hz12.cell (i:=0) rfl,aH (λhp=>?_) (λhp=>⟨_,hz12.cell (i:=0) rfl,aH (λhp2=>?_) (λhp2=>⟨_,_,_,hz12.cell (i:=1) rfl,aH (λhp3=>?_) (λhp3=>⟨_,_,_,hz12.cell (i:=1) rfl,aH (λhp4=>?_) (λhp4=>⟨_,_,_,hz12.cell (i:=1) rfl,?_⟩)⟩)⟩)⟩)⟩
 ·rw [if_pos (by omega)];exact ⟨rfl,hn⟩
 ·rw [if_pos (by omega)];exact ⟨rfl,hn⟩
 ·rw [if_pos (by omega)];exact ⟨rfl,hn⟩
 ·rw [if_pos (by omega)];exact ⟨rfl,hn⟩
 rw [if_neg (by omega)]
 refine aE (tG (h.new hn) (hz2.cell (i:=0) rfl)) ?_
 rintro x w4 ⟨rfl,hn4⟩
 rw [zD hl]
 refine ⟨_,rfl,dG (λhf=>?_) (λht=>?_)⟩
 ·rw [if_pos hf];exact ⟨rfl,hn.new hn4⟩
 rw [if_neg (by rw [ht];simp)]
 have hz14:=New.blk hn4 hz12
 have hn04:=hn.new hn4
 refine ⟨_,_,_,hz14.cell (i:=1) rfl,?_⟩
 refine aQ mix (λm env u=>∃ (i:Nat) (jj:List Value),m=W.length - i∧i≤W.length∧env=cU ⟨b1,0,none⟩ r.Writes r.Writes_l r.Writes_c r.Writes_l i jj∧New w4 u∧∀ k,k<i→ascP W k=true) W.length
  ⟨0,_,by omega,by omega,rfl,Keep.refl _ _,λk hk=>by omega⟩ ?_
 rintro m env u ⟨i,jj,rfl,hi,rfl,hnu,hok⟩
 rw [lq]
 refine aH (λhq=>?_) (λhq=>?_)
 ·have hlt:i<W.length:=by omega
  have hg:W[i]?=some W[i]:=List.getElem?_eq_getElem hlt
  have hgd:=mC (d:=noP) hg
  refine eS (cells:=aG.cells) aG.len (by omega) (h.rd.new (hn04.new hnu)) hg rfl hlen λb o hc _=>aG.mk_ex W[i] ⟨hc,?_⟩
  refine gF (vs:=W[i].cells) rfl (aG.single _) λb3 u2 hb3 hz3 hn3=>?_
  rintro u3 hu3
  have hn3':New u2 u3:=by rw [hu3];exact aT _
  clear hu3
  have hz33:=New.blk hn3' hz3
  have hnu3:=(hnu.new hn3).new hn3'
  have go:ascP W i=true→∀ jj',∃ m',m'<W.length - i∧∃ (i':Nat) (jj:List Value),m'=W.length - i'∧i'≤W.length∧cU ⟨b1,0,none⟩ r.Writes r.Writes_l r.Writes_c r.Writes_l (IntKind.i64.wrap ((i:Int)+1)) jj'=cU ⟨b1,0,none⟩ r.Writes r.Writes_l r.Writes_c r.Writes_l i' jj∧New w4 u3∧∀ k,k<i'→ascP W k=true:=by
   intro ha jj'
   rw [w64 (by omega) (by omega)]
   refine ⟨W.length - (i+1),by omega,i+1,jj',rfl,by omega,rfl,hnu3,λk hk=>?_⟩
   rcases Nat.lt_succ_iff_lt_or_eq.1 hk with hk | rfl
   ·exact hok k hk
   ·exact ha
  refine ⟨λy=>New u3 y,Keep.refl _ _,aH (λh0=>⟨_,λy hy=>(New.blk hy hz33).cell (i:=0) rfl,_,_,_,λy hy=>(New.blk (hnu3.new hy) hz14).cell (i:=1) rfl,?_⟩) (λh0=>go (by unfold ascP;simp;omega) _)⟩
  have hg1:W[i - 1]?=some W[i - 1]:=List.getElem?_eq_getElem (by omega)
  have hgd1:=mC (d:=noP) hg1
  refine kq (cells:=aG.cells) aG.len (by omega) (h.rd.new (hn04.new hnu3)) hg1 (by rw [w64 (by omega) (by omega)];omega) hlen λb' o' hc'=>⟨_,λy hy=>hc' y hy 0 _ rfl,aH (λhp6=>?_) (λhp6=>go (by unfold ascP;rw [hgd,hgd1];simp;omega) _)⟩
  rw [if_pos (uP.2 (.inl (kn hlt (by unfold ascP;rw [hgd,hgd1];simp;omega))))]
  exact ⟨rfl,hn04.new hnu3⟩
 have hall:(List.range W.length).all (ascP W)=true:=by
  rw [List.all_eq_true]
  intro k hk
  exact hok k (by have:=List.mem_range.1 hk;omega)
 rw [m1]
 refine ⟨_,_,_,(New.blk hnu hz14).cell (i:=1) rfl,?_⟩
 clear hq hi hok
 refine aQ mix (λm env z=>∃ (i:Nat) (jj:List Value),m=W.length - i∧i≤W.length∧env=fF r.Writes r.Writes_l r.Writes_c r.Writes_l i jj∧New u z∧∀ k,k<i→mE (W.getD k noP)=true) W.length
  ⟨0,_,by omega,by omega,rfl,Keep.refl _ _,λk hk=>by omega⟩ ?_
 rintro m env z ⟨i,jj,rfl,hi,rfl,hnz,hok⟩
 have hn0z:=(hn04.new hnu).new hnz
 rw [lr]
 refine aH (λhq=>?_) (λhq=>?_)
 ·have hlt:i<W.length:=by omega
  have hg:W[i]?=some W[i]:=List.getElem?_eq_getElem hlt
  have hgd:=mC (d:=noP) hg
  have bad:mE W[i]=false→(if ((List.range W.length).all λi=>ascP W i && mE (W.getD i noP))=false then 1 else (0:Int))=1:=λe=>by
   rw [if_pos (uP.2 (.inr (kn hlt (by rw [hgd];exact e))))]
  refine eS (cells:=aG.cells) aG.len (by omega) (h.rd.new hn0z) hg rfl hlen λb o hc _=>aG.mk_ex W[i] ⟨hc,?_⟩
  refine gF (vs:=W[i].cells) rfl (aG.single _) λb3 z2 hb3 hz3 hn3=>?_
  refine ⟨_,hz3.cell (i:=1) rfl,?_⟩
  refine aE (Bq z2 W[i].Head) ?_
  rintro x z3 ⟨y,rfl,rfl⟩
  refine ⟨_,_,rfl,cF (λhne=>?_) (λhe=>⟨_,hz3.cell (i:=1) rfl,?_⟩)⟩
  ·rw [bad (by unfold mE;cases hnx:lF W[i].Head with
    |true=>rw [hnx] at hne;simp at hne
    |false=>rfl)]
   exact ⟨rfl,hn0z.new hn3⟩
  have hnx:lF W[i].Head=true:=by
   cases hnx:lF W[i].Head with
   |true=>rfl
   |false=>rw [hnx] at he;simp at he
  refine aE (zC z3 W[i].Head) ?_
  rintro x z4 ⟨rfl,rfl⟩
  refine ⟨_,rfl,dG (λhf=>?_) (λht=>?_)⟩
  ·rw [bad (by unfold mE;rw [hf,Bool.and_false])]
   exact ⟨rfl,hn0z.new hn3⟩
  ·rw [w64 (by omega) (by omega)]
   refine ⟨W.length - (i+1),by omega,i+1,_,rfl,by omega,rfl,hnz.new hn3,λk hk=>?_⟩
   rcases Nat.lt_succ_iff_lt_or_eq.1 hk with hk | rfl
   ·exact hok k hk
   ·rw [hgd];unfold mE;rw [hnx,ht];rfl
 ·rw [m3]
  have hall2:(List.range W.length).all (λi=>mE (W.getD i noP))=true:=by
   rw [List.all_eq_true]
   intro k hk
   exact hok k (by have:=List.mem_range.1 hk;omega)
  rw [if_neg (λe=>by
   rcases uP.1 e with e | e
   ·rw [hall] at e;cases e
   ·rw [hall2] at e;cases e)]
  exact ⟨rfl,hn0z⟩
end Go.Proofs.YtegepanmkjemjaaGreat
namespace Go.Proofs.YtegepanmkjemjaaGreat
open Go.Proofs.Tryz
open Go.Eng IntKind
variable (w:World) (R:Value→World→Prop)
def em (s0:Addr) (s1:Option Addr) (a b:Nat) (s2 s7:Int) (j:LV):LV:=[(.pointer (some s0)),(.slice s1 a b),(.int .i64 s2),jg j 0,jg j 1,jg j 2,jg j 3,(.int .i64 s7),jg j 4,jg j 5,jg j 6,jg j 7,jg j 8,jg j 9,jg j 10,jg j 11,jg j 12,jg j 13,jg j 14,jg j 15,jg j 16,jg j 17,jg j 18,jg j 19,jg j 20,jg j 21,jg j 22,jg j 23,jg j 24,jg j 25,jg j 26,jg j 27,jg j 28,jg j 29,jg j 30,jg j 31,jg j 32,jg j 33,jg j 34,jg j 35,jg j 36,jg j 37,jg j 38,jg j 39,jg j 40,jg j 41,jg j 42,jg j 43,jg j 44,jg j 45,jg j 46,jg j 47,jg j 48,jg j 49,jg j 50,jg j 51,jg j 52,jg j 53,jg j 54,jg j 55,jg j 56,jg j 57,jg j 58,jg j 59,jg j 60,jg j 61,jg j 62,jg j 63,jg j 64,jg j 65,jg j 66,jg j 67,jg j 68,jg j 69,jg j 70,jg j 71,jg j 72,jg j 73,jg j 74,jg j 75,jg j 76,jg j 77,jg j 78,jg j 79,jg j 80,jg j 81,jg j 82,jg j 83,jg j 84,jg j 85,jg j 86,jg j 87,jg j 88,jg j 89,jg j 90,jg j 91,jg j 92,jg j 93,jg j 94,jg j 95,jg j 96,jg j 97,jg j 98,jg j 99,jg j 100,jg j 101,jg j 102,jg j 103,jg j 104,jg j 105,jg j 106,jg j 107,jg j 108,jg j 109,jg j 110,jg j 111,jg j 112,jg j 113,jg j 114,jg j 115,jg j 116,jg j 117,jg j 118,jg j 119,jg j 120,jg j 121,jg j 122,jg j 123,jg j 124,jg j 125,jg j 126,jg j 127,jg j 128,jg j 129,jg j 130,jg j 131,jg j 132,jg j 133,jg j 134,jg j 135,jg j 136,jg j 137,jg j 138,jg j 139,jg j 140]
def jl  (j:LV):LV:=jq j 0 145 []
def ep (s0:Addr) (s1:Option Addr) (a b:Nat) (s2 s7 s8:Int) (j:LV):LV:=.pointer (some s0)::.slice s1 a b::.int .i64 s2::jq j 0 4 (.int .i64 s7::.int .i64 s8::jq j 4 136 [])
def jm (a:Addr) (s1:Option Addr) (b c:Nat) (s2 s7:Int) (j:LV):LV:=.pointer (some a)::.slice s1 b c::.int .i64 s2::jq j 0 4 (.int .i64 s7::jq j 4 137 [])
def er (s0:Addr) (s1:Option Addr) (a b:Nat) (s2 s7 c:Int) (j:LV):LV:=.pointer (some s0)::.slice s1 a b::.int .i64 s2::jq j 0 4 (.int .i64 s7::jq j 4 5 (.int .i64 c::jq j 9 131 []))
def jo (a:Addr) (s1:Option Addr) (b c:Nat) (s2 s7:Int) (j:LV):LV:=.pointer (some a)::.slice s1 b c::.int .i64 s2::jq j 0 4 (.int .i64 s7::jq j 4 137 [])
theorem oZ (p0:Nat) (p1:Option Addr) (a b:Nat) (p2:Int):fnW prog f17 [.pointer (some ⟨p0,0,none⟩),.slice p1 a b,.int .i64 p2] R w=(cA prog (.loop (sub (aF f17) [1,0,1,0,0])) (em ⟨p0,0,none⟩ p1 a b p2 0 (uq 3 (jb false::uq 137 []))) (aI 0 (nx f17 [1,1] R)) w):=by kernel_rfl
theorem j7 (s0:Addr) (s1:Option Addr) (a b:Nat) (s2 s7:Int) (j:LV) (N1:LV→World→Prop):W prog (sub (aF f17) [1,0,1,0,0]) (em s0 s1 a b s2 s7 j) (seqQ N1 (aI 0 (nx f17 [1,1] R))) w=((bif (decide ((s7:Int)<(a:Nat))) then (cA prog (.loop (sub (aF f17) [1,0,1,0,0,1,0,0,0,1,0,0])) (ep s0 s1 a b s2 s7 96 (jq j 0 4 (jq j 5 13 (ji s7::js s1 a b::jn a::jb (decide ((s7:Int)<(a:Nat)))::jq j 22 119 [])))) (aI 2 (seqQ (λenv w=>W prog (sub (aF f17) [1,0,1,0,0,1,0,0,1]) env (aI 1 (seqQ (λenv w=>W prog (sub (aF f17) [1,0,1,0,0,1,1]) env (seqQ N1 (aI 0 (nx f17 [1,1] R))) w) (seqQ N1 (aI 0 (nx f17 [1,1] R))))) w) (aI 1 (seqQ (λenv w=>W prog (sub (aF f17) [1,0,1,0,0,1,1]) env (seqQ N1 (aI 0 (nx f17 [1,1] R))) w) (seqQ N1 (aI 0 (nx f17 [1,1] R))))))) w) else (W prog (sub (aF f17) [1,1]) (jl  (jp s0::js s1 a b::ji s2::jq j 0 4 (ji s7::jq j 4 14 (ji s7::js s1 a b::jn a::jb (decide ((s7:Int)<(a:Nat)))::jq j 22 119 [])))) (retQ prog f17 R) w))):=by kernel_rfl
theorem lu  (j:LV):W prog (sub (aF f17) [1,1]) (jl  j) (retQ prog f17 R) w=(R (.bool true) w):=by kernel_rfl
set_option maxHeartbeats 4000000 in
theorem j8 (s0:Addr) (s1:Option Addr) (a b:Nat) (s2 s7 s8:Int) (j:LV) (N1:LV→World→Prop) (N2:LV→World→Prop):W prog (sub (aF f17) [1,0,1,0,0,1,0,0,0,1,0,0]) (ep s0 s1 a b s2 s7 s8 j) (seqQ N2 (aI 2 (seqQ (λenv w=>W prog (sub (aF f17) [1,0,1,0,0,1,0,0,1]) env (aI 1 (seqQ (λenv w=>W prog (sub (aF f17) [1,0,1,0,0,1,1]) env (seqQ N1 (aI 0 (nx f17 [1,1] R))) w) (seqQ N1 (aI 0 (nx f17 [1,1] R))))) w) (aI 1 (seqQ (λenv w=>W prog (sub (aF f17) [1,0,1,0,0,1,1]) env (seqQ N1 (aI 0 (nx f17 [1,1] R))) w) (seqQ N1 (aI 0 (nx f17 [1,1] R)))))))) w=((bif (decide ((s8:Int)<s2)) then (idxS s1 a 0 3 λad=>∃ c,w.cell? ad=some (.int .i64 c)∧Calls prog 18 #[.pointer (some s0),.int .i64 c,.int .i64 s8] w λe w1=>aG.ex λi=>∃ (d:Bool),e=.returned (.tuple #[i.val,.bool d])∧∀ b1 w2,b1=w1.heap.size→w2=w1.alloc (.cells #[.int .i64 0,.int .u64 0,.int .u64 0,.int .u64 0,.int .u64 0,.int .u64 0,.int .u64 0,.int .u64 0,.int .u64 0] 55)→wrAt w2 ⟨b1,0,none⟩ 0 i.cells∧∀ w3,w3=puts w2 ⟨b1,0,none⟩ 0 i.cells→idxS s1 a s7 3 λk=>∃ f,w3.cell? k=some (.int .i64 f)∧Calls prog 18 #[.pointer (some s0),.int .i64 f,.int .i64 s8] w3 λe w4=>aG.ex λl=>∃ (g:Bool),e=.returned (.tuple #[l.val,.bool g])∧∀ b2 w5,b2=w4.heap.size→w5=w4.alloc (.cells #[.int .i64 0,.int .u64 0,.int .u64 0,.int .u64 0,.int .u64 0,.int .u64 0,.int .u64 0,.int .u64 0,.int .u64 0] 55)→wrAt w5 ⟨b2,0,none⟩ 0 l.cells∧∀ w6,w6=puts w5 ⟨b2,0,none⟩ 0 l.cells→(bif (!d) then (R (.bool false) w6) else ((bif (!g) then (R (.bool false) w6) else (aG.ex λr=>aD w6 ⟨b1,0,none⟩ 0 r.cells∧aG.ex λr1=>aD w6 ⟨b2,0,none⟩ 0 r1.cells∧yT prog 55 r.val r1.val λ(eq:Bool)=>(bif (!eq) then (R (.bool false) w6) else (∃ h,w6.cell? ⟨b1,1,none⟩=some (.int .u64 h)∧(bif (((band .u64 h 255):Int) != 0) then (R (.bool false) w6) else (N2 (ep s0 s1 a b s2 s7 (i64.wrap (s8+1)) (jq j 0 4 (jp ⟨b1,0,none⟩::jb d::jp ⟨b2,0,none⟩::jb g::jq j 8 15 (ji s8::ji s2::jb (decide ((s8:Int)<s2))::ji s8::ji (i64.wrap (s8+1))::.tuple #[i.val,.bool d]::jp s0::js s1 a b::jp ad::jp ad::ji c::ji s8::.tuple #[i.val,.bool d]::i.val::jb d::.tuple #[l.val,.bool g]::jp s0::js s1 a b::ji s7::jp k::jp k::ji f::ji s8::.tuple #[l.val,.bool g]::l.val::jb g::jb d::jb (!d)::jb false::jb g::jb (!g)::jb (!g)::jb false::r.val::r1.val::jb (!eq)::jb (!eq)::jb false::jp ⟨b1,1,none⟩::ju h::ju (band .u64 h 255)::jb (((band .u64 h 255):Int) != 0)::jb (((band .u64 h 255):Int) != 0)::jq j 66 74 [])))) w6))))))))) else (W prog (sub (aF f17) [1,0,1,0,0,1,0,0,1]) (jm s0 s1 a b s2 s7 (jq j 0 4 (ji s8::jq j 4 19 (ji s8::ji s2::jb (decide ((s8:Int)<s2))::jq j 26 114 [])))) (aI 1 (seqQ (λenv w=>W prog (sub (aF f17) [1,0,1,0,0,1,1]) env (seqQ N1 (aI 0 (nx f17 [1,1] R))) w) (seqQ N1 (aI 0 (nx f17 [1,1] R))))) w))):=by kernel_rfl
theorem lv (a:Addr) (s1:Option Addr) (b c:Nat) (s2 s7:Int) (j:LV) (N1:LV→World→Prop):W prog (sub (aF f17) [1,0,1,0,0,1,0,0,1]) (jm a s1 b c s2 s7 j) (aI 1 (seqQ (λenv w=>W prog (sub (aF f17) [1,0,1,0,0,1,1]) env (seqQ N1 (aI 0 (nx f17 [1,1] R))) w) (seqQ N1 (aI 0 (nx f17 [1,1] R))))) w=(cA prog (.loop (sub (aF f17) [1,0,1,0,0,1,0,0,1,1,0,0])) (er a s1 b c s2 s7 0 (jq j 0 9 (jq j 10 131 []))) (aI 4 (aI 1 (seqQ (λenv w=>W prog (sub (aF f17) [1,0,1,0,0,1,1]) env (seqQ N1 (aI 0 (nx f17 [1,1] R))) w) (seqQ N1 (aI 0 (nx f17 [1,1] R)))))) w):=by kernel_rfl
set_option maxHeartbeats 4000000 in
theorem j9 (s0:Addr) (s1:Option Addr) (a b:Nat) (s2 s7 c:Int) (j:LV) (N1:LV→World→Prop) (N3:LV→World→Prop):W prog (sub (aF f17) [1,0,1,0,0,1,0,0,1,1,0,0]) (er s0 s1 a b s2 s7 c j) (seqQ N3 (aI 4 (aI 1 (seqQ (λenv w=>W prog (sub (aF f17) [1,0,1,0,0,1,1]) env (seqQ N1 (aI 0 (nx f17 [1,1] R))) w) (seqQ N1 (aI 0 (nx f17 [1,1] R))))))) w=((bif (decide ((c:Int)<6)) then (∀ w1,w1=w.drew→∃ Sx:World→Prop,Sx w1∧idxS s1 a 0 3 λad=>∃ d,(∀ u,Sx u→u.cell? ad=some (.int .i64 d))∧Calls prog 20 #[.int .i64 c] w1 λe w2=>∃ (f:Int),e=.returned (.int .i64 f)∧Sx w2∧Calls prog 19 #[.pointer (some s0),.int .i64 d,.int .i64 f] w2 λe w3=>∃ (g:Int) (h:Bool),e=.returned (.tuple #[.int .u64 g,.bool h])∧∀ w4,w4=w3.drew→∃ Sx1:World→Prop,Sx1 w4∧idxS s1 a s7 3 λx=>∃ i,(∀ u,Sx1 u→u.cell? x=some (.int .i64 i))∧Calls prog 20 #[.int .i64 c] w4 λe w5=>∃ (k:Int),e=.returned (.int .i64 k)∧Sx1 w5∧Calls prog 19 #[.pointer (some s0),.int .i64 i,.int .i64 k] w5 λe w6=>∃ (l:Int) (m:Bool),e=.returned (.tuple #[.int .u64 l,.bool m])∧∀ w7,w7=w6.drew→∃ Sx2:World→Prop,Sx2 w7∧idxS s1 a 0 3 λy=>∃ n,(∀ u,Sx2 u→u.cell? y=some (.int .i64 n))∧Calls prog 39 #[.int .i64 c] w7 λe w8=>∃ (o:Int),e=.returned (.int .i64 o)∧Sx2 w8∧Calls prog 19 #[.pointer (some s0),.int .i64 n,.int .i64 o] w8 λe w9=>∃ (p:Int) (q:Bool),e=.returned (.tuple #[.int .u64 p,.bool q])∧∀ z,z=w9.drew→∃ Sx3:World→Prop,Sx3 z∧idxS s1 a s7 3 λaa=>∃ r,(∀ u,Sx3 u→u.cell? aa=some (.int .i64 r))∧Calls prog 39 #[.int .i64 c] z λe ab=>∃ (s:Int),e=.returned (.int .i64 s)∧Sx3 ab∧Calls prog 19 #[.pointer (some s0),.int .i64 r,.int .i64 s] ab λe ac=>∃ (t:Int) (v:Bool),e=.returned (.tuple #[.int .u64 t,.bool v])∧(bif (!h) then (R (.bool false) ac) else ((bif (!m) then (R (.bool false) ac) else ((bif (!q) then (R (.bool false) ac) else ((bif (!v) then (R (.bool false) ac) else ((bif ((g:Int) != l) then (R (.bool false) ac) else ((bif ((p:Int) != t) then (R (.bool false) ac) else (N3 (er s0 s1 a b s2 s7 (i64.wrap (c+1)) (jq j 0 9 (ju g::jb h::ju l::jb m::ju p::jb q::ju t::jb v::jq j 17 49 [ji c,jb (decide ((c:Int)<6)),ji c,ji (i64.wrap (c+1)),.tuple #[.int .u64 g,.bool h],jp s0,js s1 a b,jp ad,jp ad,ji d,ji c,ji f,.tuple #[.int .u64 g,.bool h],ju g,jb h,.tuple #[.int .u64 l,.bool m],jp s0,js s1 a b,ji s7,jp x,jp x,ji i,ji c,ji k,.tuple #[.int .u64 l,.bool m],ju l,jb m,.tuple #[.int .u64 p,.bool q],jp s0,js s1 a b,jp y,jp y,ji n,ji c,ji o,.tuple #[.int .u64 p,.bool q],ju p,jb q,.tuple #[.int .u64 t,.bool v],jp s0,js s1 a b,ji s7,jp aa,jp aa,ji r,ji c,ji s,.tuple #[.int .u64 t,.bool v],ju t,jb v,jb h,jb (!h),jb false,jb m,jb (!m),jb (!m),jb false,jb q,jb (!q),jb (!q),jb false,jb v,jb (!v),jb (!v),jb false,ju g,ju l,jb ((g:Int) != l),jb ((g:Int) != l),jb false,ju p,ju t,jb ((p:Int) != t),jb ((p:Int) != t)]))) ac))))))))))))) else (W prog (sub (aF f17) [1,0,1,0,0,1,1]) (jo s0 s1 a b s2 s7 (jq j 0 9 (ji c::jq j 9 57 (ji c::jb (decide ((c:Int)<6))::jq j 68 72 [])))) (seqQ N1 (aI 0 (nx f17 [1,1] R))) w))):=by kernel_rfl
theorem lw (a:Addr) (s1:Option Addr) (b c:Nat) (s2 s7:Int) (j:LV) (N1:LV→World→Prop):W prog (sub (aF f17) [1,0,1,0,0,1,1]) (jo a s1 b c s2 s7 j) (seqQ N1 (aI 0 (nx f17 [1,1] R))) w=(N1 (em a s1 b c s2 (i64.wrap (s7+1)) (jq j 0 22 (ji s7::ji (i64.wrap (s7+1))::jq j 24 117 []))) w):=by kernel_rfl
def eH (s6:Addr) (s9:Option Addr) (a b:Nat) (c:Addr) (d:Int) (j:LV):LV:=jq j 0 6 (.pointer (some s6)::jq j 6 2 (.slice s9 a b::jq j 8 1 (.pointer (some c)::.int .i64 d::jq j 9 39 [])))
def jX (a b:Addr) (j:LV):LV:=jq j 0 6 (.pointer (some a)::jq j 6 4 (.pointer (some b)::jq j 10 40 []))
theorem pC (p0:Nat) (p1 p2:Int):fnW prog f18 [.pointer (some ⟨p0,0,none⟩),.int .i64 p1,.int .i64 p2] R w=(∀ b1 w1,b1=w.heap.size→w1=w.alloc (.cells #[.int .i64 0,.int .u64 0,.int .u64 0,.int .u64 0,.int .u64 0,.int .u64 0,.int .u64 0,.int .u64 0,.int .u64 0] 55)→Calls prog 25 #[.pointer (some ⟨p0,0,none⟩),.int .i64 p1] w1 λe w2=>∃ (a:Option Addr),e=.returned (.pointer a)∧(bif (Option.isNone a) then (wrAt w2 ⟨b1,0,none⟩ 0 [.int .i64 0,.int .u64 0,.int .u64 0,.int .u64 0,.int .u64 0,.int .u64 0,.int .u64 0,.int .u64 0,.int .u64 0]∧∀ w3,w3=puts w2 ⟨b1,0,none⟩ 0 [.int .i64 0,.int .u64 0,.int .u64 0,.int .u64 0,.int .u64 0,.int .u64 0,.int .u64 0,.int .u64 0,.int .u64 0]→aG.ex λh=>aD w3 ⟨b1,0,none⟩ 0 h.cells∧w3=w3∧R (.tuple #[h.val,.bool false]) w3) else (Calls prog 41 #[.int .i64 p2] w2 λe w4=>∃ (b:Int),e=.returned (.int .i64 b)∧Calls prog 40 #[.pointer a,.int .i64 b,.int .i64 8] w4 λe w5=>∃ (c:Option Addr) (d f:Nat) (g:Int),e=.returned (.tuple #[.slice c d f,.int .i64 g])∧(bif ((g:Int) != 0) then (wrAt w5 ⟨b1,0,none⟩ 0 [.int .i64 0,.int .u64 0,.int .u64 0,.int .u64 0,.int .u64 0,.int .u64 0,.int .u64 0,.int .u64 0,.int .u64 0]∧∀ w6,w6=puts w5 ⟨b1,0,none⟩ 0 [.int .i64 0,.int .u64 0,.int .u64 0,.int .u64 0,.int .u64 0,.int .u64 0,.int .u64 0,.int .u64 0,.int .u64 0]→aG.ex λi=>aD w6 ⟨b1,0,none⟩ 0 i.cells∧w6=w6∧R (.tuple #[i.val,.bool false]) w6) else ((bif (((d:Nat):Int) != 8) then (wrAt w5 ⟨b1,0,none⟩ 0 [.int .i64 0,.int .u64 0,.int .u64 0,.int .u64 0,.int .u64 0,.int .u64 0,.int .u64 0,.int .u64 0,.int .u64 0]∧∀ w7,w7=puts w5 ⟨b1,0,none⟩ 0 [.int .i64 0,.int .u64 0,.int .u64 0,.int .u64 0,.int .u64 0,.int .u64 0,.int .u64 0,.int .u64 0,.int .u64 0]→aG.ex λk=>aD w7 ⟨b1,0,none⟩ 0 k.cells∧w7=w7∧R (.tuple #[k.val,.bool false]) w7) else (idxS c d 0 1 λad=>∃ x,w5.cell? ad=some (.int .u64 x)∧∀ b2 w8,b2=w5.heap.size→w8=w5.alloc (.cells #[.int .i64 0,.int .u64 0,.int .u64 0,.int .u64 0,.int .u64 0,.int .u64 0,.int .u64 0,.int .u64 0,.int .u64 0] 55)→wrAt w8 ⟨b2,0,none⟩ 0 [.int .i64 p2,.int .u64 x,.int .u64 0,.int .u64 0,.int .u64 0,.int .u64 0,.int .u64 0,.int .u64 0,.int .u64 0]∧∀ w9,w9=puts w8 ⟨b2,0,none⟩ 0 [.int .i64 p2,.int .u64 x,.int .u64 0,.int .u64 0,.int .u64 0,.int .u64 0,.int .u64 0,.int .u64 0,.int .u64 0]→cA prog (.loop (sub (aF f18) [1,1,1,1,1,1,0,1,0,0])) (eH ⟨b1,0,none⟩ c d f ⟨b2,0,none⟩ 0 (jp ⟨p0,0,none⟩::ji p1::ji p2::uq 3 (jb false::.pointer a::ji g::jp ⟨p0,0,none⟩::ji p1::.pointer a::.pointer a::jb (Option.isNone a)::undef::.tuple #[.slice c d f,.int .i64 g]::.pointer a::ji p2::ji b::.tuple #[.slice c d f,.int .i64 g]::js c d f::ji g::ji g::jb ((g:Int) != 0)::jb false::js c d f::jn d::jb (((d:Nat):Int) != 8)::jb (((d:Nat):Int) != 8)::undef::ji p2::js c d f::jp ad::ju x::.agg #[.int .i64 p2,.int .u64 x,.int .u64 0,.int .u64 0,.int .u64 0,.int .u64 0,.int .u64 0,.int .u64 0,.int .u64 0]::uq 13 []))) (aI 0 (nx f18 [1,1,1,1,1,1,1] R)) w9))))))):=by kernel_rfl
theorem ky (s6:Addr) (s9:Option Addr) (a b:Nat) (c:Addr) (d:Int) (j:LV) (N1:LV→World→Prop):W prog (sub (aF f18) [1,1,1,1,1,1,0,1,0,0]) (eH s6 s9 a b c d j) (seqQ N1 (aI 0 (nx f18 [1,1,1,1,1,1,1] R))) w=((bif (decide ((d:Int)<7)) then (idxS s9 a (i64.wrap (1+d)) 1 λad=>∃ x,w.cell? ad=some (.int .u64 x)∧idxA ⟨c.block,c.off+2,none⟩ 7 d 1 λf=>(∃ u,w.cell? f=some u)∧w.frozen? f=false∧∀ w1,w1=w.setCell f (.int .u64 x)→N1 (eH s6 s9 a b c (i64.wrap (d+1)) (jq j 0 35 [ji d,jb (decide ((d:Int)<7)),ji d,ji (i64.wrap (d+1)),ji d,js s9 a b,ji d,ji (i64.wrap (1+d)),jp ad,ju x,jf c 2,jp f,jg j 47])) w1) else (W prog (sub (aF f18) [1,1,1,1,1,1,1]) (jX s6 c (jq j 0 8 (js s9 a b::jg j 8::ji d::jq j 9 26 (ji d::jb (decide ((d:Int)<7))::jq j 37 11 [])))) (retQ prog f18 R) w))):=by kernel_rfl
theorem lP (a b:Addr) (j:LV):W prog (sub (aF f18) [1,1,1,1,1,1,1]) (jX a b j) (retQ prog f18 R) w=(aG.ex λr=>aD w b 0 r.cells∧wrAt w a 0 r.cells∧∀ w1,w1=puts w a 0 r.cells→aG.ex λc=>aD w1 a 0 c.cells∧w1=w1∧R (.tuple #[c.val,.bool true]) w1):=by kernel_rfl
theorem nU (p0:Int):fnW prog f20 [.int .i64 p0] R w=(Calls prog 42 #[.int .i64 p0] w λe w1=>∃ a,e=.returned (.bool a)∧(bif (!a) then (R (.int .i64 (-1)) w1) else (R (.int .i64 (i64.wrap (32+p0))) w1))):=by kernel_rfl
theorem o0 (p0:Int):fnW prog f39 [.int .i64 p0] R w=(Calls prog 42 #[.int .i64 p0] w λe w1=>∃ a,e=.returned (.bool a)∧(bif (!a) then (R (.int .i64 (-1)) w1) else (R (.int .i64 (i64.wrap (24+p0))) w1))):=by kernel_rfl
theorem m6 (p0:Int):fnW prog f41 [.int .i64 p0] R w=((bif (decide ((p0:Int)<96)) then (R (.int .i64 (-1)) w) else ((bif (decide ((p0:Int)≥256)) then (R (.int .i64 (-1)) w) else (R (.int .i64 (i64.wrap (p0 * 8))) w))))):=by kernel_rfl
end Go.Proofs.YtegepanmkjemjaaGreat
