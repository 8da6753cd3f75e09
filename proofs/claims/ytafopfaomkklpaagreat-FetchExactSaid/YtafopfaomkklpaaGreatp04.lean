/- A part of the proof. -/
import Derived.Test.YtafopfaomkklpaaGreatp02
import Derived.Test.YtafopfaomkklpaaGreatp03
import Derived.Test.YtafopfaomkklpaaGreatProg
set_option linter.unusedVariables false
namespace Go.Proofs.YtafopfaomkklpaaGreat
open Go.Proofs.Tryz
open Go.Eng
abbrev TMb:TypeId:=133
abbrev TVw:TypeId:=31
abbrev TSM:TypeId:=29
def gV (l:List aB):List (List Value):=l.map aB.cells
theorem zu (l:List aB) (m:aB):(gV (l++[m])).flatten=(gV l).flatten++m.cells:=by simp [gV]
structure Vw where
 number:Int
 mem:List aB
def noM:aB:=⟨0,0,false⟩
def nl (n:Int) (l:List aB) (i:Nat):Bool:=
 decide (0≤(l.getD i noM).Node∧(l.getD i noM).Node<n) && (decide (i=0) || decide ((l.getD (i - 1) noM).Node<(l.getD i noM).Node))
def k7 (m:aB):Bool:=decide (1≤m.Boot∧m.Boot≤31)
def Vw.valid (v:Vw) (n:Int):Int:=
 if ¬ (1≤n∧n≤5) then 1 else if v.number<0∨16≤v.number then 2 else if v.mem.length=0 then 1
 else if (List.range v.mem.length).all (nl n v.mem)=false then 1 else if v.mem.all k7=false then 2 else if v.mem.any aB.Full=false then 13 else 0
structure gO (M:Nat→Prop) (w:World) (r:aF) (v:Vw):Prop where
 num:r.Number=v.number
 len:r.Members_l=v.mem.length
 cap:r.Members_l≤r.Members_c
 rd:Rd w r.Members (gV v.mem).flatten
 off:(gV v.mem).flatten=[]∨Off M r.Members
 small:v.mem.length≤1000000
theorem gO.new {M:Nat→Prop} {w w':World} {r:aF} {v:Vw} (h:gO M w r v) (hn:New w w'):gO M w' r v:=⟨h.num,h.len,h.cap,h.rd.new hn,h.off,h.small⟩
theorem An (w:World) (n:Int):Does 139 [.int .i64 n] w λv w'=>v=.bool (decide (1≤n∧n≤5))∧w'=w:=by
 refine does Tryz.func139 ?_
 rw [tL]
 refine aD (λh=>⟨?_,rfl⟩) (λh=>⟨?_,rfl⟩)
 ·congr 1;simp;omega
 ·congr 1;simp;omega
theorem BU (w:World) (m:aB):Does 141 [m.val] w λv w'=>v=.bool m.Full∧New w w':=by
 refine does Tryz.func141 ?_
 rw [ur]
 rintro b1 w1 hb1 hw1
 obtain ⟨hz,hn⟩:=aR hb1 hw1
 exact ⟨_,hz.cell rfl,rfl,hn⟩
theorem Et:okFun prog 141=true:=by kernel_rfl
section
attribute [local irreducible] okFun v9 xC
theorem xL {w:World} {a:Option Addr} {c:Nat} {l:List aB} (h:Rd w a (gV l).flatten) (hl:l.length≤1000000) :
  Does 172 [.slice a l.length c,.func (.func 141) #[] #[]] w λv w'=>∃ z:Int,v=.int .i64 z∧(decide (z≥0)=l.any aB.Full)∧New w w':=by
 refine does Tryz.func172 ?_
 rw [gH]
 refine aW mix (λm env u=>∃ (i:Nat) (jj:List Value),m=l.length - i∧i≤l.length∧env=bL a l.length c (.func (.func 141) #[] #[]) l.length i jj∧New w u∧(l.take i).any aB.Full=false) l.length
  ⟨0,_,by omega,by omega,rfl,Keep.refl _ _,rfl⟩ ?_
 rintro m env u ⟨i,jj,rfl,hi,rfl,hn,hno⟩
 rw [eQ]
 refine aD (λhp=>?_) (λhp=>?_)
 ·have hlt:i<l.length:=by omega
  have hg:l[i]?=some l[i]:=List.getElem?_eq_getElem hlt
  refine gN (cells:=aB.cells) aB.len (by omega) (h.new hn) hg rfl rfl λb o hc _=>aB.mk_ex l[i] ⟨hc,?_⟩
  refine BS Et (xs:=#[l[i].val]) (by simp) ?_
  refine aC (BU _ l[i]) ?_
  rintro v u1 ⟨rfl,hn1⟩
  refine ⟨_,rfl,lm (λhf=>⟨i,rfl,?_,hn.new hn1⟩) (λhf=>?_)⟩
  ·have h1:l.any aB.Full=true:=List.any_eq_true.2 ⟨l[i],List.getElem_mem hlt,hf⟩
   rw [h1]
   simp
  ·rw [w64 (by omega) (by omega)]
   refine ⟨l.length - (i+1),by omega,i+1,_,rfl,by omega,rfl,hn.new hn1,?_⟩
   rw [List.take_add_one,hg,List.any_append,hno]
   simpa using hf
 ·rw [fC]
  have:l.take i=l:=List.take_of_length_le (by omega)
  rw [this] at hno
  exact ⟨-1,rfl,by rw [hno];decide,hn⟩
end
theorem ut {w:World} {a:Option Addr} {c:Nat} {l:List aB} (h:Rd w a (gV l).flatten) (hl:l.length≤1000000) :
  Does 140 [.slice a l.length c,.func (.func 141) #[] #[]] w λv w'=>v=.bool (l.any aB.Full)∧New w w':=by
 refine does Tryz.func140 ?_
 rw [fO]
 refine aC (xL h hl) ?_
 rintro v w1 ⟨z,rfl,hz,hn⟩
 exact ⟨_,rfl,by rw [hz],hn⟩
theorem kf {p:Nat→Bool} {n i:Nat} (hi:i<n) (h:p i=false):(List.range n).all p=false:=by
 rw [List.all_eq_false]
 exact ⟨i,List.mem_range.2 hi,by simp [h]⟩
theorem lN {α:Type} {l:List α} {i:Nat} {x d:α} (h:l[i]?=some x):l.getD i d=x:=by rw [List.getD_eq_getElem?_getD,h];rfl
set_option maxHeartbeats 1000000 in
theorem BV {M:Nat→Prop} {w:World} {r:aF} {v:Vw} (h:gO M w r v) (n:Int):Does 99 [r.val,.int .i64 n] w λx w'=>x=.int .i64 (v.valid n)∧New w w':=by
 refine does Tryz.func99 ?_
 rw [vn]
 rintro b1 w1 hb1 hw1
 obtain ⟨hz,hn⟩:=aR hb1 hw1
 have hz:Blk w1 b1 r.cells TVw:=hz
 clear hw1
 have hsm:=h.small
 have hlen:=h.len
 have hnum:=h.num
 unfold Vw.valid
 refine aC (An _ n) ?_
 rintro x w2 ⟨rfl,rfl⟩
 refine ⟨_,rfl,nj (λhb=>?_) (λhb=>?_)⟩
 ·rw [if_pos (by simpa using hb)];exact ⟨rfl,hn⟩
 have hn15:1≤n∧n≤5:=by simpa using hb
 rw [if_neg (λe=>e hn15)]
 refine ⟨_,hz.cell rfl,aD (λhp=>?_) (λhp=>⟨_,hz.cell rfl,aD (λhp2=>?_) (λhp2=>?_)⟩)⟩
 ·rw [if_pos (by omega)];exact ⟨rfl,hn⟩
 ·rw [if_pos (by omega)];exact ⟨rfl,hn⟩
 rw [if_neg (by omega)]
 refine ⟨_,_,_,hz.cell rfl,bB (λh0=>?_) (λh0=>⟨_,_,_,hz.cell rfl,?_⟩)⟩
 ·rw [if_pos (by omega)];exact ⟨rfl,hn⟩
 rw [if_neg (by omega)]
 refine aW mix (λm env u=>∃ (i:Nat) (jj:List Value),m=v.mem.length - i∧i≤v.mem.length∧env=gU n ⟨b1,0,none⟩ r.Members r.Members_l r.Members_c r.Members_l i jj∧New w2 u∧∀ k,k<i→nl n v.mem k=true) v.mem.length
  ⟨0,_,by omega,by omega,rfl,Keep.refl _ _,λk hk=>by omega⟩ ?_
 rintro m env u ⟨i,jj,rfl,hi,rfl,hnu,hok⟩
 rw [pQ]
 refine aD (λhq=>?_) (λhq=>?_)
 ·have hlt:i<v.mem.length:=by omega
  have hg:v.mem[i]?=some v.mem[i]:=List.getElem?_eq_getElem hlt
  have hgd:=lN (d:=noM) hg
  have hno:nl n v.mem i=false→(List.range v.mem.length).all (nl n v.mem)=false:=kf hlt
  refine gN (cells:=aB.cells) aB.len (by omega) ((h.rd.new hn).new hnu) hg rfl hlen λb o hc _=>aB.mk_ex v.mem[i] ⟨hc,?_⟩
  refine mr (vs:=v.mem[i].cells) rfl (aB.single _) λb2 u2 hb2 hz2 hn2=>?_
  rintro u3 hu3
  have hn3:New u2 u3:=by rw [hu3];exact aT _
  clear hu3
  have hz3:=New.blk hn3 hz2
  have hnu3:=(hnu.new hn2).new hn3
  refine ⟨λy=>New u3 y,Keep.refl _ _,_,λy hy=>(New.blk hy hz3).cell (i:=0) rfl,aD (λhp3=>?_) (λhp3=>⟨_,λy hy=>(New.blk hy hz3).cell (i:=0) rfl,aD (λhp4=>?_) (λhp4=>aD (λhp5=>?_) (λhp5=>?_))⟩)⟩
  ·rw [if_pos (hno (by unfold nl;rw [hgd];simp;omega))];exact ⟨rfl,hn.new hnu3⟩
  ·rw [if_pos (hno (by unfold nl;rw [hgd];simp;omega))];exact ⟨rfl,hn.new hnu3⟩
  ·have hg1:v.mem[i - 1]?=some v.mem[i - 1]:=List.getElem?_eq_getElem (by omega)
   have hgd1:=lN (d:=noM) hg1
   refine ⟨_,λy hy=>(New.blk hy hz3).cell (i:=0) rfl,_,_,_,λy hy=>(New.blk (hnu3.new hy) hz).cell (i:=1) rfl,?_⟩
   refine iL (cells:=aB.cells) aB.len (by omega) ((h.rd.new hn).new hnu3) hg1 (by rw [w64 (by omega) (by omega)];omega) hlen λb' o' hc'=>⟨_,λy hy=>hc' y hy 0 _ rfl,aD (λhp6=>?_) (λhp6=>?_)⟩
   ·rw [if_pos (hno (by unfold nl;rw [hgd,hgd1];simp;omega))];exact ⟨rfl,hn.new hnu3⟩
   ·rw [w64 (by omega) (by omega)]
    refine ⟨v.mem.length - (i+1),by omega,i+1,_,rfl,by omega,rfl,hnu3,λk hk=>?_⟩
    rcases Nat.lt_succ_iff_lt_or_eq.1 hk with hk | rfl
    ·exact hok k hk
    ·unfold nl;rw [hgd,hgd1];simp;omega
  ·rw [w64 (by omega) (by omega)]
   refine ⟨v.mem.length - (i+1),by omega,i+1,_,rfl,by omega,rfl,hnu3,λk hk=>?_⟩
   rcases Nat.lt_succ_iff_lt_or_eq.1 hk with hk | rfl
   ·exact hok k hk
   ·unfold nl;rw [hgd];simp;omega
 have hall:(List.range v.mem.length).all (nl n v.mem)=true:=by
  rw [List.all_eq_true]
  intro k hk
  exact hok k (by have:=List.mem_range.1 hk;omega)
 rw [if_neg (by rw [hall];simp)]
 rw [rO]
 have hzu:=New.blk hnu hz
 refine ⟨_,_,_,hzu.cell (i:=1) rfl,?_⟩
 refine aW mix (λm env z=>∃ (i:Nat) (jj:List Value),m=v.mem.length - i∧i≤v.mem.length∧env=iX ⟨b1,0,none⟩ r.Members r.Members_l r.Members_c r.Members_l i jj∧New w2 z∧(v.mem.take i).all k7=true) v.mem.length
  ⟨0,_,by omega,by omega,rfl,hnu,rfl⟩ ?_
 clear hzu hnu hok hi hq
 rintro m env u ⟨i,jj,rfl,hi,rfl,hnu,hok⟩
 rw [pR]
 refine aD (λhq=>?_) (λhq=>?_)
 ·have hlt:i<v.mem.length:=by omega
  have hg:v.mem[i]?=some v.mem[i]:=List.getElem?_eq_getElem hlt
  have hno:k7 v.mem[i]=false→v.mem.all k7=false:=λe=>by
   rw [List.all_eq_false]
   exact ⟨v.mem[i],List.getElem_mem hlt,by simp [e]⟩
  refine gN (cells:=aB.cells) aB.len (by omega) ((h.rd.new hn).new hnu) hg rfl hlen λb o hc _=>aB.mk_ex v.mem[i] ⟨hc,?_⟩
  refine mr (vs:=v.mem[i].cells) rfl (aB.single _) λb2 u2 hb2 hz2 hn2=>?_
  have hnu2:=hnu.new hn2
  refine ⟨_,hz2.cell (i:=1) rfl,aD (λhp3=>?_) (λhp3=>⟨_,hz2.cell (i:=1) rfl,aD (λhp4=>?_) (λhp4=>?_)⟩)⟩
  ·rw [if_pos (hno (by unfold k7;simp;omega))];exact ⟨rfl,hn.new hnu2⟩
  ·rw [if_pos (hno (by unfold k7;simp;omega))];exact ⟨rfl,hn.new hnu2⟩
  ·rw [w64 (by omega) (by omega)]
   refine ⟨v.mem.length - (i+1),by omega,i+1,_,rfl,by omega,rfl,hnu2,?_⟩
   rw [List.take_add_one,hg,List.all_append,hok]
   simp [k7];omega
 have htake:v.mem.take i=v.mem:=List.take_of_length_le (by omega)
 rw [htake] at hok
 rw [if_neg (by rw [hok];simp)]
 rw [rP]
 have hzu:=New.blk hnu hz
 refine ⟨_,_,_,hzu.cell (i:=1) rfl,?_⟩
 rw [hlen]
 refine aC (ut ((h.rd.new hn).new hnu) hsm) ?_
 rintro x u3 ⟨rfl,hn3⟩
 refine ⟨_,rfl,nj (λhf=>?_) (λhf=>?_)⟩
 ·rw [if_pos hf];exact ⟨rfl,hn.new (hnu.new hn3)⟩
 ·rw [if_neg (by rw [hf];simp)];exact ⟨rfl,hn.new (hnu.new hn3)⟩
end Go.Proofs.YtafopfaomkklpaaGreat
namespace Go.Proofs.YtafopfaomkklpaaGreat
open Go.Proofs.Tryz
open Go.Eng IntKind
variable (w:World) (R:Value→World→Prop)
def dC (s1:Int) (s2:Addr) (s5:Int) (j:LV):LV:=[jg j 0,(.int .i64 s1),(.pointer (some s2)),jg j 1,jg j 2,(.int .i64 s5),jg j 3,jg j 4,jg j 5,jg j 6,jg j 7,jg j 8,jg j 9,jg j 10,jg j 11,jg j 12,jg j 13,jg j 14,jg j 15,jg j 16,jg j 17,jg j 18,jg j 19,jg j 20,jg j 21,jg j 22,jg j 23,jg j 24,jg j 25,jg j 26,jg j 27,jg j 28,jg j 29,jg j 30,jg j 31,jg j 32,jg j 33,jg j 34,jg j 35,jg j 36,jg j 37,jg j 38,jg j 39,jg j 40,jg j 41,jg j 42,jg j 43,jg j 44,jg j 45,jg j 46,jg j 47,jg j 48,jg j 49,jg j 50,jg j 51,jg j 52,jg j 53,jg j 54,jg j 55,jg j 56,jg j 57,jg j 58,jg j 59,jg j 60,jg j 61,jg j 62,jg j 63,jg j 64,jg j 65,jg j 66,jg j 67,jg j 68,jg j 69,jg j 70,jg j 71,jg j 72,jg j 73,jg j 74,jg j 75,jg j 76,jg j 77,jg j 78,jg j 79,jg j 80,jg j 81]
def iw (a:Addr) (j:LV):LV:=jq j 0 2 (.pointer (some a)::jq j 2 82 [])
def ef (s2:Addr) (s7:Int) (j:LV):LV:=jq j 0 2 (.pointer (some s2)::jq j 2 4 (.int .i64 s7::jq j 6 77 []))
def iy (a:Addr) (j:LV):LV:=jq j 0 2 (.pointer (some a)::jq j 2 82 [])
theorem oH (p0:aF) (p1:Int):fnW prog f103 [p0.val,.int .i64 p1] R w=(∀ b1 w1,b1=w.heap.size→w1=w.alloc (.cells p0.cells.toArray 31)→(bif (decide ((p1:Int)<1)) then (R (.int .i64 1) w1) else ((bif (decide ((p1:Int)>5)) then (R (.int .i64 1) w1) else (∃ a,w1.cell? ⟨b1,0,none⟩=some (.int .i64 a)∧(bif (decide ((a:Int)<0)) then (R (.int .i64 2) w1) else (∃ b,w1.cell? ⟨b1,0,none⟩=some (.int .i64 b)∧(bif (decide ((b:Int)≥16)) then (R (.int .i64 2) w1) else (bW prog (.loop (sub (aA f103) [1,1,1,0,1,0,0])) (dC p1 ⟨b1,0,none⟩ 0 (p0.val::undef::ji 0::uq 3 (ji p1::jb (decide ((p1:Int)<1))::jb false::ji p1::jb (decide ((p1:Int)>5))::jb (decide ((p1:Int)>5))::jp ⟨b1,0,none⟩::ji a::jb (decide ((a:Int)<0))::jb false::jp ⟨b1,0,none⟩::ji b::jb (decide ((b:Int)≥16))::jb (decide ((b:Int)≥16))::uq 62 []))) (aK 0 (nx f103 [1,1,1,1] R)) w1))))))))):=by kernel_rfl
theorem jR (s1:Int) (s2:Addr) (s5:Int) (j:LV) (N1:LV→World→Prop):W prog (sub (aA f103) [1,1,1,0,1,0,0]) (dC s1 s2 s5 j) (seqQ N1 (aK 0 (nx f103 [1,1,1,1] R))) w=(∃ a b c,w.cell? ⟨s2.block,s2.off+1,none⟩=some (.slice a b c)∧(bif (decide ((s5:Int)<(b:Nat))) then (∃ d f g,w.cell? ⟨s2.block,s2.off+1,none⟩=some (.slice d f g)∧idxS d f s5 3 λad=>∃ h,w.cell? ad=some (.int .i64 h)∧(bif (decide ((h:Int)<0)) then (R (.int .i64 1) w) else ((bif (decide ((h:Int)≥s1)) then (R (.int .i64 1) w) else ((bif (decide ((s5:Int)>0)) then (∃ i k l,w.cell? ⟨s2.block,s2.off+1,none⟩=some (.slice i k l)∧idxS i k (i64.wrap (s5 - 1)) 3 λn=>∃ m,w.cell? n=some (.int .i64 m)∧(bif (decide ((m:Int)≥h)) then (R (.int .i64 1) w) else (N1 (dC s1 s2 (i64.wrap (s5+1)) (jg j 0::jg j 1::jg j 2::ji h::jq j 4 16 (ji s5::jf s2 1::js a b c::jn b::jb (decide ((s5:Int)<(b:Nat)))::ji s5::ji (i64.wrap (s5+1))::jf s2 1::js d f g::ji s5::jp ad::jp ad::ji h::ji h::jb (decide ((h:Int)<0))::jb false::ji h::ji s1::jb (decide ((h:Int)≥s1))::jb (decide ((h:Int)≥s1))::jb false::ji s5::jb (decide ((s5:Int)>0))::jb true::jf s2 1::js i k l::ji s5::ji (i64.wrap (s5 - 1))::jp n::jp n::ji m::ji h::jb (decide ((m:Int)≥h))::jb (decide ((m:Int)≥h))::jb (decide ((m:Int)≥h))::jq j 55 27 []))) w))) else (N1 (dC s1 s2 (i64.wrap (s5+1)) (jg j 0::jg j 1::jg j 2::ji h::jq j 4 16 (ji s5::jf s2 1::js a b c::jn b::jb (decide ((s5:Int)<(b:Nat)))::ji s5::ji (i64.wrap (s5+1))::jf s2 1::js d f g::ji s5::jp ad::jp ad::ji h::ji h::jb (decide ((h:Int)<0))::jb false::ji h::ji s1::jb (decide ((h:Int)≥s1))::jb (decide ((h:Int)≥s1))::jb false::ji s5::jb (decide ((s5:Int)>0))::jb false::uq 9 (jb false::jb false::jq j 55 27 [])))) w))))))) else (W prog (sub (aA f103) [1,1,1,1]) (iw s2 (jg j 0::ji s1::jg j 1::jg j 2::ji s5::jq j 3 17 (ji s5::jf s2 1::js a b c::jn b::jb (decide ((s5:Int)<(b:Nat)))::jq j 25 57 []))) (retQ prog f103 R) w))):=by kernel_rfl
theorem lp (a:Addr) (j:LV):W prog (sub (aA f103) [1,1,1,1]) (iw a j) (retQ prog f103 R) w=(∃ b c d,w.cell? ⟨a.block,a.off+1,none⟩=some (.slice b c d)∧(bif (((c:Nat):Int) == 0) then (R (.int .i64 1) w) else (bW prog (.loop (sub (aA f103) [1,1,1,1,1,0,1,0,0])) (ef a 0 (jq j 0 6 (jq j 7 50 (jf a 1::js b c d::jn c::jb (((c:Nat):Int) == 0)::jq j 61 23 [])))) (aK 2 (nx f103 [1,1,1,1,1,1] R)) w))):=by kernel_rfl
theorem jS (s2:Addr) (s7:Int) (j:LV) (N2:LV→World→Prop):W prog (sub (aA f103) [1,1,1,1,1,0,1,0,0]) (ef s2 s7 j) (seqQ N2 (aK 2 (nx f103 [1,1,1,1,1,1] R))) w=(∃ a b c,w.cell? ⟨s2.block,s2.off+1,none⟩=some (.slice a b c)∧(bif (decide ((s7:Int)<(b:Nat))) then (∃ d f g,w.cell? ⟨s2.block,s2.off+1,none⟩=some (.slice d f g)∧idxS d f s7 3 λad=>∃ h,w.cell? ⟨ad.block,ad.off+1,none⟩=some (.int .i64 h)∧(bif (decide ((h:Int)<1)) then (R (.int .i64 2) w) else ((bif (decide ((h:Int)>31)) then (R (.int .i64 2) w) else (N2 (ef s2 (i64.wrap (s7+1)) (jq j 0 6 (ji h::jq j 7 53 (ji s7::jf s2 1::js a b c::jn b::jb (decide ((s7:Int)<(b:Nat)))::ji s7::ji (i64.wrap (s7+1))::jf s2 1::js d f g::ji s7::jp ad::jf ad 1::ji h::ji h::jb (decide ((h:Int)<1))::jb false::ji h::jb (decide ((h:Int)>31))::jb (decide ((h:Int)>31))::jq j 79 4 [])))) w))))) else (W prog (sub (aA f103) [1,1,1,1,1,1]) (iy s2 (jq j 0 6 (ji s7::jq j 6 54 (ji s7::jf s2 1::js a b c::jn b::jb (decide ((s7:Int)<(b:Nat)))::jq j 65 18 [])))) (retQ prog f103 R) w))):=by kernel_rfl
theorem lq (a:Addr) (j:LV):W prog (sub (aA f103) [1,1,1,1,1,1]) (iy a j) (retQ prog f103 R) w=(aF.ex λr=>aE w a 0 r.cells∧Calls prog 143 #[r.val] w λe w1=>∃ b c d,e=.returned (.slice b c d)∧(bif (((c:Nat):Int) == 0) then (R (.int .i64 13) w1) else (R (.int .i64 0) w1))):=by kernel_rfl
def eu (s1:Addr) (s3:Option Addr) (a b:Nat) (s4:Int) (j:LV):LV:=jq j 0 1 (.pointer (some s1)::jq j 1 1 (.slice s3 a b::.int .i64 s4::jq j 2 22 []))
def k8 (s3:Option Addr) (a b:Nat) (j:LV):LV:=jq j 0 3 (.slice s3 a b::jq j 3 23 [])
theorem rQ (p0:aF):fnW prog f143 [p0.val] R w=(∀ b1 w1,b1=w.heap.size→w1=w.alloc (.cells p0.cells.toArray 31)→bW prog (.loop (sub (aA f143) [1,1,0,1,0,0])) (eu ⟨b1,0,none⟩ none 0 0 0 (p0.val::jz::uq 22 [])) (aK 0 (nx f143 [1,1,1] R)) w1):=by kernel_rfl
theorem mu (s1:Addr) (s3:Option Addr) (a b:Nat) (s4:Int) (j:LV) (N1:LV→World→Prop):W prog (sub (aA f143) [1,1,0,1,0,0]) (eu s1 s3 a b s4 j) (seqQ N1 (aK 0 (nx f143 [1,1,1] R))) w=(∃ c d f,w.cell? ⟨s1.block,s1.off+1,none⟩=some (.slice c d f)∧(bif (decide ((s4:Int)<(d:Nat))) then (∃ g h i,w.cell? ⟨s1.block,s1.off+1,none⟩=some (.slice g h i)∧idxS g h s4 3 λad=>∃ k,w.cell? ⟨ad.block,ad.off+2,none⟩=some (.bool k)∧(bif k then (∃ l m n,w.cell? ⟨s1.block,s1.off+1,none⟩=some (.slice l m n)∧idxS l m s4 3 λq=>aB.ex λr=>aE w q 0 r.cells∧∀ b1 w1,b1=w.heap.size→w1=w.alloc (.cells r.cells.toArray 133)→∃ (ap:Option Addr) (o p:Nat),∃ w2,(Builtin.append_ #[29,29] 29 #[.slice s3 a b,.slice (some ⟨b1,0,none⟩) 1 1]).run prog w1=.ok (.slice ap o p) w2∧N1 (eu s1 ap o p (i64.wrap (s4+1)) [jg j 0,jg j 1,ji s4,jf s1 1,js c d f,jn d,jb (decide ((s4:Int)<(d:Nat))),ji s4,ji (i64.wrap (s4+1)),jf s1 1,js g h i,ji s4,jp ad,jf ad 2,jb k,js s3 a b,jf s1 1,js l m n,ji s4,jp q,r.val,js (some ⟨b1,0,none⟩) 1 1,js ap o p,jg j 23]) w2) else (N1 (eu s1 s3 a b (i64.wrap (s4+1)) (jg j 0::jg j 1::ji s4::jf s1 1::js c d f::jn d::jb (decide ((s4:Int)<(d:Nat)))::ji s4::ji (i64.wrap (s4+1))::jf s1 1::js g h i::ji s4::jp ad::jf ad 2::jb k::jq j 15 9 [])) w))) else (W prog (sub (aA f143) [1,1,1]) (k8 s3 a b (jg j 0::jp s1::jg j 1::ji s4::ji s4::jf s1 1::js c d f::jn d::jb (decide ((s4:Int)<(d:Nat)))::jq j 7 17 [])) (retQ prog f143 R) w))):=by kernel_rfl
theorem oI (s3:Option Addr) (a b:Nat) (j:LV):W prog (sub (aA f143) [1,1,1]) (k8 s3 a b j) (retQ prog f143 R) w=(R (.slice s3 a b) w):=by kernel_rfl
end Go.Proofs.YtafopfaomkklpaaGreat
namespace Go.Proofs.YtafopfaomkklpaaGreat
open Go.Proofs.Tryz
open Go.Eng
theorem xM {u:World} {a:Option Addr} {n cap:Nat} {L:List aB} (ho:Owns u TMb 3 a n cap (gV L).flatten) (hn:n=L.length) {m:aB} (hb1:n≤1000000) {K:Nat→Option Addr→Nat→Nat→World→Prop}
  (hk:∀ b ap cap' w3,b=u.heap.size→Owns w3 TMb 3 ap (n+1) cap' (gV (L++[m])).flatten→Keep (isB a) u w3→(∀ k,isB ap k→isB a k∨u.heap.size≤k)→K b ap (n+1) cap' w3) :
  ∀ b1 w2,b1=u.heap.size→w2=u.alloc (.cells m.cells.toArray TMb)→∃ (ap:Option Addr) (ap_len ap_cap:Nat),∃ w3,(Builtin.append_ #[TSM,TSM] TSM #[(.slice a n cap),(.slice (some ⟨b1,0,none⟩) 1 1)]).run prog w2=.ok (.slice ap ap_len ap_cap) w3∧K b1 ap ap_len ap_cap w3:=by
 obtain ⟨inf,hi,hz,hsz,hby⟩:=nV (T:=TMb) (z:=.agg #[.int .i64 0,.int .i64 0,.bool false]) (n:=3) (m:=24) (by kernel_rfl)
 rw [←hsz] at ho
 refine C7 Tryz.underlying29 hi hz (by rw [hsz];rfl) (by omega) ho (by rw [hsz];rfl) (aB.single m) (by omega) (by omega) ?_
 intro b ap cap' w3 h1 h2
 rw [hsz,←zu] at h2
 exact hk b ap cap' w3 h1 h2
theorem Dz {M:Nat→Prop} {w:World} {r:aF} {v:Vw} (h:gO M w r v):Does 143 [r.val] w λx w'=>∃ a c,x=.slice a (v.mem.filter aB.Full).length c∧New w w':=by
 refine does Tryz.func143 ?_
 rw [rQ]
 rintro b1 w1 hb1 hw1
 obtain ⟨hz,hn⟩:=aR hb1 hw1
 have hz:Blk w1 b1 r.cells TVw:=hz
 clear hw1
 have hsm:=h.small
 have hlen:=h.len
 refine aW mix (λm env u=>∃ (i:Nat) (a:Option Addr) (n c:Nat) (jj:List Value),m=v.mem.length - i∧i≤v.mem.length∧env=eu ⟨b1,0,none⟩ a n c i jj∧n=((v.mem.take i).filter aB.Full).length∧New w1 u∧Owns u TMb 3 a n c (gV ((v.mem.take i).filter aB.Full)).flatten∧(∀ k,isB a k→w1.heap.size≤k)) v.mem.length
  ⟨0,none,0,0,_,by omega,by omega,rfl,rfl,Keep.refl _ _,Owns.nil _ _ _,λk hk=>by obtain ⟨o,ho⟩:=hk;cases ho⟩ ?_
 rintro m env u ⟨i,a,n,c,jj,rfl,hi,rfl,hn',hnu,hown,hfr⟩
 have hzu:=New.blk hnu hz
 rw [mu]
 refine ⟨_,_,_,hzu.cell (i:=1) rfl,aD (λhq=>?_) (λhq=>?_)⟩
 ·have hlt:i<v.mem.length:=by omega
  have hg:v.mem[i]?=some v.mem[i]:=List.getElem?_eq_getElem hlt
  have hrd:=(h.rd.new hn).new hnu
  have hlf:=List.length_filter_le aB.Full (v.mem.take i)
  have hlt2:(v.mem.take i).length≤i:=by rw [List.length_take];omega
  refine ⟨_,_,_,hzu.cell (i:=1) rfl,gN (cells:=aB.cells) aB.len (by omega) hrd hg rfl hlen λb o hc hcc=>⟨_,hcc 2 _ rfl,lm (λhf=>?_) (λhf=>?_)⟩⟩
  ·have hfl:(v.mem.take (i+1)).filter aB.Full=(v.mem.take i).filter aB.Full++[v.mem[i]]:=by
    rw [List.take_add_one,hg,List.filter_append]
    congr 1
    simp [hf]
   refine ⟨_,_,_,hzu.cell (i:=1) rfl,gN (cells:=aB.cells) aB.len (by omega) hrd hg rfl hlen λb o hc hcc=>aB.mk_ex v.mem[i] ⟨hc,?_⟩⟩
   refine xM hown hn' (by omega) ?_
   intro b3 ap cap u3 hb3 ho3 hk3 hap
   rw [w64 (by omega) (by omega)]
   refine ⟨v.mem.length - (i+1),by omega,i+1,ap,n+1,cap,_,rfl,by omega,rfl,by rw [hfl,List.length_append,hn'];rfl,wo hnu hk3 hfr,by rw [hfl];exact ho3,λk hk=>?_⟩
   rcases hap k hk with h1 | h1
   ·exact hfr k h1
   ·have:=hnu.size;omega
  ·have hfl:(v.mem.take (i+1)).filter aB.Full=(v.mem.take i).filter aB.Full:=by
    rw [List.take_add_one,hg,List.filter_append]
    simp [hf]
   rw [w64 (by omega) (by omega)]
   exact ⟨v.mem.length - (i+1),by omega,i+1,a,n,c,_,rfl,by omega,rfl,by rw [hfl,hn'],hnu,by rw [hfl];exact hown,hfr⟩
 ·rw [oI,hn',List.take_of_length_le (by omega)]
  exact ⟨a,c,rfl,hn.new hnu⟩
theorem yJ (l:List aB):(l.filter aB.Full).length=0↔l.any aB.Full=false:=by
 rw [List.length_eq_zero_iff,List.filter_eq_nil_iff,List.any_eq_false]
set_option maxHeartbeats 1000000 in
theorem yK {M:Nat→Prop} {w:World} {r:aF} {v:Vw} (h:gO M w r v) (n:Int):Does 103 [r.val,.int .i64 n] w λx w'=>x=.int .i64 (v.valid n)∧New w w':=by
 refine does Tryz.func103 ?_
 rw [oH]
 rintro b1 w1 hb1 hw1
 obtain ⟨hz,hn⟩:=aR hb1 hw1
 have hz:Blk w1 b1 r.cells TVw:=hz
 clear hw1
 have hsm:=h.small
 have hlen:=h.len
 have hnum:=h.num
 unfold Vw.valid
 refine aD (λhp=>?_) (λhp1=>aD (λhp=>?_) (λhp2=>?_))
 ·rw [if_pos (by omega)];exact ⟨rfl,hn⟩
 ·rw [if_pos (by omega)];exact ⟨rfl,hn⟩
 rw [if_neg (by omega)]
 refine ⟨_,hz.cell rfl,aD (λhp=>?_) (λhp=>⟨_,hz.cell rfl,aD (λhp2=>?_) (λhp2=>?_)⟩)⟩
 ·rw [if_pos (by omega)];exact ⟨rfl,hn⟩
 ·rw [if_pos (by omega)];exact ⟨rfl,hn⟩
 rw [if_neg (by omega)]
 refine aW mix (λm env u=>∃ (i:Nat) (jj:List Value),m=v.mem.length - i∧i≤v.mem.length∧env=dC n ⟨b1,0,none⟩ i jj∧u=w1∧∀ k,k<i→nl n v.mem k=true) v.mem.length
  ⟨0,_,by omega,by omega,rfl,rfl,λk hk=>by omega⟩ ?_
 rintro m env u ⟨i,jj,rfl,hi,rfl,rfl,hok⟩
 rw [jR]
 have hrd:=h.rd.new hn
 refine ⟨_,_,_,hz.cell (i:=1) rfl,aD (λhq=>?_) (λhq=>?_)⟩
 ·have hlt:i<v.mem.length:=by omega
  have hg:v.mem[i]?=some v.mem[i]:=List.getElem?_eq_getElem hlt
  have hgd:=lN (d:=noM) hg
  have hno:nl n v.mem i=false→(if v.mem.length=0 then 1 else if (List.range v.mem.length).all (nl n v.mem)=false then 1 else if v.mem.all k7=false then 2 else if v.mem.any aB.Full=false then 13 else (0:Int))=1:=λe=>by
   rw [if_neg (by omega),if_pos (kf hlt e)]
  refine ⟨_,_,_,hz.cell (i:=1) rfl,gN (cells:=aB.cells) aB.len (by omega) hrd hg rfl hlen λb o hc hcc=>⟨_,hcc 0 _ rfl,aD (λhp3=>?_) (λhp3=>aD (λhp4=>?_) (λhp4=>aD (λhp5=>?_) (λhp5=>?_)))⟩⟩
  ·exact ⟨by rw [hno (by unfold nl;rw [hgd];simp;omega)],hn⟩
  ·exact ⟨by rw [hno (by unfold nl;rw [hgd];simp;omega)],hn⟩
  ·have hg1:v.mem[i - 1]?=some v.mem[i - 1]:=List.getElem?_eq_getElem (by omega)
   have hgd1:=lN (d:=noM) hg1
   refine ⟨_,_,_,hz.cell (i:=1) rfl,?_⟩
   refine gN (cells:=aB.cells) aB.len (by omega) hrd hg1 (by rw [w64 (by omega) (by omega)];omega) hlen λb' o' _ hc'=>⟨_,hc' 0 _ rfl,aD (λhp6=>?_) (λhp6=>?_)⟩
   ·exact ⟨by rw [hno (by unfold nl;rw [hgd,hgd1];simp;omega)],hn⟩
   ·rw [w64 (by omega) (by omega)]
    refine ⟨v.mem.length - (i+1),by omega,i+1,_,rfl,by omega,rfl,rfl,λk hk=>?_⟩
    rcases Nat.lt_succ_iff_lt_or_eq.1 hk with hk | rfl
    ·exact hok k hk
    ·unfold nl;rw [hgd,hgd1];simp;omega
  ·rw [w64 (by omega) (by omega)]
   refine ⟨v.mem.length - (i+1),by omega,i+1,_,rfl,by omega,rfl,rfl,λk hk=>?_⟩
   rcases Nat.lt_succ_iff_lt_or_eq.1 hk with hk | rfl
   ·exact hok k hk
   ·unfold nl;rw [hgd];simp;omega
 have hall:(List.range v.mem.length).all (nl n v.mem)=true:=by
  rw [List.all_eq_true]
  intro k hk
  exact hok k (by have:=List.mem_range.1 hk;omega)
 rw [lp]
 refine ⟨_,_,_,hz.cell (i:=1) rfl,bB (λh0=>?_) (λh0=>?_)⟩
 ·rw [if_pos (by omega)];exact ⟨rfl,hn⟩
 rw [if_neg (by omega),if_neg (by rw [hall];simp)]
 refine aW mix (λm env z=>∃ (i:Nat) (jj:List Value),m=v.mem.length - i∧i≤v.mem.length∧env=ef ⟨b1,0,none⟩ i jj∧z=u∧(v.mem.take i).all k7=true) v.mem.length
  ⟨0,_,by omega,by omega,rfl,rfl,rfl⟩ ?_
 clear hok hi hq
 rintro m env z ⟨i,jj,rfl,hi,rfl,rfl,hok⟩
 rw [jS]
 refine ⟨_,_,_,hz.cell (i:=1) rfl,aD (λhq=>?_) (λhq=>?_)⟩
 ·have hlt:i<v.mem.length:=by omega
  have hg:v.mem[i]?=some v.mem[i]:=List.getElem?_eq_getElem hlt
  have hno:k7 v.mem[i]=false→v.mem.all k7=false:=λe=>by
   rw [List.all_eq_false]
   exact ⟨v.mem[i],List.getElem_mem hlt,by simp [e]⟩
  refine ⟨_,_,_,hz.cell (i:=1) rfl,gN (cells:=aB.cells) aB.len (by omega) hrd hg rfl hlen λb o hc hcc=>⟨_,hcc 1 _ rfl,aD (λhp3=>?_) (λhp3=>aD (λhp4=>?_) (λhp4=>?_))⟩⟩
  ·rw [if_pos (hno (by unfold k7;simp;omega))];exact ⟨rfl,hn⟩
  ·rw [if_pos (hno (by unfold k7;simp;omega))];exact ⟨rfl,hn⟩
  ·rw [w64 (by omega) (by omega)]
   refine ⟨v.mem.length - (i+1),by omega,i+1,_,rfl,by omega,rfl,rfl,?_⟩
   rw [List.take_add_one,hg,List.all_append,hok]
   simp [k7];omega
 have htake:v.mem.take i=v.mem:=List.take_of_length_le (by omega)
 rw [htake] at hok
 rw [if_neg (by rw [hok];simp)]
 rw [lq]
 refine aF.mk_ex r ⟨aH hz rfl,?_⟩
 refine aC (Dz (h.new hn)) ?_
 rintro x u3 ⟨a,c,rfl,hn3⟩
 refine ⟨_,_,_,rfl,bB (λhf=>?_) (λhf=>?_)⟩
 ·rw [if_pos ((yJ _).1 (by omega))];exact ⟨rfl,hn.new hn3⟩
 ·rw [if_neg (λe=>by have:=(yJ v.mem).2 e;omega)];exact ⟨rfl,hn.new hn3⟩
end Go.Proofs.YtafopfaomkklpaaGreat
