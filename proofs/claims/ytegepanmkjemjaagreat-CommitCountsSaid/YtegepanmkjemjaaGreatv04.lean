import Derived.Test.YtegepanmkjemjaaGreatv02
import Derived.Test.YtegepanmkjemjaaGreatv03
import Derived.Test.YtegepanmkjemjaaGreatProg
import Derived.RangeFuncNested
import Derived.RangeFuncBound
import Derived.RangeFuncCalls
import Derived.RangeFuncLeaves
set_option linter.unusedVariables false
namespace Go.Proofs.YtegepanmkjemjaaGreat
open Go.Proofs.Tryz
open Go.Eng
abbrev TMb:TypeId:=103
abbrev TVw:TypeId:=30
abbrev TSM:TypeId:=28
def ir (l:List aC):List (List Value):=l.map aC.cells
theorem yP (l:List aC) (m:aC):(ir (l++[m])).flatten=(ir l).flatten++m.cells:=by simp [ir]
structure Vw where
 number:Int
 mem:List aC
def noM:aC:=⟨0,0,false⟩
def pX (n:Int) (l:List aC) (i:Nat):Bool:=
 decide (0≤(l.getD i noM).Node∧(l.getD i noM).Node<n) && (decide (i=0) || decide ((l.getD (i - 1) noM).Node<(l.getD i noM).Node))
def pY (m:aC):Bool:=decide (1≤m.Boot∧m.Boot≤31)
def Vw.valid (v:Vw) (n:Int):Int:=
 if ¬ (1≤n∧n≤5) then 1 else if v.number<0∨16≤v.number then 2 else if v.mem.length=0 then 1
 else if (List.range v.mem.length).all (pX n v.mem)=false then 1 else if v.mem.all pY=false then 2 else if v.mem.any aC.Full=false then 13 else 0
structure ViewAt (M:Nat→Prop) (w:World) (r:aM) (v:Vw):Prop where
 num:r.Number=v.number
 len:r.Members_l=v.mem.length
 cap:r.Members_l≤r.Members_c
 rd:Rd w r.Members (ir v.mem).flatten
 off:(ir v.mem).flatten=[]∨Off M r.Members
 small:v.mem.length≤1000000
theorem ViewAt.new {M:Nat→Prop} {w w':World} {r:aM} {v:Vw} (h:ViewAt M w r v) (hn:New w w'):ViewAt M w' r v:=⟨h.num,h.len,h.cap,h.rd.new hn,h.off,h.small⟩
theorem zR (w:World) (n:Int):Does 171 [.int .i64 n] w λv w'=>v=.bool (decide (1≤n∧n≤5))∧w'=w:=by
 refine does Tryz.func171 ?_
 rw [sr]
 refine aH (λh=>⟨?_,rfl⟩) (λh=>⟨?_,rfl⟩)
 ·congr 1;simp;omega
 ·congr 1;simp;omega
theorem B5 (w:World) (m:aC):Does 173 [m.val] w λv w'=>v=.bool m.Full∧New w w':=by
 refine does Tryz.func173 ?_
 rw [tz]
 rintro b1 w1 hb1 hw1
 obtain ⟨hz,hn⟩:=aN hb1 hw1
 exact ⟨_,hz.cell rfl,rfl,hn⟩
theorem Fc:mA prog 173=true:=by kernel_rfl
section
attribute [local irreducible] mA oy tv
theorem xe {w:World} {a:Option Addr} {c:Nat} {l:List aC} (h:Rd w a (ir l).flatten) (hl:l.length≤1000000) :
  Does 195 [.slice a l.length c,.func (.func 173) #[] #[]] w λv w'=>∃ z:Int,v=.int .i64 z∧(decide (z≥0)=l.any aC.Full)∧New w w':=by
 refine does Tryz.func195 ?_
 rw [fF]
 refine aQ mix (λm env u=>∃ (i:Nat) (jj:List Value),m=l.length - i∧i≤l.length∧env=aZ a l.length c (.func (.func 173) #[] #[]) l.length i jj∧New w u∧(l.take i).any aC.Full=false) l.length
  ⟨0,_,by omega,by omega,rfl,Keep.refl _ _,rfl⟩ ?_
 rintro m env u ⟨i,jj,rfl,hi,rfl,hn,hno⟩
 rw [ey]
 refine aH (λhp=>?_) (λhp=>?_)
 ·have hlt:i<l.length:=by omega
  have hg:l[i]?=some l[i]:=List.getElem?_eq_getElem hlt
  refine gD (cells:=aC.cells) aC.len (by omega) (h.new hn) hg rfl rfl λb o hc _=>aC.mk_ex l[i] ⟨hc,?_⟩
  refine om Fc (xs:=#[l[i].val]) (by simp) ?_
  refine aF (B5 _ l[i]) ?_
  rintro v u1 ⟨rfl,hn1⟩
  refine ⟨_,rfl,sm (λhf=>⟨i,rfl,?_,hn.new hn1⟩) (λhf=>?_)⟩
  ·have h1:l.any aC.Full=true:=List.any_eq_true.2 ⟨l[i],List.getElem_mem hlt,hf⟩
   rw [h1]
   simp
  ·rw [w64 (by omega) (by omega)]
   refine ⟨l.length - (i+1),by omega,i+1,_,rfl,by omega,rfl,hn.new hn1,?_⟩
   rw [List.take_add_one,hg,List.any_append,hno]
   simpa using hf
 ·rw [eL]
  have:l.take i=l:=List.take_of_length_le (by omega)
  rw [this] at hno
  exact ⟨-1,rfl,by rw [hno];decide,hn⟩
end
theorem tA {w:World} {a:Option Addr} {c:Nat} {l:List aC} (h:Rd w a (ir l).flatten) (hl:l.length≤1000000) :
  Does 172 [.slice a l.length c,.func (.func 173) #[] #[]] w λv w'=>v=.bool (l.any aC.Full)∧New w w':=by
 refine does Tryz.func172 ?_
 rw [eR]
 refine aF (xe h hl) ?_
 rintro v w1 ⟨z,rfl,hz,hn⟩
 exact ⟨_,rfl,by rw [hz],hn⟩
theorem lx {p:Nat→Bool} {n i:Nat} (hi:i<n) (h:p i=false):(List.range n).all p=false:=by
 rw [List.all_eq_false]
 exact ⟨i,List.mem_range.2 hi,by simp [h]⟩
theorem nC {α:Type} {l:List α} {i:Nat} {x d:α} (h:l[i]?=some x):l.getD i d=x:=by rw [List.getD_eq_getElem?_getD,h];rfl
set_option maxHeartbeats 1000000 in
theorem B6 {M:Nat→Prop} {w:World} {r:aM} {v:Vw} (h:ViewAt M w r v) (n:Int):Does 141 [r.val,.int .i64 n] w λx w'=>x=.int .i64 (v.valid n)∧New w w':=by
 refine does Tryz.func141 ?_
 rw [uy]
 rintro b1 w1 hb1 hw1
 obtain ⟨hz,hn⟩:=aN hb1 hw1
 have hz:Blk w1 b1 r.cells TVw:=hz
 clear hw1
 have hsm:=h.small
 have hlen:=h.len
 have hnum:=h.num
 unfold Vw.valid
 refine aF (zR _ n) ?_
 rintro x w2 ⟨rfl,rfl⟩
 refine ⟨_,rfl,dT (λhb=>?_) (λhb=>?_)⟩
 ·rw [if_pos (by simpa using hb)];exact ⟨rfl,hn⟩
 have hn15:1≤n∧n≤5:=by simpa using hb
 rw [if_neg (λe=>e hn15)]
 refine ⟨_,hz.cell rfl,aH (λhp=>?_) (λhp=>⟨_,hz.cell rfl,aH (λhp2=>?_) (λhp2=>?_)⟩)⟩
 ·rw [if_pos (by omega)];exact ⟨rfl,hn⟩
 ·rw [if_pos (by omega)];exact ⟨rfl,hn⟩
 rw [if_neg (by omega)]
 refine ⟨_,_,_,hz.cell rfl,bJ (λh0=>?_) (λh0=>⟨_,_,_,hz.cell rfl,?_⟩)⟩
 ·rw [if_pos (by omega)];exact ⟨rfl,hn⟩
 rw [if_neg (by omega)]
 refine aQ mix (λm env u=>∃ (i:Nat) (jj:List Value),m=v.mem.length - i∧i≤v.mem.length∧env=fX n ⟨b1,0,none⟩ r.Members r.Members_l r.Members_c r.Members_l i jj∧New w2 u∧∀ k,k<i→pX n v.mem k=true) v.mem.length
  ⟨0,_,by omega,by omega,rfl,Keep.refl _ _,λk hk=>by omega⟩ ?_
 rintro m env u ⟨i,jj,rfl,hi,rfl,hnu,hok⟩
 rw [nA]
 refine aH (λhq=>?_) (λhq=>?_)
 ·have hlt:i<v.mem.length:=by omega
  have hg:v.mem[i]?=some v.mem[i]:=List.getElem?_eq_getElem hlt
  have hgd:=nC (d:=noM) hg
  have hno:pX n v.mem i=false→(List.range v.mem.length).all (pX n v.mem)=false:=lx hlt
  refine gD (cells:=aC.cells) aC.len (by omega) ((h.rd.new hn).new hnu) hg rfl hlen λb o hc _=>aC.mk_ex v.mem[i] ⟨hc,?_⟩
  refine iR (vs:=v.mem[i].cells) rfl (aC.single _) λb2 u2 hb2 hz2 hn2=>?_
  rintro u3 hu3
  have hn3:New u2 u3:=by rw [hu3];exact aT _
  clear hu3
  have hz3:=New.blk hn3 hz2
  have hnu3:=(hnu.new hn2).new hn3
  refine ⟨λy=>New u3 y,Keep.refl _ _,_,λy hy=>(New.blk hy hz3).cell (i:=0) rfl,aH (λhp3=>?_) (λhp3=>⟨_,λy hy=>(New.blk hy hz3).cell (i:=0) rfl,aH (λhp4=>?_) (λhp4=>aH (λhp5=>?_) (λhp5=>?_))⟩)⟩
  ·rw [if_pos (hno (by unfold pX;rw [hgd];simp;omega))];exact ⟨rfl,hn.new hnu3⟩
  ·rw [if_pos (hno (by unfold pX;rw [hgd];simp;omega))];exact ⟨rfl,hn.new hnu3⟩
  ·have hg1:v.mem[i - 1]?=some v.mem[i - 1]:=List.getElem?_eq_getElem (by omega)
   have hgd1:=nC (d:=noM) hg1
   refine ⟨_,λy hy=>(New.blk hy hz3).cell (i:=0) rfl,_,_,_,λy hy=>(New.blk (hnu3.new hy) hz).cell (i:=1) rfl,?_⟩
   refine lG (cells:=aC.cells) aC.len (by omega) ((h.rd.new hn).new hnu3) hg1 (by rw [w64 (by omega) (by omega)];omega) hlen λb' o' hc'=>⟨_,λy hy=>hc' y hy 0 _ rfl,aH (λhp6=>?_) (λhp6=>?_)⟩
   ·rw [if_pos (hno (by unfold pX;rw [hgd,hgd1];simp;omega))];exact ⟨rfl,hn.new hnu3⟩
   ·rw [w64 (by omega) (by omega)]
    refine ⟨v.mem.length - (i+1),by omega,i+1,_,rfl,by omega,rfl,hnu3,λk hk=>?_⟩
    rcases Nat.lt_succ_iff_lt_or_eq.1 hk with hk | rfl
    ·exact hok k hk
    ·unfold pX;rw [hgd,hgd1];simp;omega
  ·rw [w64 (by omega) (by omega)]
   refine ⟨v.mem.length - (i+1),by omega,i+1,_,rfl,by omega,rfl,hnu3,λk hk=>?_⟩
   rcases Nat.lt_succ_iff_lt_or_eq.1 hk with hk | rfl
   ·exact hok k hk
   ·unfold pX;rw [hgd];simp;omega
 have hall:(List.range v.mem.length).all (pX n v.mem)=true:=by
  rw [List.all_eq_true]
  intro k hk
  exact hok k (by have:=List.mem_range.1 hk;omega)
 rw [if_neg (by rw [hall];simp)]
 rw [pV]
 have hzu:=New.blk hnu hz
 refine ⟨_,_,_,hzu.cell (i:=1) rfl,?_⟩
 refine aQ mix (λm env z=>∃ (i:Nat) (jj:List Value),m=v.mem.length - i∧i≤v.mem.length∧env=iq ⟨b1,0,none⟩ r.Members r.Members_l r.Members_c r.Members_l i jj∧New w2 z∧(v.mem.take i).all pY=true) v.mem.length
  ⟨0,_,by omega,by omega,rfl,hnu,rfl⟩ ?_
 clear hzu hnu hok hi hq
 rintro m env u ⟨i,jj,rfl,hi,rfl,hnu,hok⟩
 rw [nB]
 refine aH (λhq=>?_) (λhq=>?_)
 ·have hlt:i<v.mem.length:=by omega
  have hg:v.mem[i]?=some v.mem[i]:=List.getElem?_eq_getElem hlt
  have hno:pY v.mem[i]=false→v.mem.all pY=false:=λe=>by
   rw [List.all_eq_false]
   exact ⟨v.mem[i],List.getElem_mem hlt,by simp [e]⟩
  refine gD (cells:=aC.cells) aC.len (by omega) ((h.rd.new hn).new hnu) hg rfl hlen λb o hc _=>aC.mk_ex v.mem[i] ⟨hc,?_⟩
  refine iR (vs:=v.mem[i].cells) rfl (aC.single _) λb2 u2 hb2 hz2 hn2=>?_
  have hnu2:=hnu.new hn2
  refine ⟨_,hz2.cell (i:=1) rfl,aH (λhp3=>?_) (λhp3=>⟨_,hz2.cell (i:=1) rfl,aH (λhp4=>?_) (λhp4=>?_)⟩)⟩
  ·rw [if_pos (hno (by unfold pY;simp;omega))];exact ⟨rfl,hn.new hnu2⟩
  ·rw [if_pos (hno (by unfold pY;simp;omega))];exact ⟨rfl,hn.new hnu2⟩
  ·rw [w64 (by omega) (by omega)]
   refine ⟨v.mem.length - (i+1),by omega,i+1,_,rfl,by omega,rfl,hnu2,?_⟩
   rw [List.take_add_one,hg,List.all_append,hok]
   simp [pY];omega
 have htake:v.mem.take i=v.mem:=List.take_of_length_le (by omega)
 rw [htake] at hok
 rw [if_neg (by rw [hok];simp)]
 rw [pW]
 have hzu:=New.blk hnu hz
 refine ⟨_,_,_,hzu.cell (i:=1) rfl,?_⟩
 rw [hlen]
 refine aF (tA ((h.rd.new hn).new hnu) hsm) ?_
 rintro x u3 ⟨rfl,hn3⟩
 refine ⟨_,rfl,dT (λhf=>?_) (λhf=>?_)⟩
 ·rw [if_pos hf];exact ⟨rfl,hn.new (hnu.new hn3)⟩
 ·rw [if_neg (by rw [hf];simp)];exact ⟨rfl,hn.new (hnu.new hn3)⟩
end Go.Proofs.YtegepanmkjemjaaGreat
namespace Go.Proofs.YtegepanmkjemjaaGreat
open Go.Proofs.Tryz
open Go.Eng
theorem DT {u:World} {a:Option Addr} {n cap:Nat} {L:List aC} (ho:Owns u TMb 3 a n cap (ir L).flatten) (hn:n=L.length) {m:aC} (hb1:n≤1000000) {K:Nat→Option Addr→Nat→Nat→World→Prop}
  (hk:∀ b ap cap' w3,b=u.heap.size→Owns w3 TMb 3 ap (n+1) cap' (ir (L++[m])).flatten→Keep (isB a) u w3→(∀ k,isB ap k→isB a k∨u.heap.size≤k)→K b ap (n+1) cap' w3) :
  ∀ b1 w2,b1=u.heap.size→w2=u.alloc (.cells m.cells.toArray TMb)→∃ (ap:Option Addr) (ap_len ap_cap:Nat),∃ w3,(Builtin.append_ #[TSM,TSM] TSM #[(.slice a n cap),(.slice (some ⟨b1,0,none⟩) 1 1)]).run prog w2=.ok (.slice ap ap_len ap_cap) w3∧K b1 ap ap_len ap_cap w3:=by
 obtain ⟨inf,hi,hz,hsz,hby⟩:=jD (T:=TMb) (z:=.agg #[.int .i64 0,.int .i64 0,.bool false]) (n:=3) (m:=24) (by kernel_rfl)
 rw [←hsz] at ho
 refine push_k Tryz.underlying28 hi hz (by rw [hsz];rfl) (by omega) ho (by rw [hsz];rfl) (aC.single m) (by omega) (by omega) ?_
 intro b ap cap' w3 h1 h2
 rw [hsz,←yP] at h2
 exact hk b ap cap' w3 h1 h2
end Go.Proofs.YtegepanmkjemjaaGreat
namespace Go.Proofs.YtegepanmkjemjaaGreat
open Go.Proofs.Tryz
open Go.Eng IntKind
variable (w:World) (R:Value→World→Prop)
theorem pq (p0:Int):fnW prog f32 [(.int .i64 p0)] R w=(Calls prog 11 #[(.int .i64 p0),(.int .i64 7)] w λe w1=>∃ a,e=.returned (.int .i64 a)∧R (.int .i64 (i64.wrap (98+a))) w1):=by kernel_rfl
theorem pr (p0:Int):fnW prog f33 [.int .i64 p0] R w=(∀ b1 w1,b1=w.heap.size→w1=w.alloc (.cells #[.int .i64 0,.slice none 0 0] 30)→Calls prog 50 #[.int .i64 p0] w1 λe w2=>aM.ex λb=>∃ a,e=.returned (.tuple #[b.val,.int .i64 a])∧∀ b2 w3,b2=w2.heap.size→w3=w2.alloc (.cells #[.int .i64 0,.slice none 0 0] 30)→wrAt w3 ⟨b2,0,none⟩ 0 b.cells∧∀ w4,w4=puts w3 ⟨b2,0,none⟩ 0 b.cells→aM.ex λr=>aE w4 ⟨b2,0,none⟩ 0 r.cells∧wrAt w4 ⟨b1,0,none⟩ 0 r.cells∧∀ w5,w5=puts w4 ⟨b1,0,none⟩ 0 r.cells→aM.ex λc=>aE w5 ⟨b1,0,none⟩ 0 c.cells∧w5=w5∧R c.val w5):=by kernel_rfl
def dX (s0:Int) (s2 s4:Addr) (s5:Int) (j:LV):LV:=.int .i64 s0::jq j 0 1 (.pointer (some s2)::jq j 1 1 (.pointer (some s4)::.int .i64 s5::jq j 2 21 []))
def iu (a b:Addr) (j:LV):LV:=jq j 0 2 (.pointer (some a)::jq j 2 1 (.pointer (some b)::jq j 3 22 []))
theorem nD (p0:Int):fnW prog f50 [.int .i64 p0] R w=(∀ b1 w1,b1=w.heap.size→w1=w.alloc (.cells #[.int .i64 0,.slice none 0 0] 30)→(bif (decide ((p0:Int)<1)) then (wrAt w1 ⟨b1,0,none⟩ 0 [.int .i64 0,.slice none 0 0]∧∀ w2,w2=puts w1 ⟨b1,0,none⟩ 0 [.int .i64 0,.slice none 0 0]→aM.ex λa=>aE w2 ⟨b1,0,none⟩ 0 a.cells∧w2=w2∧R (.tuple #[a.val,.int .i64 1]) w2) else ((bif (decide ((p0:Int)>5)) then (wrAt w1 ⟨b1,0,none⟩ 0 [.int .i64 0,.slice none 0 0]∧∀ w3,w3=puts w1 ⟨b1,0,none⟩ 0 [.int .i64 0,.slice none 0 0]→aM.ex λb=>aE w3 ⟨b1,0,none⟩ 0 b.cells∧w3=w3∧R (.tuple #[b.val,.int .i64 1]) w3) else (∀ b2 w4,b2=w1.heap.size→w4=w1.alloc (.cells #[.int .i64 0,.slice none 0 0] 30)→wrAt w4 ⟨b2,0,none⟩ 0 [.int .i64 0,.slice none 0 0]∧∀ w5,w5=puts w4 ⟨b2,0,none⟩ 0 [.int .i64 0,.slice none 0 0]→bX prog (.loop (sub (aD f50) [1,1,1,0,1,0,0])) (dX p0 ⟨b1,0,none⟩ ⟨b2,0,none⟩ 0 (undef::ji 0::ji p0::jb (decide ((p0:Int)<1))::jb false::ji p0::jb (decide ((p0:Int)>5))::jb (decide ((p0:Int)>5))::undef::.agg #[.int .i64 0,.slice none 0 0]::uq 13 [])) (aI 0 (nx f50 [1,1,1,1] R)) w5))))):=by kernel_rfl
theorem j4 (s0:Int) (s2 s4:Addr) (s5:Int) (j:LV) (N1:LV→World→Prop):W prog (sub (aD f50) [1,1,1,0,1,0,0]) (dX s0 s2 s4 s5 j) (seqQ N1 (aI 0 (nx f50 [1,1,1,1] R))) w=((bif (decide ((s5:Int)<s0)) then (∃ a b c,w.cell? ⟨s4.block,s4.off+1,none⟩=some (.slice a b c)∧∀ b1 w1,b1=w.heap.size→w1=w.alloc (.cells #[.int .i64 s5,.int .i64 1,.bool true] 103)→∃ ap d f,∃ w2,(Builtin.append_ #[28,28] 28 #[.slice a b c,.slice (some ⟨b1,0,none⟩) 1 1]).run prog w1=.ok (.slice ap d f) w2∧(∃ u,w2.cell? ⟨s4.block,s4.off+1,none⟩=some u)∧w2.frozen? ⟨s4.block,s4.off+1,none⟩=false∧∀ w3,w3=w2.setCell ⟨s4.block,s4.off+1,none⟩ (.slice ap d f)→N1 (dX s0 s2 s4 (i64.wrap (s5+1)) (jq j 0 10 [ji s5,ji s0,jb (decide ((s5:Int)<s0)),ji s5,ji (i64.wrap (s5+1)),jf s4 1,js a b c,ji s5,.agg #[.int .i64 s5,.int .i64 1,.bool true],js (some ⟨b1,0,none⟩) 1 1,js ap d f,jf s4 1,jg j 22])) w3) else (W prog (sub (aD f50) [1,1,1,1]) (iu s2 s4 (ji s0::jg j 0::jg j 1::ji s5::jq j 2 8 (ji s5::ji s0::jb (decide ((s5:Int)<s0))::jq j 13 10 []))) (retQ prog f50 R) w))):=by kernel_rfl
theorem lf (a b:Addr) (j:LV):W prog (sub (aD f50) [1,1,1,1]) (iu a b j) (retQ prog f50 R) w=(aM.ex λr=>aE w b 0 r.cells∧wrAt w a 0 r.cells∧∀ w1,w1=puts w a 0 r.cells→aM.ex λc=>aE w1 a 0 c.cells∧w1=w1∧R (.tuple #[c.val,.int .i64 0]) w1):=by kernel_rfl
end Go.Proofs.YtegepanmkjemjaaGreat
namespace Go.Proofs.YtegepanmkjemjaaGreat
open Go.Eng
theorem DU {x n:Int} (hn:1≤n):0≤(if n<1 then 0 else x % n)∧(if n<1 then 0 else x % n)<n:=by
 rw [if_neg (by omega)]
 exact ⟨Int.emod_nonneg x (by omega),Int.emod_lt_of_pos x (by omega)⟩
theorem zS (w:World) {x:Int} (hx:I64 x):Does 32 [.int .i64 x] w λv w'=>v=.int .i64 (98+x % 7)∧w'=w:=by
 refine does Tryz.func32 ?_
 rw [pq]
 refine aF (nv w x 7 hx (by omega)) ?_
 rintro v w1 ⟨rfl,rfl⟩
 have:=DU (x:=x) (n:=7) (by omega)
 rw [if_neg (by omega)] at this
 refine ⟨_,rfl,?_,rfl⟩
 rw [if_neg (by omega),w64 (by omega) (by omega)]
structure Gf (v:Vw):Prop where
 num:0≤v.number∧v.number<16
 boot:∀ m ∈ v.mem,1≤m.Boot
 ne:v.mem≠[]
 few:v.mem.length≤5
abbrev Fd (A:Nat):Nat→Prop:=λk=>k<A
theorem Gg {w:World} {n:Int} {a:Option Addr} {c A:Nat} {L:List aC} (ho:Owns w TMb 3 a L.length c (ir L).flatten) (hl:L.length≤1000000) (hf:∀ k,isB a k→A≤k):ViewAt (Fd A) w ⟨n,a,L.length,c⟩ ⟨n,L⟩:=
 ⟨rfl,rfl,ho.le,ho.rd,mV ho.rd λk hk h=>Nat.lt_irrefl _ (Nat.lt_of_lt_of_le h (hf k hk)),hl⟩
theorem ViewAt.mono {M M':Nat→Prop} {w:World} {r:aM} {v:Vw} (h:ViewAt M w r v) (hm:∀ k,k<w.heap.size→M' k→M k):ViewAt M' w r v:=by
 refine ⟨h.num,h.len,h.cap,h.rd,?_,h.small⟩
 rcases h.off with e | e
 ·exact .inl e
 ·rcases h.rd with e2 | ⟨b,o,e2,hc⟩
  ·exact .inl e2
  ·by_cases he:(ir v.mem).flatten=[]
   ·exact .inl he
   ·rw [e2] at e ⊢
    refine .inr λhM=>e (hm _ ?_ hM)
    cases hl:(ir v.mem).flatten with
    |nil=>exact absurd hl he
    |cons x xs=>exact xb (hc 0 x (by rw [hl];rfl))
def stM (n:Nat):List aC:=(List.range n).map λ(i:Nat)=>⟨(i:Int),1,true⟩
theorem mE (n:Nat):(stM n).length=n:=by simp [stM]
theorem B7 (n:Nat):stM (n+1)=stM n++[⟨(n:Int),1,true⟩]:=by simp [stM,List.range_succ]
theorem B8 {n:Nat} {m:aC} (h:m ∈ stM n):1≤m.Boot:=by
 simp only [stM,List.mem_map] at h
 obtain ⟨i,_,rfl⟩:=h
 exact Int.le_refl _
theorem yQ (w:World) {n:Int} (h1:1≤n) (h5:n≤5):Does 50 [.int .i64 n] w λx w'=>∃ (a:Option Addr) (c:Nat) (L:List aC),x=.tuple #[aM.val ⟨0,a,L.length,c⟩,.int .i64 0]∧Owns w' TMb 3 a L.length c (ir L).flatten∧New w w'∧L=stM n.toNat∧(∀ k,isB a k→w.heap.size≤k):=by
 refine does Tryz.func50 ?_
 rw [nD]
 rintro b1 w1 hb1 hw1
 obtain ⟨hz1,hn1⟩:=aN hb1 hw1
 have hz1:Blk w1 b1 (aM.cells ⟨0,none,0,0⟩) TVw:=hz1
 clear hw1
 refine aH (λhp=>absurd hp (by omega)) (λ_=>aH (λhp=>absurd hp (by omega)) (λ_=>?_))
 refine iR (vs:=aM.cells ⟨0,none,0,0⟩) rfl (aM.single _) λb2 w3 hb2 hz3 hn3=>?_
 have hz13:=New.blk hn3 hz1
 have hn03:=hn1.new hn3
 have hs1:=hn1.size
 have hs1':=hz1.lt
 refine aQ mix (λm env u=>∃ (i:Nat) (a:Option Addr) (c:Nat) (L:List aC) (jj:List Value),m=n.toNat - i∧i≤n.toNat∧env=dX n ⟨b1,0,none⟩ ⟨b2,0,none⟩ i jj∧New w u∧Blk u b1 (aM.cells ⟨0,none,0,0⟩) TVw∧Blk u b2 (aM.cells ⟨0,a,L.length,c⟩) TVw∧Owns u TMb 3 a L.length c (ir L).flatten∧(∀ k,isB a k→b2<k)∧L=stM i) n.toNat
  ⟨0,none,0,[],_,by omega,by omega,rfl,hn03,hz13,hz3,Owns.nil _ _ _,(λk hk=>by obtain ⟨o,ho⟩:=hk;cases ho),rfl⟩ ?_
 rintro m env u ⟨i,a,c,L,jj,rfl,hi,rfl,hnu,hu1,hu2,hown,hfr,hLs⟩
 have hLi:L.length=i:=by rw [hLs,mE]
 rw [j4]
 refine aH (λhq=>?_) (λhq=>?_)
 ·refine ⟨_,_,_,hu2.cell (i:=1) rfl,?_⟩
  refine DT hown rfl (m:=⟨i,1,true⟩) (by omega) ?_
  intro b3 ap cap u3 hb3 ho3 hk3 hap
  have hu13:=hk3.blk hu1 λe=>by have:=hfr b1 e;omega
  have hu23:=hk3.blk hu2 λe=>by have:=hfr b2 e;omega
  have hus:=hu2.lt
  have hfr3:∀ k,isB ap k→b2<k:=λk hk=>by
   rcases hap k hk with h1 | h1
   ·exact hfr k h1
   ·omega
  refine lX (b:=b2) hu23 (o:=0+1) (by simp [aM.cells]) λu4 hu24 hk4=>?_
  rw [w64 (by omega) (by omega)]
  refine ⟨n.toNat - (i+1),by omega,i+1,ap,cap,L++[⟨i,1,true⟩],_,rfl,by omega,rfl,?_,hk4.blk hu13 (by omega),?_,?_,hfr3,by rw [hLs,B7]⟩
  ·have h1:New w u3:=kI hnu hk3 λk hk=>by have:=hfr k hk;omega
   exact h1.trans hk4 λk hlt e=>by omega
  ·rw [List.length_append];exact hu24
  ·rw [List.length_append];exact Owns.keep hk4 ho3 λk hk e=>by have:=hfr3 k hk;omega
 ·have hin:i=n.toNat:=by omega
  rw [lf]
  refine aM.mk_ex ⟨0,a,L.length,c⟩ ⟨aJ hu2 rfl,?_⟩
  refine ⟨cK hu1 (by simp [aM.cells]) (aM.single _),λu2 hu=>?_⟩
  have hk:Keep (λk=>k=b1) u u2:=by rw [hu];exact dN _ _ _ _ _
  have hz:Blk u2 b1 (aM.cells ⟨0,a,L.length,c⟩) TVw:=by rw [hu];exact hu1.puts
  refine aM.mk_ex ⟨0,a,L.length,c⟩ ⟨aJ hz rfl,rfl,a,c,L,rfl,?_,?_,by rw [hLs,hin],?_⟩
  ·exact Owns.keep hk hown λk hk' e=>by have:=hfr k hk';omega
  ·exact hnu.trans hk λk hlt e=>by omega
  ·intro k hk';have:=hfr k hk';omega
theorem zU (w:World) {n:Int} (h1:1≤n) (h5:n≤5):Does 33 [.int .i64 n] w λx w'=>∃ r v,x=aM.val r∧ViewAt (Fd w.heap.size) w' r v∧New w w'∧Gf v∧v=⟨0,stM n.toNat⟩:=by
 refine does Tryz.func33 ?_
 rw [pr]
 rintro b1 w1 hb1 hw1
 obtain ⟨hz1,hn1⟩:=aN hb1 hw1
 have hz1:Blk w1 b1 (aM.cells ⟨0,none,0,0⟩) TVw:=hz1
 clear hw1
 refine aF (yQ w1 h1 h5) ?_
 rintro v w2 ⟨a,c,L,rfl,hown,hn2,hLs,hfr⟩
 have hLn:(L.length:Int)=n:=by rw [hLs,mE];omega
 have hbt:∀ m ∈ L,1≤m.Boot:=λm hm=>B8 (hLs▸hm)
 refine aM.mk_ex ⟨0,a,L.length,c⟩ ⟨_,rfl,?_⟩
 refine iR (vs:=aM.cells ⟨0,a,L.length,c⟩) rfl (aM.single _) λb2 w3 hb2 hz3 hn3=>?_
 refine aM.mk_ex ⟨0,a,L.length,c⟩ ⟨aJ hz3 rfl,?_⟩
 have hz13:=New.blk (hn2.new hn3) hz1
 have hown3:=Owns.new hn3 hown
 refine ⟨cK hz13 (by simp [aM.cells]) (aM.single _),λu2 hu=>?_⟩
 have hk:Keep (λk=>k=b1) w3 u2:=by rw [hu];exact dN _ _ _ _ _
 have hz:Blk u2 b1 (aM.cells ⟨0,a,L.length,c⟩) TVw:=by rw [hu];exact hz13.puts
 have hne:∀ k,isB a k→k≠b1:=λk hk' e=>by
  subst e
  obtain ⟨o,ho⟩:=hk'
  rcases hown3.2 with ⟨h,_⟩ | ⟨g,cur,he,hg,_⟩
  ·rw [h] at ho;cases ho
  ·rw [he] at ho
   simp at ho
   exact absurd (hg.uniq (ho.1▸hz13)).2 (by decide)
 refine aM.mk_ex ⟨0,a,L.length,c⟩ ⟨aJ hz rfl,rfl,_,⟨0,L⟩,rfl,Gg (Owns.keep hk hown3 hne) (by omega) (λk hk'=>by have:=hfr k hk';have:=hn1.size;omega),?_,⟨⟨by simp,by simp⟩,hbt,λe=>?_,?_⟩,by rw [hLs]⟩
 ·exact (hn1.new (hn2.new hn3)).trans hk λk hlt e=>by omega
 ·have e:L=[]:=e
  rw [e] at hLn
  simp at hLn <;> omega
 ·show L.length≤5
  omega
end Go.Proofs.YtegepanmkjemjaaGreat
namespace Go.Proofs.YtegepanmkjemjaaGreat
open Go.Proofs.Tryz
open Go.Eng IntKind
variable (w:World) (R:Value→World→Prop)
theorem uz (a b c d f g:Int) (h:Option Addr) (i k:Nat) (l m:Int) (w:World) (R:Value→World→Prop):fnW prog f109 [.agg #[.int .i64 a,.int .i64 b,.int .i64 c,.int .i64 d,.int .u64 f,.int .u64 g,.slice h i k,.int .u64 l,.int .i64 m]] R w=(∀ b1 w1,b1=w.heap.size→w1=w.alloc (.cells #[.int .i64 a,.int .i64 b,.int .i64 c,.int .i64 d,.int .u64 f,.int .u64 g,.slice h i k,.int .u64 l,.int .i64 m] 166)→∃ n,w1.cell? ⟨b1,0,none⟩=some (.int .i64 n)∧(bif ((n:Int) == 1) then (∃ N_,w1.cell? ⟨b1,3,none⟩=some (.int .i64 N_)∧R (.int .i64 N_) w1) else ((bif ((n:Int) == 2) then (∃ o p q,w1.cell? ⟨b1,6,none⟩=some (.slice o p q)∧R (.int .i64 (p:Nat)) w1) else ((bif ((n:Int) == 3) then ((bif ((n:Int) == 3) then (R (.int .i64 1) w1) else (R (.int .i64 0) w1))) else ((bif ((n:Int) == 4) then (R (.int .i64 1) w1) else (R (.int .i64 0) w1))))))))):=by kernel_rfl
theorem tB (a b c d f g:Int) (h:Option Addr) (i k:Nat) (l m:Int) (w:World) (R:Value→World→Prop):fnW prog f155 [.agg #[.int .i64 a,.int .i64 b,.int .i64 c,.int .i64 d,.int .u64 f,.int .u64 g,.slice h i k,.int .u64 l,.int .i64 m]] R w=(∀ b1 w1,b1=w.heap.size→w1=w.alloc (.cells #[.int .i64 a,.int .i64 b,.int .i64 c,.int .i64 d,.int .u64 f,.int .u64 g,.slice h i k,.int .u64 l,.int .i64 m] 166)→R (.func (.func 191) #[] #[.pointer (some ⟨b1,0,none⟩)]) w1):=by kernel_rfl
def fR (s0:Value) (s3 s4:Int) (j:LV):LV:=s0::jq j 0 2 (.int .i64 s3::.int .i64 s4::jq j 2 24 [])
theorem rC (p0:Value) (c0:Nat):fnW prog f191 [p0,.pointer (some ⟨c0,0,none⟩)] R w=(∀ w1,w1=w.drew→∃ Sx:World→Prop,Sx w1∧∃ At,(∀ u,Sx u→u.cell? ⟨c0,2,none⟩=some (.int .i64 At))∧∃ a b c N_ d f g h i k l,(∀ u,Sx u→aE u ⟨c0,0,none⟩ 0 [.int .i64 a,.int .i64 b,.int .i64 c,.int .i64 N_,.int .u64 d,.int .u64 f,.slice g h i,.int .u64 k,.int .i64 l])∧Calls prog 109 #[.agg #[.int .i64 a,.int .i64 b,.int .i64 c,.int .i64 N_,.int .u64 d,.int .u64 f,.slice g h i,.int .u64 k,.int .i64 l]] w1 λe w2=>∃ m,e=.returned (.int .i64 m)∧Sx w2∧bX prog (.loop (sub (aD f191) [1,0,0])) (fR p0 At m (jp ⟨c0,0,none⟩::uq 2 (jp ⟨c0,2,none⟩::ji At::.agg #[.int .i64 a,.int .i64 b,.int .i64 c,.int .i64 N_,.int .u64 d,.int .u64 f,.slice g h i,.int .u64 k,.int .i64 l]::ji m::uq 19 []))) (aI 0 (retQ prog f191 R)) w2):=by kernel_rfl
theorem lY (s0:Value) (s3 s4:Int) (j:LV) (N1:LV→World→Prop):W prog (sub (aD f191) [1,0,0]) (fR s0 s3 s4 j) (seqQ N1 (aI 0 (retQ prog f191 R))) w=((bif (decide ((s4:Int)>0)) then (oy prog s0 #[.agg #[.int .i64 s3,.int .i64 (if ((i64.wrap (8 - (Int.tmod s3 8))):Int)<s4 then ((i64.wrap (8 - (Int.tmod s3 8))):Int) else s4)]] w λe w1=>∃ a,e=.returned (.bool a)∧(bif (!a) then (R (.tuple #[]) w1) else (N1 (fR s0 (i64.wrap (s3+(if ((i64.wrap (8 - (Int.tmod s3 8))):Int)<s4 then ((i64.wrap (8 - (Int.tmod s3 8))):Int) else s4))) (i64.wrap (s4 - (if ((i64.wrap (8 - (Int.tmod s3 8))):Int)<s4 then ((i64.wrap (8 - (Int.tmod s3 8))):Int) else s4))) (jg j 0::jg j 1::ji (if ((i64.wrap (8 - (Int.tmod s3 8))):Int)<s4 then ((i64.wrap (8 - (Int.tmod s3 8))):Int) else s4)::jq j 3 4 [ji s4,jb (decide ((s4:Int)>0)),ji s4,ji s3,ji (Int.tmod s3 8),ji (i64.wrap (8 - (Int.tmod s3 8))),ji (if ((i64.wrap (8 - (Int.tmod s3 8))):Int)<s4 then ((i64.wrap (8 - (Int.tmod s3 8))):Int) else s4),s0,ji s3,ji (if ((i64.wrap (8 - (Int.tmod s3 8))):Int)<s4 then ((i64.wrap (8 - (Int.tmod s3 8))):Int) else s4),.agg #[.int .i64 s3,.int .i64 (if ((i64.wrap (8 - (Int.tmod s3 8))):Int)<s4 then ((i64.wrap (8 - (Int.tmod s3 8))):Int) else s4)],jb a,jb (!a),ji s3,ji (if ((i64.wrap (8 - (Int.tmod s3 8))):Int)<s4 then ((i64.wrap (8 - (Int.tmod s3 8))):Int) else s4),ji (i64.wrap (s3+(if ((i64.wrap (8 - (Int.tmod s3 8))):Int)<s4 then ((i64.wrap (8 - (Int.tmod s3 8))):Int) else s4))),ji s4,ji (if ((i64.wrap (8 - (Int.tmod s3 8))):Int)<s4 then ((i64.wrap (8 - (Int.tmod s3 8))):Int) else s4),ji (i64.wrap (s4 - (if ((i64.wrap (8 - (Int.tmod s3 8))):Int)<s4 then ((i64.wrap (8 - (Int.tmod s3 8))):Int) else s4)))])) w1))) else (R (.tuple #[]) w))):=by kernel_rfl
end Go.Proofs.YtegepanmkjemjaaGreat
namespace Go.Proofs.YtegepanmkjemjaaGreat
open Go.Eng
theorem mZ {w:World} {ad:Addr} {v:aK} {K:Int→Int→Int→Int→Int→Int→Option Addr→Nat→Nat→Int→Int→Prop} (h:aE w ad 0 v.cells)
  (hk:K v.Kind v.Node v.At v.N v.Old v.New v.Words v.Wl v.Wc v.Key v.Boot) :
  ∃ (Kind:Int) (Node:Int) (At:Int) (N:Int) (Old:Int) (New:Int) (Words:Option Addr) (Wl:Nat) (Wc:Nat) (Key:Int) (Boot:Int),
   aE w ad 0 [.int .i64 Kind,.int .i64 Node,.int .i64 At,.int .i64 N,.int .u64 Old,.int .u64 New,.slice Words Wl Wc,.int .u64 Key,.int .i64 Boot]∧K Kind Node At N Old New Words Wl Wc Key Boot:=
 ⟨_,_,_,_,_,_,_,_,_,_,_,h,hk⟩
theorem nE {S:World→Prop} {ad:Addr} {v:aK} {K:Int→Int→Int→Int→Int→Int→Option Addr→Nat→Nat→Int→Int→Prop} (h:∀ u,S u→aE u ad 0 v.cells)
  (hk:K v.Kind v.Node v.At v.N v.Old v.New v.Words v.Wl v.Wc v.Key v.Boot) :
  ∃ (Kind:Int) (Node:Int) (At:Int) (N:Int) (Old:Int) (New:Int) (Words:Option Addr) (Wl:Nat) (Wc:Nat) (Key:Int) (Boot:Int),
   (∀ u,S u→aE u ad 0 [.int .i64 Kind,.int .i64 Node,.int .i64 At,.int .i64 N,.int .u64 Old,.int .u64 New,.slice Words Wl Wc,.int .u64 Key,.int .i64 Boot])∧K Kind Node At N Old New Words Wl Wc Key Boot:=
 ⟨_,_,_,_,_,_,_,_,_,_,_,h,hk⟩
abbrev TV:TypeId:=166
theorem vbox {w:World} {b:Nat} {v:aK} (h:Blk w b v.cells TV):aE w ⟨b,0,none⟩ 0 v.cells:=aJ h (by simp [aK.cells])
theorem pZ (w:World) (v:aK):Blk (w.alloc (.cells v.cells.toArray TV)) w.heap.size v.cells TV:=jU _ _ _
def aK.count (v:aK):Int:=if v.Kind=1 then v.N else if v.Kind=2 then v.Wl else if v.Kind=3∨v.Kind=4 then 1 else 0
theorem uF (w:World) (v:aK):Does 109 [v.val] w λx w'=>x=.int .i64 v.count∧New w w':=by
 refine does Tryz.func109 ?_
 refine Eq.mpr (uz v.Kind v.Node v.At v.N v.Old v.New v.Words v.Wl v.Wc v.Key v.Boot w _) ?_
 rintro b1 w1 rfl rfl
 have hb:=pZ w v
 have hn:=dM w (.cells v.cells.toArray TV)
 refine ⟨_,hb.cell rfl,bJ (λh1=>⟨_,hb.cell rfl,?_,hn⟩) (λh1=>bJ (λh2=>⟨_,_,_,hb.cell rfl,?_,hn⟩) (λh2=>bJ (λh3=>bJ (λ_=>⟨?_,hn⟩) (λh=>absurd h3 h)) (λh3=>bJ (λh4=>⟨?_,hn⟩) (λh4=>⟨?_,hn⟩))))⟩
 ·simp [aK.count,h1]
 ·simp [aK.count,h2]
 ·simp [aK.count,h3]
 ·simp [aK.count,h4]
 ·simp [aK.count,h1,h2,h3,h4]
end Go.Proofs.YtegepanmkjemjaaGreat
namespace Go.Proofs.YtegepanmkjemjaaGreat
open Go.Proofs.Tryz
open Go.Eng Go.RowKit
def encP (x:Int×Int):Array Value:=#[.agg #[.int .i64 x.1,.int .i64 x.2]]
def bZ:Nat→Int→Int→List (Int×Int)
 | 0,_,_=>[]
 |f+1,at_,left=>if left≤0 then [] else (at_,if 8 - at_ % 8<left then 8 - at_ % 8 else left)::
   bZ f (at_+(if 8 - at_ % 8<left then 8 - at_ % 8 else left)) (left - (if 8 - at_ % 8<left then 8 - at_ % 8 else left))
def aK.pieces (v:aK):List (Int×Int):=bZ v.count.toNat v.At v.count
theorem vv {w w':World} (h:Go.Eng.New w w'):w.grownBy w' none:=⟨h.os,h.tape,h.output,h.size,λk hk _=>h.block k hk id⟩
theorem yR {m:Nat} {P:Program} {l:Nat} {args:Array Value} {W:World} {R:Ending→World→Prop} (h:YieldAt Fence.wide m P l args W R) (k:Nat):YieldAt Fence.wide k P l args W R:=by
 obtain ⟨fn,tmps,assign,body,h1,h2⟩:=h
 exact ⟨fn,tmps,assign,body,h1,h2.1,λc cs _=>h2.2 c cs (room_wide _)⟩
theorem yS (n l Bn n₀:Nat) (v:aK) (J Jx:List (Int×Int)→World→Prop) (ha0:0≤v.At) (ha1:v.At≤1000000) (hc0:1≤v.count) (hc1:v.count≤1000000) (W:World)
  (hJ:AbidesFrom W.heap.size J) (hY:∀ pre x W,J pre W→pre.length<v.pieces.length→YieldAt Fence.wide (n - 1) prog l (encP x) W λe W'=>
   (e=.returned (.bool true)∧J (pre++[x]) W'∧Below n₀ W W')∨(e=.returned (.bool false)∧Jx (pre++[x]) W'))
  (hBn:∀ u,Below (Bn+1) W u→aE u ⟨Bn,0,none⟩ 0 v.cells) (hb:Bn+1≤W.heap.size) (h0:J [] W) :
  CallsIn Fence.wide n prog 191 #[.func (.yield l) #[] #[],.pointer (some ⟨Bn,0,none⟩)] W λe W'=>(∃ v,e=.returned v)∧
   ((∃ ys,ys=v.pieces∧J ys W')∨(∃ pre,pre <+: v.pieces∧Jx pre W')):=by
 refine callsIn_wide.2 (Calls.mono (R:=λe w'=>∃ x,e=.returned x∧((∃ ys,ys=v.pieces∧J ys w')∨(∃ pre,pre <+: v.pieces∧Jx pre w'))) ?_ λe w' ⟨x,hx,hr⟩=>⟨⟨x,hx⟩,hr⟩)
 refine does Tryz.func191 (args:=[.func (.yield l) #[] #[],.pointer (some ⟨Bn,0,none⟩)]) (R:=λ_ w'=>(∃ ys,ys=v.pieces∧J ys w')∨(∃ pre,pre <+: v.pieces∧Jx pre w')) ?_
 rw [rC]
 intro w1 hw1
 have hn1:Go.Eng.New W w1:=by rw [hw1];exact aT _
 clear hw1
 have hbl:∀ u,Go.Eng.New w1 u→Below (Bn+1) W u:=λu hu=>(hn1.new hu).below (by omega) λ_ _ h=>h
 refine ⟨λu=>Go.Eng.New w1 u,Keep.refl _ _,v.At,λu hu=>?_,?_⟩
 ·have:=hBn u (hbl u hu)
  exact this.2.2.1
 refine nE (v:=v) (λu hu=>hBn u (hbl u hu)) ?_
 refine aF (uF _ v) ?_
 rintro r w2 ⟨rfl,hn2⟩
 refine ⟨_,rfl,hn2,?_⟩
 have hJ2:J [] w2:=hJ _ _ _ none h0 (vv (hn1.new hn2)) (λ_ h=>by cases h)
 refine aQ mix (λm env u=>∃ (f:Nat) (at_ left:Int) (jj:List Value) (pre:List (Int×Int)),m=f∧left≤f∧0≤at_∧0≤left∧at_+left≤2000000∧env=fR (.func (.yield l) #[] #[]) at_ left jj∧v.pieces=pre++bZ f at_ left∧J pre u) v.count.toNat
  ⟨v.count.toNat,v.At,v.count,_,[],rfl,by omega,ha0,by omega,by omega,rfl,rfl,hJ2⟩ ?_
 rintro f env u ⟨_,at_,left,jj,pre,rfl,hlf,hat,hle,hsum,rfl,hpre,hJu⟩
 rw [lY]
 refine aH (λhp=>?_) (λhp=>?_)
 ·obtain ⟨f',rfl⟩:∃ f',f=f'+1:=⟨f - 1,by omega⟩
  have hmod:Int.tmod at_ 8=at_ % 8:=Int.tmod_eq_emod_of_nonneg hat
  rw [hmod,w64 (x:=8 - at_ % 8) (by omega) (by omega)]
  generalize hk:(if 8 - at_ % 8<left then 8 - at_ % 8 else left)=k
  have hk1:1≤k∧k≤left∧k≤8:=by rw [←hk];split<;>omega
  have hcons:bZ (f'+1) at_ left=(at_,k)::bZ f' (at_+k) (left - k):=by
   rw [bZ,if_neg (by omega),hk]
  rw [hcons] at hpre
  have hy:=yR (hY pre (at_,k) u hJu (by rw [hpre];simp)) 0
  refine Exists.imp (λfn=>Exists.imp λtmps=>Exists.imp λassign=>Exists.imp λbody=>And.imp id λh=>RoundIn.mono h ?_) hy
  rintro e w3 (⟨rfl,hJ3,_⟩ | ⟨rfl,hJx3⟩)
  ·refine ⟨_,rfl,dZ rfl ?_⟩
   rw [w64 (by omega) (by omega),w64 (by omega) (by omega)]
   refine ⟨f',by omega,f',at_+k,left - k,_,pre++[(at_,k)],rfl,by omega,by omega,by omega,by omega,rfl,by rw [hpre];simp,hJ3⟩
  ·exact ⟨_,rfl,ld rfl (.inr ⟨_,⟨bZ f' (at_+k) (left - k),by rw [hpre];simp⟩,hJx3⟩)⟩
 ·refine .inl ⟨pre,?_,hJu⟩
  have:left=0:=by omega
  subst this
  rw [hpre]
  cases f<;>simp [bZ]
end Go.Proofs.YtegepanmkjemjaaGreat
namespace Go.Proofs.YtegepanmkjemjaaGreat
open Go.Eng Go.RowKit
theorem kp:∀ (f:Nat) (at_ left:Int),0≤at_→∀ p ∈ bZ f at_ left,at_≤p.1∧1≤p.2∧p.2≤8∧p.1+p.2≤at_+left
 | 0,_,_,_,p,hp=>by simp [bZ] at hp
 |f+1,at_,left,h0,p,hp=>by
  unfold bZ at hp
  split at hp
  ·simp at hp
  ·rename_i hl
   rcases List.mem_cons.1 hp with rfl | hp
   ·simp only
    split<;>omega
   ·have:=kp f _ _ (by split<;>omega) p hp
    split at this<;>omega
theorem uG (f:Nat) (at_ left:Int) (h:1≤left) (hf:1≤f):bZ f at_ left≠[]:=by
 cases f with
 |zero=>omega
 |succ f=>unfold bZ;rw [if_neg (by omega)];simp
theorem jN:∀ (f:Nat) (at_ left:Int),(bZ f at_ left).length≤f
 | 0,_,_=>by simp [bZ]
 |f+1,at_,left=>by
  unfold bZ
  split
  ·simp
  ·simp only [List.length_cons]
   have:=jN f (at_+(if 8 - at_ % 8<left then 8 - at_ % 8 else left)) (left - (if 8 - at_ % 8<left then 8 - at_ % 8 else left))
   omega
def tC (ps:List (Int×Int)):List (List Value):=ps.map λp=>[.int .i64 p.1,.int .i64 p.2]
theorem zV (ps:List (Int×Int)):∀ r ∈ tC ps,r.length=2:=by
 intro r hr
 simp only [tC,List.mem_map] at hr
 obtain ⟨v,_,rfl⟩:=hr
 rfl
theorem zW {ps:List (Int×Int)} {i:Nat} {p:Int×Int} (h:ps[i]?=some p):(tC ps)[i]?=some [.int .i64 p.1,.int .i64 p.2]:=by simp [tC,h]
abbrev TPc:TypeId:=216
end Go.Proofs.YtegepanmkjemjaaGreat
