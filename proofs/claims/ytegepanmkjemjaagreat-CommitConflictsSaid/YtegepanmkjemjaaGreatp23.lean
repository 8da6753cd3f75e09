import Derived.Test.YtegepanmkjemjaaGreatp03
import Derived.Test.YtegepanmkjemjaaGreatp22
import Derived.Test.YtegepanmkjemjaaGreatProg
import Derived.Test.YtegepanmkjemjaaGreatp19
import Derived.Test.YtegepanmkjemjaaGreatp18
set_option linter.unusedVariables false
namespace Go.Proofs.YtegepanmkjemjaaGreat
open Go.Proofs.Tryz
open Go.Eng
abbrev TMb:TypeId:=103
abbrev TVw:TypeId:=30
abbrev TSM:TypeId:=28
def gB (l:List aC):List (List Value):=l.map aC.cells
theorem vq (l:List aC) (m:aC):(gB (l++[m])).flatten=(gB l).flatten++m.cells:=by simp [gB]
structure Vw where
 number:Int
 mem:List aC
def noM:aC:=⟨0,0,false⟩
def n5 (n:Int) (l:List aC) (i:Nat):Bool:=
 decide (0≤(l.getD i noM).Node∧(l.getD i noM).Node<n) && (decide (i=0) || decide ((l.getD (i - 1) noM).Node<(l.getD i noM).Node))
def n6 (m:aC):Bool:=decide (1≤m.Boot∧m.Boot≤31)
def Vw.valid (v:Vw) (n:Int):Int:=
 if ¬ (1≤n∧n≤5) then 1 else if v.number<0∨16≤v.number then 2 else if v.mem.length=0 then 1
 else if (List.range v.mem.length).all (n5 n v.mem)=false then 1 else if v.mem.all n6=false then 2 else if v.mem.any aC.Full=false then 13 else 0
structure eO (M:Nat→Prop) (w:World) (r:aN) (v:Vw):Prop where
 num:r.Number=v.number
 len:r.Members_l=v.mem.length
 cap:r.Members_l≤r.Members_c
 rd:Rd w r.Members (gB v.mem).flatten
 off:(gB v.mem).flatten=[]∨Off M r.Members
 small:v.mem.length≤1000000
theorem eO.new {M:Nat→Prop} {w w':World} {r:aN} {v:Vw} (h:eO M w r v) (hn:New w w'):eO M w' r v:=⟨h.num,h.len,h.cap,h.rd.new hn,h.off,h.small⟩
theorem wX (w:World) (n:Int):Does 171 [.int .i64 n] w λv w'=>v=.bool (decide (1≤n∧n≤5))∧w'=w:=by
 refine does Tryz.func171 ?_
 rw [p5]
 refine aH (λh=>⟨?_,rfl⟩) (λh=>⟨?_,rfl⟩)
 ·congr 1;simp;omega
 ·congr 1;simp;omega
theorem yu (w:World) (m:aC):Does 173 [m.val] w λv w'=>v=.bool m.Full∧New w w':=by
 refine does Tryz.func173 ?_
 rw [qD]
 rintro b1 w1 hb1 hw1
 obtain ⟨hz,hn⟩:=aM hb1 hw1
 exact ⟨_,hz.cell rfl,rfl,hn⟩
theorem Bo:kA prog 173=true:=by kernel_rfl
section
attribute [local irreducible] kA mg qp
theorem tJ {w:World} {a:Option Addr} {c:Nat} {l:List aC} (h:Rd w a (gB l).flatten) (hl:l.length≤1000000) :
  Does 195 [.slice a l.length c,.func (.func 173) #[] #[]] w λv w'=>∃ z:Int,v=.int .i64 z∧(decide (z≥0)=l.any aC.Full)∧New w w':=by
 refine does Tryz.func195 ?_
 rw [et]
 refine aR mix (λm env u=>∃ (i:Nat) (jj:List Value),m=l.length - i∧i≤l.length∧env=aY a l.length c (.func (.func 173) #[] #[]) l.length i jj∧New w u∧(l.take i).any aC.Full=false) l.length
  ⟨0,_,by omega,by omega,rfl,Keep.refl _ _,rfl⟩ ?_
 rintro m env u ⟨i,jj,rfl,hi,rfl,hn,hno⟩
 rw [dM]
 refine aH (λhp=>?_) (λhp=>?_)
 ·have hlt:i<l.length:=by omega
  have hg:l[i]?=some l[i]:=List.getElem?_eq_getElem hlt
  refine eC (cells:=aC.cells) aC.len (by omega) (h.new hn) hg rfl rfl λb o hc _=>aC.mk_ex l[i] ⟨hc,?_⟩
  refine l9 Bo (xs:=#[l[i].val]) (by simp) ?_
  refine aE (yu _ l[i]) ?_
  rintro v u1 ⟨rfl,hn1⟩
  refine ⟨_,rfl,re (λhf=>⟨i,rfl,?_,hn.new hn1⟩) (λhf=>?_)⟩
  ·have h1:l.any aC.Full=true:=List.any_eq_true.2 ⟨l[i],List.getElem_mem hlt,hf⟩
   rw [h1]
   simp
  ·rw [w64 (by omega) (by omega)]
   refine ⟨l.length - (i+1),by omega,i+1,_,rfl,by omega,rfl,hn.new hn1,?_⟩
   rw [List.take_add_one,hg,List.any_append,hno]
   simpa using hf
 ·rw [dV]
  have:l.take i=l:=List.take_of_length_le (by omega)
  rw [this] at hno
  exact ⟨-1,rfl,by rw [hno];decide,hn⟩
end
theorem qE {w:World} {a:Option Addr} {c:Nat} {l:List aC} (h:Rd w a (gB l).flatten) (hl:l.length≤1000000) :
  Does 172 [.slice a l.length c,.func (.func 173) #[] #[]] w λv w'=>v=.bool (l.any aC.Full)∧New w w':=by
 refine does Tryz.func172 ?_
 rw [eg]
 refine aE (tJ h hl) ?_
 rintro v w1 ⟨z,rfl,hz,hn⟩
 exact ⟨_,rfl,by rw [hz],hn⟩
theorem jJ {p:Nat→Bool} {n i:Nat} (hi:i<n) (h:p i=false):(List.range n).all p=false:=by
 rw [List.all_eq_false]
 exact ⟨i,List.mem_range.2 hi,by simp [h]⟩
theorem lW {α:Type} {l:List α} {i:Nat} {x d:α} (h:l[i]?=some x):l.getD i d=x:=by rw [List.getD_eq_getElem?_getD,h];rfl
set_option maxHeartbeats 1000000 in
theorem yv {M:Nat→Prop} {w:World} {r:aN} {v:Vw} (h:eO M w r v) (n:Int):Does 141 [r.val,.int .i64 n] w λx w'=>x=.int .i64 (v.valid n)∧New w w':=by
 refine does Tryz.func141 ?_
 rw [rC]
 rintro b1 w1 hb1 hw1
 obtain ⟨hz,hn⟩:=aM hb1 hw1
 have hz:Blk w1 b1 r.cells TVw:=hz
 clear hw1
 have hsm:=h.small
 have hlen:=h.len
 have hnum:=h.num
 unfold Vw.valid
 refine aE (wX _ n) ?_
 rintro x w2 ⟨rfl,rfl⟩
 refine ⟨_,rfl,cZ (λhb=>?_) (λhb=>?_)⟩
 ·rw [if_pos (by simpa using hb)];exact ⟨rfl,hn⟩
 have hn15:1≤n∧n≤5:=by simpa using hb
 rw [if_neg (λe=>e hn15)]
 refine ⟨_,hz.cell rfl,aH (λhp=>?_) (λhp=>⟨_,hz.cell rfl,aH (λhp2=>?_) (λhp2=>?_)⟩)⟩
 ·rw [if_pos (by omega)];exact ⟨rfl,hn⟩
 ·rw [if_pos (by omega)];exact ⟨rfl,hn⟩
 rw [if_neg (by omega)]
 refine ⟨_,_,_,hz.cell rfl,bG (λh0=>?_) (λh0=>⟨_,_,_,hz.cell rfl,?_⟩)⟩
 ·rw [if_pos (by omega)];exact ⟨rfl,hn⟩
 rw [if_neg (by omega)]
 refine aR mix (λm env u=>∃ (i:Nat) (jj:List Value),m=v.mem.length - i∧i≤v.mem.length∧env=eN n ⟨b1,0,none⟩ r.Members r.Members_l r.Members_c r.Members_l i jj∧New w2 u∧∀ k,k<i→n5 n v.mem k=true) v.mem.length
  ⟨0,_,by omega,by omega,rfl,Keep.refl _ _,λk hk=>by omega⟩ ?_
 rintro m env u ⟨i,jj,rfl,hi,rfl,hnu,hok⟩
 rw [lU]
 refine aH (λhq=>?_) (λhq=>?_)
 ·have hlt:i<v.mem.length:=by omega
  have hg:v.mem[i]?=some v.mem[i]:=List.getElem?_eq_getElem hlt
  have hgd:=lW (d:=noM) hg
  have hno:n5 n v.mem i=false→(List.range v.mem.length).all (n5 n v.mem)=false:=jJ hlt
  refine eC (cells:=aC.cells) aC.len (by omega) ((h.rd.new hn).new hnu) hg rfl hlen λb o hc _=>aC.mk_ex v.mem[i] ⟨hc,?_⟩
  refine fN (vs:=v.mem[i].cells) rfl (aC.single _) λb2 u2 hb2 hz2 hn2=>?_
  rintro u3 hu3
  have hn3:New u2 u3:=by rw [hu3];exact aS _
  clear hu3
  have hz3:=New.blk hn3 hz2
  have hnu3:=(hnu.new hn2).new hn3
  refine ⟨λy=>New u3 y,Keep.refl _ _,_,λy hy=>(New.blk hy hz3).cell (i:=0) rfl,aH (λhp3=>?_) (λhp3=>⟨_,λy hy=>(New.blk hy hz3).cell (i:=0) rfl,aH (λhp4=>?_) (λhp4=>aH (λhp5=>?_) (λhp5=>?_))⟩)⟩
  ·rw [if_pos (hno (by unfold n5;rw [hgd];simp;omega))];exact ⟨rfl,hn.new hnu3⟩
  ·rw [if_pos (hno (by unfold n5;rw [hgd];simp;omega))];exact ⟨rfl,hn.new hnu3⟩
  ·have hg1:v.mem[i - 1]?=some v.mem[i - 1]:=List.getElem?_eq_getElem (by omega)
   have hgd1:=lW (d:=noM) hg1
   refine ⟨_,λy hy=>(New.blk hy hz3).cell (i:=0) rfl,_,_,_,λy hy=>(New.blk (hnu3.new hy) hz).cell (i:=1) rfl,?_⟩
   refine lp (cells:=aC.cells) aC.len (by omega) ((h.rd.new hn).new hnu3) hg1 (by rw [w64 (by omega) (by omega)];omega) hlen λb' o' hc'=>⟨_,λy hy=>hc' y hy 0 _ rfl,aH (λhp6=>?_) (λhp6=>?_)⟩
   ·rw [if_pos (hno (by unfold n5;rw [hgd,hgd1];simp;omega))];exact ⟨rfl,hn.new hnu3⟩
   ·rw [w64 (by omega) (by omega)]
    refine ⟨v.mem.length - (i+1),by omega,i+1,_,rfl,by omega,rfl,hnu3,λk hk=>?_⟩
    rcases Nat.lt_succ_iff_lt_or_eq.1 hk with hk | rfl
    ·exact hok k hk
    ·unfold n5;rw [hgd,hgd1];simp;omega
  ·rw [w64 (by omega) (by omega)]
   refine ⟨v.mem.length - (i+1),by omega,i+1,_,rfl,by omega,rfl,hnu3,λk hk=>?_⟩
   rcases Nat.lt_succ_iff_lt_or_eq.1 hk with hk | rfl
   ·exact hok k hk
   ·unfold n5;rw [hgd];simp;omega
 have hall:(List.range v.mem.length).all (n5 n v.mem)=true:=by
  rw [List.all_eq_true]
  intro k hk
  exact hok k (by have:=List.mem_range.1 hk;omega)
 rw [if_neg (by rw [hall];simp)]
 rw [n3]
 have hzu:=New.blk hnu hz
 refine ⟨_,_,_,hzu.cell (i:=1) rfl,?_⟩
 refine aR mix (λm env z=>∃ (i:Nat) (jj:List Value),m=v.mem.length - i∧i≤v.mem.length∧env=fU ⟨b1,0,none⟩ r.Members r.Members_l r.Members_c r.Members_l i jj∧New w2 z∧(v.mem.take i).all n6=true) v.mem.length
  ⟨0,_,by omega,by omega,rfl,hnu,rfl⟩ ?_
 clear hzu hnu hok hi hq
 rintro m env u ⟨i,jj,rfl,hi,rfl,hnu,hok⟩
 rw [lV]
 refine aH (λhq=>?_) (λhq=>?_)
 ·have hlt:i<v.mem.length:=by omega
  have hg:v.mem[i]?=some v.mem[i]:=List.getElem?_eq_getElem hlt
  have hno:n6 v.mem[i]=false→v.mem.all n6=false:=λe=>by
   rw [List.all_eq_false]
   exact ⟨v.mem[i],List.getElem_mem hlt,by simp [e]⟩
  refine eC (cells:=aC.cells) aC.len (by omega) ((h.rd.new hn).new hnu) hg rfl hlen λb o hc _=>aC.mk_ex v.mem[i] ⟨hc,?_⟩
  refine fN (vs:=v.mem[i].cells) rfl (aC.single _) λb2 u2 hb2 hz2 hn2=>?_
  have hnu2:=hnu.new hn2
  refine ⟨_,hz2.cell (i:=1) rfl,aH (λhp3=>?_) (λhp3=>⟨_,hz2.cell (i:=1) rfl,aH (λhp4=>?_) (λhp4=>?_)⟩)⟩
  ·rw [if_pos (hno (by unfold n6;simp;omega))];exact ⟨rfl,hn.new hnu2⟩
  ·rw [if_pos (hno (by unfold n6;simp;omega))];exact ⟨rfl,hn.new hnu2⟩
  ·rw [w64 (by omega) (by omega)]
   refine ⟨v.mem.length - (i+1),by omega,i+1,_,rfl,by omega,rfl,hnu2,?_⟩
   rw [List.take_add_one,hg,List.all_append,hok]
   simp [n6];omega
 have htake:v.mem.take i=v.mem:=List.take_of_length_le (by omega)
 rw [htake] at hok
 rw [if_neg (by rw [hok];simp)]
 rw [n4]
 have hzu:=New.blk hnu hz
 refine ⟨_,_,_,hzu.cell (i:=1) rfl,?_⟩
 rw [hlen]
 refine aE (qE ((h.rd.new hn).new hnu) hsm) ?_
 rintro x u3 ⟨rfl,hn3⟩
 refine ⟨_,rfl,cZ (λhf=>?_) (λhf=>?_)⟩
 ·rw [if_pos hf];exact ⟨rfl,hn.new (hnu.new hn3)⟩
 ·rw [if_neg (by rw [hf];simp)];exact ⟨rfl,hn.new (hnu.new hn3)⟩
end Go.Proofs.YtegepanmkjemjaaGreat
namespace Go.Proofs.YtegepanmkjemjaaGreat
open Go.Proofs.Tryz
open Go.Eng
theorem zW {u:World} {a:Option Addr} {n cap:Nat} {L:List aC} (ho:Owns u TMb 3 a n cap (gB L).flatten) (hn:n=L.length) {m:aC} (hb1:n≤1000000) {K:Nat→Option Addr→Nat→Nat→World→Prop}
  (hk:∀ b ap cap' w3,b=u.heap.size→Owns w3 TMb 3 ap (n+1) cap' (gB (L++[m])).flatten→Keep (isB a) u w3→(∀ k,isB ap k→isB a k∨u.heap.size≤k)→K b ap (n+1) cap' w3) :
  ∀ b1 w2,b1=u.heap.size→w2=u.alloc (.cells m.cells.toArray TMb)→∃ (ap:Option Addr) (ap_len ap_cap:Nat),∃ w3,(Builtin.append_ #[TSM,TSM] TSM #[(.slice a n cap),(.slice (some ⟨b1,0,none⟩) 1 1)]).run prog w2=.ok (.slice ap ap_len ap_cap) w3∧K b1 ap ap_len ap_cap w3:=by
 obtain ⟨inf,hi,hz,hsz,hby⟩:=ig (T:=TMb) (z:=.agg #[.int .i64 0,.int .i64 0,.bool false]) (n:=3) (m:=24) (by kernel_rfl)
 rw [←hsz] at ho
 refine push_k Tryz.underlying28 hi hz (by rw [hsz];rfl) (by omega) ho (by rw [hsz];rfl) (aC.single m) (by omega) (by omega) ?_
 intro b ap cap' w3 h1 h2
 rw [hsz,←vq] at h2
 exact hk b ap cap' w3 h1 h2
end Go.Proofs.YtegepanmkjemjaaGreat
namespace Go.Proofs.YtegepanmkjemjaaGreat
open Go.Proofs.Tryz
open Go.Eng IntKind
variable (w:World) (R:Value→World→Prop)
theorem m8 (p0:Int):fnW prog f32 [(.int .i64 p0)] R w=(Calls prog 11 #[(.int .i64 p0),(.int .i64 7)] w λe w1=>∃ a,e=.returned (.int .i64 a)∧R (.int .i64 (i64.wrap (98+a))) w1):=by kernel_rfl
theorem m9 (p0:Int):fnW prog f33 [.int .i64 p0] R w=(∀ b1 w1,b1=w.heap.size→w1=w.alloc (.cells #[.int .i64 0,.slice none 0 0] 30)→Calls prog 50 #[.int .i64 p0] w1 λe w2=>aN.ex λb=>∃ a,e=.returned (.tuple #[b.val,.int .i64 a])∧∀ b2 w3,b2=w2.heap.size→w3=w2.alloc (.cells #[.int .i64 0,.slice none 0 0] 30)→wrAt w3 ⟨b2,0,none⟩ 0 b.cells∧∀ w4,w4=puts w3 ⟨b2,0,none⟩ 0 b.cells→aN.ex λr=>aD w4 ⟨b2,0,none⟩ 0 r.cells∧wrAt w4 ⟨b1,0,none⟩ 0 r.cells∧∀ w5,w5=puts w4 ⟨b1,0,none⟩ 0 r.cells→aN.ex λc=>aD w5 ⟨b1,0,none⟩ 0 c.cells∧w5=w5∧R c.val w5):=by kernel_rfl
def dB (s0:Int) (s2 s4:Addr) (s5:Int) (j:LV):LV:=.int .i64 s0::jq j 0 1 (.pointer (some s2)::jq j 1 1 (.pointer (some s4)::.int .i64 s5::jq j 2 21 []))
def fV (a b:Addr) (j:LV):LV:=jq j 0 2 (.pointer (some a)::jq j 2 1 (.pointer (some b)::jq j 3 22 []))
theorem lX (p0:Int):fnW prog f50 [.int .i64 p0] R w=(∀ b1 w1,b1=w.heap.size→w1=w.alloc (.cells #[.int .i64 0,.slice none 0 0] 30)→(bif (decide ((p0:Int)<1)) then (wrAt w1 ⟨b1,0,none⟩ 0 [.int .i64 0,.slice none 0 0]∧∀ w2,w2=puts w1 ⟨b1,0,none⟩ 0 [.int .i64 0,.slice none 0 0]→aN.ex λa=>aD w2 ⟨b1,0,none⟩ 0 a.cells∧w2=w2∧R (.tuple #[a.val,.int .i64 1]) w2) else ((bif (decide ((p0:Int)>5)) then (wrAt w1 ⟨b1,0,none⟩ 0 [.int .i64 0,.slice none 0 0]∧∀ w3,w3=puts w1 ⟨b1,0,none⟩ 0 [.int .i64 0,.slice none 0 0]→aN.ex λb=>aD w3 ⟨b1,0,none⟩ 0 b.cells∧w3=w3∧R (.tuple #[b.val,.int .i64 1]) w3) else (∀ b2 w4,b2=w1.heap.size→w4=w1.alloc (.cells #[.int .i64 0,.slice none 0 0] 30)→wrAt w4 ⟨b2,0,none⟩ 0 [.int .i64 0,.slice none 0 0]∧∀ w5,w5=puts w4 ⟨b2,0,none⟩ 0 [.int .i64 0,.slice none 0 0]→bV prog (.loop (sub (aG f50) [1,1,1,0,1,0,0])) (dB p0 ⟨b1,0,none⟩ ⟨b2,0,none⟩ 0 (undef::ji 0::ji p0::jb (decide ((p0:Int)<1))::jb false::ji p0::jb (decide ((p0:Int)>5))::jb (decide ((p0:Int)>5))::undef::.agg #[.int .i64 0,.slice none 0 0]::uq 13 [])) (aI 0 (nx f50 [1,1,1,1] R)) w5))))):=by kernel_rfl
theorem ir (s0:Int) (s2 s4:Addr) (s5:Int) (j:LV) (N1:LV→World→Prop):W prog (sub (aG f50) [1,1,1,0,1,0,0]) (dB s0 s2 s4 s5 j) (seqQ N1 (aI 0 (nx f50 [1,1,1,1] R))) w=((bif (decide ((s5:Int)<s0)) then (∃ a b c,w.cell? ⟨s4.block,s4.off+1,none⟩=some (.slice a b c)∧∀ b1 w1,b1=w.heap.size→w1=w.alloc (.cells #[.int .i64 s5,.int .i64 1,.bool true] 103)→∃ ap d f,∃ w2,(Builtin.append_ #[28,28] 28 #[.slice a b c,.slice (some ⟨b1,0,none⟩) 1 1]).run prog w1=.ok (.slice ap d f) w2∧(∃ u,w2.cell? ⟨s4.block,s4.off+1,none⟩=some u)∧w2.frozen? ⟨s4.block,s4.off+1,none⟩=false∧∀ w3,w3=w2.setCell ⟨s4.block,s4.off+1,none⟩ (.slice ap d f)→N1 (dB s0 s2 s4 (i64.wrap (s5+1)) (jq j 0 10 [ji s5,ji s0,jb (decide ((s5:Int)<s0)),ji s5,ji (i64.wrap (s5+1)),jf s4 1,js a b c,ji s5,.agg #[.int .i64 s5,.int .i64 1,.bool true],js (some ⟨b1,0,none⟩) 1 1,js ap d f,jf s4 1,jg j 22])) w3) else (W prog (sub (aG f50) [1,1,1,1]) (fV s2 s4 (ji s0::jg j 0::jg j 1::ji s5::jq j 2 8 (ji s5::ji s0::jb (decide ((s5:Int)<s0))::jq j 13 10 []))) (retQ prog f50 R) w))):=by kernel_rfl
theorem jv (a b:Addr) (j:LV):W prog (sub (aG f50) [1,1,1,1]) (fV a b j) (retQ prog f50 R) w=(aN.ex λr=>aD w b 0 r.cells∧wrAt w a 0 r.cells∧∀ w1,w1=puts w a 0 r.cells→aN.ex λc=>aD w1 a 0 c.cells∧w1=w1∧R (.tuple #[c.val,.int .i64 0]) w1):=by kernel_rfl
end Go.Proofs.YtegepanmkjemjaaGreat
namespace Go.Proofs.YtegepanmkjemjaaGreat
open Go.Eng
theorem zX {x n:Int} (hn:1≤n):0≤(if n<1 then 0 else x % n)∧(if n<1 then 0 else x % n)<n:=by
 rw [if_neg (by omega)]
 exact ⟨Int.emod_nonneg x (by omega),Int.emod_lt_of_pos x (by omega)⟩
theorem wY (w:World) {x:Int} (hx:I64 x):Does 32 [.int .i64 x] w λv w'=>v=.int .i64 (98+x % 7)∧w'=w:=by
 refine does Tryz.func32 ?_
 rw [m8]
 refine aE (lO w x 7 hx (by omega)) ?_
 rintro v w1 ⟨rfl,rfl⟩
 have:=zX (x:=x) (n:=7) (by omega)
 rw [if_neg (by omega)] at this
 refine ⟨_,rfl,?_,rfl⟩
 rw [if_neg (by omega),w64 (by omega) (by omega)]
structure BU (v:Vw):Prop where
 num:0≤v.number∧v.number<16
 boot:∀ m ∈ v.mem,1≤m.Boot
 ne:v.mem≠[]
 few:v.mem.length≤5
abbrev Bp (A:Nat):Nat→Prop:=λk=>k<A
theorem BV {w:World} {n:Int} {a:Option Addr} {c A:Nat} {L:List aC} (ho:Owns w TMb 3 a L.length c (gB L).flatten) (hl:L.length≤1000000) (hf:∀ k,isB a k→A≤k):eO (Bp A) w ⟨n,a,L.length,c⟩ ⟨n,L⟩:=
 ⟨rfl,rfl,ho.le,ho.rd,ny ho.rd λk hk h=>Nat.lt_irrefl _ (Nat.lt_of_lt_of_le h (hf k hk)),hl⟩
theorem eO.mono {M M':Nat→Prop} {w:World} {r:aN} {v:Vw} (h:eO M w r v) (hm:∀ k,k<w.heap.size→M' k→M k):eO M' w r v:=by
 refine ⟨h.num,h.len,h.cap,h.rd,?_,h.small⟩
 rcases h.off with e | e
 ·exact .inl e
 ·rcases h.rd with e2 | ⟨b,o,e2,hc⟩
  ·exact .inl e2
  ·by_cases he:(gB v.mem).flatten=[]
   ·exact .inl he
   ·rw [e2] at e ⊢
    refine .inr λhM=>e (hm _ ?_ hM)
    cases hl:(gB v.mem).flatten with
    |nil=>exact absurd hl he
    |cons x xs=>exact tp (hc 0 x (by rw [hl];rfl))
def stM (n:Nat):List aC:=(List.range n).map λ(i:Nat)=>⟨(i:Int),1,true⟩
theorem kI (n:Nat):(stM n).length=n:=by simp [stM]
theorem yw (n:Nat):stM (n+1)=stM n++[⟨(n:Int),1,true⟩]:=by simp [stM,List.range_succ]
theorem yx {n:Nat} {m:aC} (h:m ∈ stM n):1≤m.Boot:=by
 simp only [stM,List.mem_map] at h
 obtain ⟨i,_,rfl⟩:=h
 exact Int.le_refl _
theorem vr (w:World) {n:Int} (h1:1≤n) (h5:n≤5):Does 50 [.int .i64 n] w λx w'=>∃ (a:Option Addr) (c:Nat) (L:List aC),x=.tuple #[aN.val ⟨0,a,L.length,c⟩,.int .i64 0]∧Owns w' TMb 3 a L.length c (gB L).flatten∧New w w'∧L=stM n.toNat∧(∀ k,isB a k→w.heap.size≤k):=by
 refine does Tryz.func50 ?_
 rw [lX]
 rintro b1 w1 hb1 hw1
 obtain ⟨hz1,hn1⟩:=aM hb1 hw1
 have hz1:Blk w1 b1 (aN.cells ⟨0,none,0,0⟩) TVw:=hz1
 clear hw1
 refine aH (λhp=>absurd hp (by omega)) (λ_=>aH (λhp=>absurd hp (by omega)) (λ_=>?_))
 refine fN (vs:=aN.cells ⟨0,none,0,0⟩) rfl (aN.single _) λb2 w3 hb2 hz3 hn3=>?_
 have hz13:=New.blk hn3 hz1
 have hn03:=hn1.new hn3
 have hs1:=hn1.size
 have hs1':=hz1.lt
 refine aR mix (λm env u=>∃ (i:Nat) (a:Option Addr) (c:Nat) (L:List aC) (jj:List Value),m=n.toNat - i∧i≤n.toNat∧env=dB n ⟨b1,0,none⟩ ⟨b2,0,none⟩ i jj∧New w u∧Blk u b1 (aN.cells ⟨0,none,0,0⟩) TVw∧Blk u b2 (aN.cells ⟨0,a,L.length,c⟩) TVw∧Owns u TMb 3 a L.length c (gB L).flatten∧(∀ k,isB a k→b2<k)∧L=stM i) n.toNat
  ⟨0,none,0,[],_,by omega,by omega,rfl,hn03,hz13,hz3,Owns.nil _ _ _,(λk hk=>by obtain ⟨o,ho⟩:=hk;cases ho),rfl⟩ ?_
 rintro m env u ⟨i,a,c,L,jj,rfl,hi,rfl,hnu,hu1,hu2,hown,hfr,hLs⟩
 have hLi:L.length=i:=by rw [hLs,kI]
 rw [ir]
 refine aH (λhq=>?_) (λhq=>?_)
 ·refine ⟨_,_,_,hu2.cell (i:=1) rfl,?_⟩
  refine zW hown rfl (m:=⟨i,1,true⟩) (by omega) ?_
  intro b3 ap cap u3 hb3 ho3 hk3 hap
  have hu13:=hk3.blk hu1 λe=>by have:=hfr b1 e;omega
  have hu23:=hk3.blk hu2 λe=>by have:=hfr b2 e;omega
  have hus:=hu2.lt
  have hfr3:∀ k,isB ap k→b2<k:=λk hk=>by
   rcases hap k hk with h1 | h1
   ·exact hfr k h1
   ·omega
  refine kX (b:=b2) hu23 (o:=0+1) (by simp [aN.cells]) λu4 hu24 hk4=>?_
  rw [w64 (by omega) (by omega)]
  refine ⟨n.toNat - (i+1),by omega,i+1,ap,cap,L++[⟨i,1,true⟩],_,rfl,by omega,rfl,?_,hk4.blk hu13 (by omega),?_,?_,hfr3,by rw [hLs,yw]⟩
  ·have h1:New w u3:=iU hnu hk3 λk hk=>by have:=hfr k hk;omega
   exact h1.trans hk4 λk hlt e=>by omega
  ·rw [List.length_append];exact hu24
  ·rw [List.length_append];exact Owns.keep hk4 ho3 λk hk e=>by have:=hfr3 k hk;omega
 ·have hin:i=n.toNat:=by omega
  rw [jv]
  refine aN.mk_ex ⟨0,a,L.length,c⟩ ⟨aJ hu2 rfl,?_⟩
  refine ⟨bX hu1 (by simp [aN.cells]) (aN.single _),λu2 hu=>?_⟩
  have hk:Keep (λk=>k=b1) u u2:=by rw [hu];exact cW _ _ _ _ _
  have hz:Blk u2 b1 (aN.cells ⟨0,a,L.length,c⟩) TVw:=by rw [hu];exact hu1.puts
  refine aN.mk_ex ⟨0,a,L.length,c⟩ ⟨aJ hz rfl,rfl,a,c,L,rfl,?_,?_,by rw [hLs,hin],?_⟩
  ·exact Owns.keep hk hown λk hk' e=>by have:=hfr k hk';omega
  ·exact hnu.trans hk λk hlt e=>by omega
  ·intro k hk';have:=hfr k hk';omega
theorem wZ (w:World) {n:Int} (h1:1≤n) (h5:n≤5):Does 33 [.int .i64 n] w λx w'=>∃ r v,x=aN.val r∧eO (Bp w.heap.size) w' r v∧New w w'∧BU v∧v=⟨0,stM n.toNat⟩:=by
 refine does Tryz.func33 ?_
 rw [m9]
 rintro b1 w1 hb1 hw1
 obtain ⟨hz1,hn1⟩:=aM hb1 hw1
 have hz1:Blk w1 b1 (aN.cells ⟨0,none,0,0⟩) TVw:=hz1
 clear hw1
 refine aE (vr w1 h1 h5) ?_
 rintro v w2 ⟨a,c,L,rfl,hown,hn2,hLs,hfr⟩
 have hLn:(L.length:Int)=n:=by rw [hLs,kI];omega
 have hbt:∀ m ∈ L,1≤m.Boot:=λm hm=>yx (hLs▸hm)
 refine aN.mk_ex ⟨0,a,L.length,c⟩ ⟨_,rfl,?_⟩
 refine fN (vs:=aN.cells ⟨0,a,L.length,c⟩) rfl (aN.single _) λb2 w3 hb2 hz3 hn3=>?_
 refine aN.mk_ex ⟨0,a,L.length,c⟩ ⟨aJ hz3 rfl,?_⟩
 have hz13:=New.blk (hn2.new hn3) hz1
 have hown3:=Owns.new hn3 hown
 refine ⟨bX hz13 (by simp [aN.cells]) (aN.single _),λu2 hu=>?_⟩
 have hk:Keep (λk=>k=b1) w3 u2:=by rw [hu];exact cW _ _ _ _ _
 have hz:Blk u2 b1 (aN.cells ⟨0,a,L.length,c⟩) TVw:=by rw [hu];exact hz13.puts
 have hne:∀ k,isB a k→k≠b1:=λk hk' e=>by
  subst e
  obtain ⟨o,ho⟩:=hk'
  rcases hown3.2 with ⟨h,_⟩ | ⟨g,cur,he,hg,_⟩
  ·rw [h] at ho;cases ho
  ·rw [he] at ho
   simp at ho
   exact absurd (hg.uniq (ho.1▸hz13)).2 (by decide)
 refine aN.mk_ex ⟨0,a,L.length,c⟩ ⟨aJ hz rfl,rfl,_,⟨0,L⟩,rfl,BV (Owns.keep hk hown3 hne) (by omega) (λk hk'=>by have:=hfr k hk';have:=hn1.size;omega),?_,⟨⟨by simp,by simp⟩,hbt,λe=>?_,?_⟩,by rw [hLs]⟩
 ·exact (hn1.new (hn2.new hn3)).trans hk λk hlt e=>by omega
 ·have e:L=[]:=e
  rw [e] at hLn
  simp at hLn
  omega
 ·show L.length≤5
  omega
end Go.Proofs.YtegepanmkjemjaaGreat
namespace Go.Proofs.YtegepanmkjemjaaGreat
open Go.Proofs.Tryz
open Go.Eng
theorem rd_i {u:World} {a:Option Addr} {l:List Int} (h:Rd u a (is l)) {i:Nat} {x:Int} (hx:l[i]?=some x) {z:Int} (hz:z=i) {n:Nat} (hn:n=l.length) {K:Addr→Prop}
  (hk:∀ b o,(∀ y,New u y→y.cell? ⟨b,o,none⟩=some (.int .i64 x))→K ⟨b,o,none⟩):idxS a n z 1 K:=by
 subst hz hn
 have hlt:=aU hx
 have hxx:(is l)[i]?=some (.int .i64 x):=by simp [is,hx]
 rcases h with he | ⟨b,o,rfl,hc⟩
 ·rw [he] at hxx;cases hxx
 ·refine aX (by omega) (by omega) ?_
  have:=hk b (o+i) λy hy=>(Rd.new hy (.inr ⟨b,o,rfl,hc⟩)).cell hxx
  simpa using this
def jd (line lines:Int):Bool:=decide (98≤lines∧lines≤256∧96≤line∧line<lines)
theorem yy (w:World) (line lines:Int):Does 144 [.int .i64 line,.int .i64 lines] w λv w'=>v=.bool (jd line lines)∧w'=w:=by
 refine does Tryz.func144 ?_
 rw [pn]
 have h1:Does 178 [.int .i64 lines] w λv w'=>v=.bool (decide (98≤lines∧lines≤256))∧w'=w:=by
  refine does Tryz.func178 ?_
  rw [oC]
  refine aH (λh=>⟨?_,rfl⟩) (λh=>⟨?_,rfl⟩)
  ·have h:98≤lines:=h;congr 1;simp [h]
  ·have h:¬ 98≤lines:=h;congr 1;simp [h]
 refine aE h1 ?_
 rintro v w1 ⟨rfl,rfl⟩
 unfold jd
 refine ⟨_,rfl,aH (λh=>aH (λh2=>⟨?_,rfl⟩) (λh2=>⟨?_,rfl⟩)) (λh=>⟨?_,rfl⟩)⟩
 ·have h2:96≤line:=h2;congr 1;simp [h.1,h.2,h2]
 ·have h2:¬ 96≤line:=h2;congr 1;simp [h2]
 ·congr 1;simp;intro a b;exact absurd ⟨a,b⟩ h
theorem zY {u:World} {a:Option Addr} {n cap:Nat} {L:List Int} (ho:Owns u 3 1 a n cap (is L)) {x:Int} (hb1:n≤1000000) {K:Nat→Option Addr→Nat→Nat→World→Prop}
  (hk:∀ b ap cap' w3,b=u.heap.size→Owns w3 3 1 ap (n+1) cap' (is (L++[x]))→Keep (isB a) u w3→(∀ k,isB ap k→isB a k∨u.heap.size≤k)→K b ap (n+1) cap' w3) :
  ∀ b1 w2,b1=u.heap.size→w2=u.alloc (.cells #[.int .i64 x] 3)→∃ (ap:Option Addr) (ap_len ap_cap:Nat),∃ w3,(Builtin.append_ #[22,22] 22 #[(.slice a n cap),(.slice (some ⟨b1,0,none⟩) 1 1)]).run prog w2=.ok (.slice ap ap_len ap_cap) w3∧K b1 ap ap_len ap_cap w3:=by
 obtain ⟨inf,hi,hz,hsz,hby⟩:=ig (T:=3) (z:=.int .i64 0) (n:=1) (m:=8) (by kernel_rfl)
 rw [←hsz] at ho
 refine push_k (vs:=[.int .i64 x]) Tryz.underlying22 hi hz (by rw [hsz];rfl) (by omega) ho (by rw [hsz];rfl) (by intro v hv;simp at hv;subst hv;rfl) (by omega) (by omega) ?_
 intro b ap cap' w3 h1 h2
 have e:is L++[Value.int .i64 x]=is (L++[x]):=by simp [is]
 rw [hsz,e] at h2
 exact hk b ap cap' w3 h1 h2
theorem xb {w:World} {e sz n cap:Nat} {a:Option Addr} {xs:List Value} (h:Owns w e sz a n cap xs) (hn:0<n):∃ g cur,a=some ⟨g,0,none⟩∧Blk w g cur e∧n * sz≤cur.length:=by
 rcases h.2 with ⟨_,e,_⟩ | ⟨g,cur,rfl,hg,hnc,_,hcl,_⟩
 ·omega
 ·exact ⟨g,cur,rfl,hg,by rw [hcl];exact Nat.mul_le_mul_right _ hnc⟩
def bs (l:List Bool):List Value:=l.map .bool
end Go.Proofs.YtegepanmkjemjaaGreat
