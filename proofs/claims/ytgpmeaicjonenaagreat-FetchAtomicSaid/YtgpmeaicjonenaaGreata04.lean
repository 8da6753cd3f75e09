import Derived.Test.YtgpmeaicjonenaaGreata02
import Derived.Test.YtgpmeaicjonenaaGreata03
import Derived.Test.YtgpmeaicjonenaaGreatProg
import Derived.RangeFuncNested
import Derived.RangeFuncBound
import Derived.RangeFuncCalls
import Derived.RangeFuncLeaves
set_option linter.unusedVariables false
namespace Go.Proofs.YtgpmeaicjonenaaGreat
open Go.Proofs.Tryz
open Go.Eng
abbrev TMb:TypeId:=128
abbrev TVw:TypeId:=35
abbrev TSM:TypeId:=33
def jM (l:List aE):List (List Value):=l.map aE.cells
theorem yu (l:List aE) (m:aE):(jM (l++[m])).flatten=(jM l).flatten++m.cells:=by simp [jM]
structure Vw where
 number:Int
 mem:List aE
def noM:aE:=⟨0,0,false⟩
def pr (n:Int) (l:List aE) (i:Nat):Bool:=
 decide (0≤(l.getD i noM).Node∧(l.getD i noM).Node<n) && (decide (i=0) || decide ((l.getD (i - 1) noM).Node<(l.getD i noM).Node))
def mT (m:aE):Bool:=decide (1≤m.Boot∧m.Boot≤31)
def Vw.valid (v:Vw) (n:Int):Int:=
 if ¬ (1≤n∧n≤5) then 1 else if v.number<0∨16≤v.number then 2 else if v.mem.length=0 then 1
 else if (List.range v.mem.length).all (pr n v.mem)=false then 1 else if v.mem.all mT=false then 2 else if v.mem.any aE.Full=false then 13 else 0
structure ViewAt (M:Nat→Prop) (w:World) (r:aM) (v:Vw):Prop where
 num:r.Number=v.number
 len:r.Members_l=v.mem.length
 cap:r.Members_l≤r.Members_c
 rd:Rd w r.Members (jM v.mem).flatten
 off:(jM v.mem).flatten=[]∨Off M r.Members
 small:v.mem.length≤1000000
theorem ViewAt.new {M:Nat→Prop} {w w':World} {r:aM} {v:Vw} (h:ViewAt M w r v) (hn:New w w'):ViewAt M w' r v:=⟨h.num,h.len,h.cap,h.rd.new hn,h.off,h.small⟩
theorem zw (w:World) (n:Int):Does 222 [.int .i64 n] w λv w'=>v=.bool (decide (1≤n∧n≤5))∧w'=w:=by
 refine does Tryz.func222 ?_
 rw [rL]
 refine aH (λh=>⟨?_,rfl⟩) (λh=>⟨?_,rfl⟩)
 ·congr 1;simp;omega
 ·congr 1;simp;omega
theorem BD (w:World) (m:aE):Does 224 [m.val] w λv w'=>v=.bool m.Full∧New w w':=by
 refine does Tryz.func224 ?_
 rw [sM]
 rintro b1 w1 hb1 hw1
 obtain ⟨hz,hn⟩:=aO hb1 hw1
 exact ⟨_,hz.cell rfl,rfl,hn⟩
theorem EC:l9 prog 224=true:=by kernel_rfl
section
attribute [local irreducible] l9 nU sL
theorem wF {w:World} {a:Option Addr} {c:Nat} {l:List aE} (h:Rd w a (jM l).flatten) (hl:l.length≤1000000) :
  Does 280 [.slice a l.length c,.func (.func 224) #[] #[]] w λv w'=>∃ z:Int,v=.int .i64 z∧(decide (z≥0)=l.any aE.Full)∧New w w':=by
 refine does Tryz.func280 ?_
 rw [fA]
 refine aT mix (λm env u=>∃ (i:Nat) (jj:List Value),m=l.length - i∧i≤l.length∧env=bC a l.length c (.func (.func 224) #[] #[]) l.length i jj∧New w u∧(l.take i).any aE.Full=false) l.length
  ⟨0,_,by omega,by omega,rfl,Keep.refl _ _,rfl⟩ ?_
 rintro m env u ⟨i,jj,rfl,hi,rfl,hn,hno⟩
 rw [ey]
 refine aH (λhp=>?_) (λhp=>?_)
 ·have hlt:i<l.length:=by omega
  have hg:l[i]?=some l[i]:=List.getElem?_eq_getElem hlt
  refine ez (cells:=aE.cells) aE.len (by omega) (h.new hn) hg rfl rfl λb o hc _=>aE.mk_ex l[i] ⟨hc,?_⟩
  refine nP EC (xs:=#[l[i].val]) (by simp) ?_
  refine aF (BD _ l[i]) ?_
  rintro v u1 ⟨rfl,hn1⟩
  refine ⟨_,rfl,uX (λhf=>⟨i,rfl,?_,hn.new hn1⟩) (λhf=>?_)⟩
  ·have h1:l.any aE.Full=true:=List.any_eq_true.2 ⟨l[i],List.getElem_mem hlt,hf⟩
   rw [h1]
   simp
  ·rw [w64 (by omega) (by omega)]
   refine ⟨l.length - (i+1),by omega,i+1,_,rfl,by omega,rfl,hn.new hn1,?_⟩
   rw [List.take_add_one,hg,List.any_append,hno]
   simpa using hf
 ·rw [eL]
  have:l.take i=l:=List.take_of_length_le (by omega)
  rw [this] at hno
  exact ⟨-1,rfl,by rw [hno];decide,hn⟩
end
theorem sN {w:World} {a:Option Addr} {c:Nat} {l:List aE} (h:Rd w a (jM l).flatten) (hl:l.length≤1000000) :
  Does 223 [.slice a l.length c,.func (.func 224) #[] #[]] w λv w'=>v=.bool (l.any aE.Full)∧New w w':=by
 refine does Tryz.func223 ?_
 rw [eR]
 refine aF (wF h hl) ?_
 rintro v w1 ⟨z,rfl,hz,hn⟩
 exact ⟨_,rfl,by rw [hz],hn⟩
theorem jN {p:Nat→Bool} {n i:Nat} (hi:i<n) (h:p i=false):(List.range n).all p=false:=by
 rw [List.all_eq_false]
 exact ⟨i,List.mem_range.2 hi,by simp [h]⟩
theorem li {α:Type} {l:List α} {i:Nat} {x d:α} (h:l[i]?=some x):l.getD i d=x:=by rw [List.getD_eq_getElem?_getD,h];rfl
set_option maxHeartbeats 1000000 in
theorem xu {M:Nat→Prop} {w:World} {r:aM} {v:Vw} (h:ViewAt M w r v) (n:Int):Does 181 [r.val,.int .i64 n] w λx w'=>x=.int .i64 (v.valid n)∧New w w':=by
 refine does Tryz.func181 ?_
 rw [tW]
 rintro b1 w1 hb1 hw1
 obtain ⟨hz,hn⟩:=aO hb1 hw1
 have hz:Blk w1 b1 r.cells TVw:=hz
 clear hw1
 have hsm:=h.small
 have hlen:=h.len
 have hnum:=h.num
 unfold Vw.valid
 refine aF (zw _ n) ?_
 rintro x w2 ⟨rfl,rfl⟩
 refine ⟨_,rfl,dG (λhb=>?_) (λhb=>?_)⟩
 ·rw [if_pos (by simpa using hb)];exact ⟨rfl,hn⟩
 have hn15:1≤n∧n≤5:=by simpa using hb
 rw [if_neg (λe=>e hn15)]
 refine ⟨_,hz.cell rfl,aH (λhp=>?_) (λhp=>⟨_,hz.cell rfl,aH (λhp2=>?_) (λhp2=>?_)⟩)⟩
 ·rw [if_pos (by omega)];exact ⟨rfl,hn⟩
 ·rw [if_pos (by omega)];exact ⟨rfl,hn⟩
 rw [if_neg (by omega)]
 refine ⟨_,_,_,hz.cell rfl,bK (λh0=>?_) (λh0=>⟨_,_,_,hz.cell rfl,?_⟩)⟩
 ·rw [if_pos (by omega)];exact ⟨rfl,hn⟩
 rw [if_neg (by omega)]
 refine aT mix (λm env u=>∃ (i:Nat) (jj:List Value),m=v.mem.length - i∧i≤v.mem.length∧env=fO n ⟨b1,0,none⟩ r.Members r.Members_l r.Members_c r.Members_l i jj∧New w2 u∧∀ k,k<i→pr n v.mem k=true) v.mem.length
  ⟨0,_,by omega,by omega,rfl,Keep.refl _ _,λk hk=>by omega⟩ ?_
 rintro m env u ⟨i,jj,rfl,hi,rfl,hnu,hok⟩
 rw [mR]
 refine aH (λhq=>?_) (λhq=>?_)
 ·have hlt:i<v.mem.length:=by omega
  have hg:v.mem[i]?=some v.mem[i]:=List.getElem?_eq_getElem hlt
  have hgd:=li (d:=noM) hg
  have hno:pr n v.mem i=false→(List.range v.mem.length).all (pr n v.mem)=false:=jN hlt
  refine ez (cells:=aE.cells) aE.len (by omega) ((h.rd.new hn).new hnu) hg rfl hlen λb o hc _=>aE.mk_ex v.mem[i] ⟨hc,?_⟩
  refine gF (vs:=v.mem[i].cells) rfl (aE.single _) λb2 u2 hb2 hz2 hn2=>?_
  rintro u3 hu3
  have hn3:New u2 u3:=by rw [hu3];exact aU _
  clear hu3
  have hz3:=New.blk hn3 hz2
  have hnu3:=(hnu.new hn2).new hn3
  refine ⟨λy=>New u3 y,Keep.refl _ _,_,λy hy=>(New.blk hy hz3).cell (i:=0) rfl,aH (λhp3=>?_) (λhp3=>⟨_,λy hy=>(New.blk hy hz3).cell (i:=0) rfl,aH (λhp4=>?_) (λhp4=>aH (λhp5=>?_) (λhp5=>?_))⟩)⟩
  ·rw [if_pos (hno (by unfold pr;rw [hgd];simp;omega))];exact ⟨rfl,hn.new hnu3⟩
  ·rw [if_pos (hno (by unfold pr;rw [hgd];simp;omega))];exact ⟨rfl,hn.new hnu3⟩
  ·have hg1:v.mem[i - 1]?=some v.mem[i - 1]:=List.getElem?_eq_getElem (by omega)
   have hgd1:=li (d:=noM) hg1
   refine ⟨_,λy hy=>(New.blk hy hz3).cell (i:=0) rfl,_,_,_,λy hy=>(New.blk (hnu3.new hy) hz).cell (i:=1) rfl,?_⟩
   refine wD (cells:=aE.cells) aE.len (by omega) ((h.rd.new hn).new hnu3) hg1 (by rw [w64 (by omega) (by omega)];omega) hlen λb' o' hc'=>⟨_,λy hy=>hc' y hy 0 _ rfl,aH (λhp6=>?_) (λhp6=>?_)⟩
   ·rw [if_pos (hno (by unfold pr;rw [hgd,hgd1];simp;omega))];exact ⟨rfl,hn.new hnu3⟩
   ·rw [w64 (by omega) (by omega)]
    refine ⟨v.mem.length - (i+1),by omega,i+1,_,rfl,by omega,rfl,hnu3,λk hk=>?_⟩
    rcases Nat.lt_succ_iff_lt_or_eq.1 hk with hk | rfl
    ·exact hok k hk
    ·unfold pr;rw [hgd,hgd1];simp;omega
  ·rw [w64 (by omega) (by omega)]
   refine ⟨v.mem.length - (i+1),by omega,i+1,_,rfl,by omega,rfl,hnu3,λk hk=>?_⟩
   rcases Nat.lt_succ_iff_lt_or_eq.1 hk with hk | rfl
   ·exact hok k hk
   ·unfold pr;rw [hgd];simp;omega
 have hall:(List.range v.mem.length).all (pr n v.mem)=true:=by
  rw [List.all_eq_true]
  intro k hk
  exact hok k (by have:=List.mem_range.1 hk;omega)
 rw [if_neg (by rw [hall];simp)]
 rw [pp]
 have hzu:=New.blk hnu hz
 refine ⟨_,_,_,hzu.cell (i:=1) rfl,?_⟩
 refine aT mix (λm env z=>∃ (i:Nat) (jj:List Value),m=v.mem.length - i∧i≤v.mem.length∧env=im ⟨b1,0,none⟩ r.Members r.Members_l r.Members_c r.Members_l i jj∧New w2 z∧(v.mem.take i).all mT=true) v.mem.length
  ⟨0,_,by omega,by omega,rfl,hnu,rfl⟩ ?_
 clear hzu hnu hok hi hq
 rintro m env u ⟨i,jj,rfl,hi,rfl,hnu,hok⟩
 rw [mS]
 refine aH (λhq=>?_) (λhq=>?_)
 ·have hlt:i<v.mem.length:=by omega
  have hg:v.mem[i]?=some v.mem[i]:=List.getElem?_eq_getElem hlt
  have hno:mT v.mem[i]=false→v.mem.all mT=false:=λe=>by
   rw [List.all_eq_false]
   exact ⟨v.mem[i],List.getElem_mem hlt,by simp [e]⟩
  refine ez (cells:=aE.cells) aE.len (by omega) ((h.rd.new hn).new hnu) hg rfl hlen λb o hc _=>aE.mk_ex v.mem[i] ⟨hc,?_⟩
  refine gF (vs:=v.mem[i].cells) rfl (aE.single _) λb2 u2 hb2 hz2 hn2=>?_
  have hnu2:=hnu.new hn2
  refine ⟨_,hz2.cell (i:=1) rfl,aH (λhp3=>?_) (λhp3=>⟨_,hz2.cell (i:=1) rfl,aH (λhp4=>?_) (λhp4=>?_)⟩)⟩
  ·rw [if_pos (hno (by unfold mT;simp;omega))];exact ⟨rfl,hn.new hnu2⟩
  ·rw [if_pos (hno (by unfold mT;simp;omega))];exact ⟨rfl,hn.new hnu2⟩
  ·rw [w64 (by omega) (by omega)]
   refine ⟨v.mem.length - (i+1),by omega,i+1,_,rfl,by omega,rfl,hnu2,?_⟩
   rw [List.take_add_one,hg,List.all_append,hok]
   simp [mT];omega
 have htake:v.mem.take i=v.mem:=List.take_of_length_le (by omega)
 rw [htake] at hok
 rw [if_neg (by rw [hok];simp)]
 rw [pq]
 have hzu:=New.blk hnu hz
 refine ⟨_,_,_,hzu.cell (i:=1) rfl,?_⟩
 rw [hlen]
 refine aF (sN ((h.rd.new hn).new hnu) hsm) ?_
 rintro x u3 ⟨rfl,hn3⟩
 refine ⟨_,rfl,dG (λhf=>?_) (λhf=>?_)⟩
 ·rw [if_pos hf];exact ⟨rfl,hn.new (hnu.new hn3)⟩
 ·rw [if_neg (by rw [hf];simp)];exact ⟨rfl,hn.new (hnu.new hn3)⟩
end Go.Proofs.YtgpmeaicjonenaaGreat
namespace Go.Proofs.YtgpmeaicjonenaaGreat
open Go.Proofs.Tryz
open Go.Eng
theorem Dm {u:World} {a:Option Addr} {n cap:Nat} {L:List aE} (ho:Owns u TMb 3 a n cap (jM L).flatten) (hn:n=L.length) {m:aE} (hb1:n≤1000000) {K:Nat→Option Addr→Nat→Nat→World→Prop}
  (hk:∀ b ap cap' w3,b=u.heap.size→Owns w3 TMb 3 ap (n+1) cap' (jM (L++[m])).flatten→Keep (isB a) u w3→(∀ k,isB ap k→isB a k∨u.heap.size≤k)→K b ap (n+1) cap' w3) :
  ∀ b1 w2,b1=u.heap.size→w2=u.alloc (.cells m.cells.toArray TMb)→∃ (ap:Option Addr) (ap_len ap_cap:Nat),∃ w3,(Builtin.append_ #[TSM,TSM] TSM #[(.slice a n cap),(.slice (some ⟨b1,0,none⟩) 1 1)]).run prog w2=.ok (.slice ap ap_len ap_cap) w3∧K b1 ap ap_len ap_cap w3:=by
 obtain ⟨inf,hi,hz,hsz,hby⟩:=iF (T:=TMb) (z:=.agg #[.int .i64 0,.int .i64 0,.bool false]) (n:=3) (m:=24) (by kernel_rfl)
 rw [←hsz] at ho
 refine push_k Tryz.underlying33 hi hz (by rw [hsz];rfl) (by omega) ho (by rw [hsz];rfl) (aE.single m) (by omega) (by omega) ?_
 intro b ap cap' w3 h1 h2
 rw [hsz,←yu] at h2
 exact hk b ap cap' w3 h1 h2
end Go.Proofs.YtgpmeaicjonenaaGreat
namespace Go.Proofs.YtgpmeaicjonenaaGreat
open Go.Proofs.Tryz
open Go.Eng IntKind
variable (w:World) (R:Value→World→Prop)
theorem oL (p0:Int):fnW prog f29 [(.int .i64 p0)] R w=(∀ b1 w1,b1=w.heap.size→w1=w.alloc (.cells #[(.int .i64 0),(.slice none 0 0)] 35)→Calls prog 56 #[(.int .i64 p0)] w1 λe w2=>aM.ex λb=>∃ a,e=.returned (.tuple #[b.val,(.int .i64 a)])∧∀ b2 w3,b2=w2.heap.size→w3=w2.alloc (.cells #[(.int .i64 0),(.slice none 0 0)] 35)→wrAt w3 ⟨b2,0,none⟩ 0 b.cells∧∀ w4,w4=puts w3 ⟨b2,0,none⟩ 0 b.cells→aM.ex λr=>aC w4 ⟨b2,0,none⟩ 0 r.cells∧wrAt w4 ⟨b1,0,none⟩ 0 r.cells∧∀ w5,w5=puts w4 ⟨b1,0,none⟩ 0 r.cells→aM.ex λc=>aC w5 ⟨b1,0,none⟩ 0 c.cells∧w5=w5∧R c.val w5):=by kernel_rfl
def dS (s0:Int) (s2 s4:Addr) (s5:Int) (j:LV):LV:=.int .i64 s0::jq j 0 1 (.pointer (some s2)::jq j 1 1 (.pointer (some s4)::.int .i64 s5::jq j 2 21 []))
def io (a b:Addr) (j:LV):LV:=jq j 0 2 (.pointer (some a)::jq j 2 1 (.pointer (some b)::jq j 3 22 []))
theorem mU (p0:Int):fnW prog f56 [.int .i64 p0] R w=(∀ b1 w1,b1=w.heap.size→w1=w.alloc (.cells #[.int .i64 0,.slice none 0 0] 35)→(bif (decide ((p0:Int)<1)) then (wrAt w1 ⟨b1,0,none⟩ 0 [.int .i64 0,.slice none 0 0]∧∀ w2,w2=puts w1 ⟨b1,0,none⟩ 0 [.int .i64 0,.slice none 0 0]→aM.ex λa=>aC w2 ⟨b1,0,none⟩ 0 a.cells∧w2=w2∧R (.tuple #[a.val,.int .i64 1]) w2) else ((bif (decide ((p0:Int)>5)) then (wrAt w1 ⟨b1,0,none⟩ 0 [.int .i64 0,.slice none 0 0]∧∀ w3,w3=puts w1 ⟨b1,0,none⟩ 0 [.int .i64 0,.slice none 0 0]→aM.ex λb=>aC w3 ⟨b1,0,none⟩ 0 b.cells∧w3=w3∧R (.tuple #[b.val,.int .i64 1]) w3) else (∀ b2 w4,b2=w1.heap.size→w4=w1.alloc (.cells #[.int .i64 0,.slice none 0 0] 35)→wrAt w4 ⟨b2,0,none⟩ 0 [.int .i64 0,.slice none 0 0]∧∀ w5,w5=puts w4 ⟨b2,0,none⟩ 0 [.int .i64 0,.slice none 0 0]→cQ prog (.loop (sub (aD f56) [1,1,1,0,1,0,0])) (dS p0 ⟨b1,0,none⟩ ⟨b2,0,none⟩ 0 (undef::ji 0::ji p0::jb (decide ((p0:Int)<1))::jb false::ji p0::jb (decide ((p0:Int)>5))::jb (decide ((p0:Int)>5))::undef::.agg #[.int .i64 0,.slice none 0 0]::uq 13 [])) (aK 0 (nx f56 [1,1,1,1] R)) w5))))):=by kernel_rfl
theorem jV (s0:Int) (s2 s4:Addr) (s5:Int) (j:LV) (N1:LV→World→Prop):W prog (sub (aD f56) [1,1,1,0,1,0,0]) (dS s0 s2 s4 s5 j) (seqQ N1 (aK 0 (nx f56 [1,1,1,1] R))) w=((bif (decide ((s5:Int)<s0)) then (∃ a b c,w.cell? ⟨s4.block,s4.off+1,none⟩=some (.slice a b c)∧∀ b1 w1,b1=w.heap.size→w1=w.alloc (.cells #[.int .i64 s5,.int .i64 1,.bool true] 128)→∃ ap d f,∃ w2,(Builtin.append_ #[33,33] 33 #[.slice a b c,.slice (some ⟨b1,0,none⟩) 1 1]).run prog w1=.ok (.slice ap d f) w2∧(∃ u,w2.cell? ⟨s4.block,s4.off+1,none⟩=some u)∧w2.frozen? ⟨s4.block,s4.off+1,none⟩=false∧∀ w3,w3=w2.setCell ⟨s4.block,s4.off+1,none⟩ (.slice ap d f)→N1 (dS s0 s2 s4 (i64.wrap (s5+1)) (jq j 0 10 [ji s5,ji s0,jb (decide ((s5:Int)<s0)),ji s5,ji (i64.wrap (s5+1)),jf s4 1,js a b c,ji s5,.agg #[.int .i64 s5,.int .i64 1,.bool true],js (some ⟨b1,0,none⟩) 1 1,js ap d f,jf s4 1,jg j 22])) w3) else (W prog (sub (aD f56) [1,1,1,1]) (io s2 s4 (ji s0::jg j 0::jg j 1::ji s5::jq j 2 8 (ji s5::ji s0::jb (decide ((s5:Int)<s0))::jq j 13 10 []))) (retQ prog f56 R) w))):=by kernel_rfl
theorem kM (a b:Addr) (j:LV):W prog (sub (aD f56) [1,1,1,1]) (io a b j) (retQ prog f56 R) w=(aM.ex λr=>aC w b 0 r.cells∧wrAt w a 0 r.cells∧∀ w1,w1=puts w a 0 r.cells→aM.ex λc=>aC w1 a 0 c.cells∧w1=w1∧R (.tuple #[c.val,.int .i64 0]) w1):=by kernel_rfl
end Go.Proofs.YtgpmeaicjonenaaGreat
namespace Go.Proofs.YtgpmeaicjonenaaGreat
open Go.Eng
theorem Dn {x n:Int} (hn:1≤n):0≤(if n<1 then 0 else x % n)∧(if n<1 then 0 else x % n)<n:=by
 rw [if_neg (by omega)]
 exact ⟨Int.emod_nonneg x (by omega),Int.emod_lt_of_pos x (by omega)⟩
structure FA (v:Vw):Prop where
 num:0≤v.number∧v.number<16
 boot:∀ m ∈ v.mem,1≤m.Boot
 ne:v.mem≠[]
 few:v.mem.length≤5
abbrev ED (A:Nat):Nat→Prop:=λk=>k<A
theorem FB {w:World} {n:Int} {a:Option Addr} {c A:Nat} {L:List aE} (ho:Owns w TMb 3 a L.length c (jM L).flatten) (hl:L.length≤1000000) (hf:∀ k,isB a k→A≤k):ViewAt (ED A) w ⟨n,a,L.length,c⟩ ⟨n,L⟩:=
 ⟨rfl,rfl,ho.le,ho.rd,lD ho.rd λk hk h=>Nat.lt_irrefl _ (Nat.lt_of_lt_of_le h (hf k hk)),hl⟩
theorem ViewAt.mono {M M':Nat→Prop} {w:World} {r:aM} {v:Vw} (h:ViewAt M w r v) (hm:∀ k,k<w.heap.size→M' k→M k):ViewAt M' w r v:=by
 refine ⟨h.num,h.len,h.cap,h.rd,?_,h.small⟩
 rcases h.off with e | e
 ·exact .inl e
 ·rcases h.rd with e2 | ⟨b,o,e2,hc⟩
  ·exact .inl e2
  ·by_cases he:(jM v.mem).flatten=[]
   ·exact .inl he
   ·rw [e2] at e ⊢
    refine .inr λhM=>e (hm _ ?_ hM)
    cases hl:(jM v.mem).flatten with
    |nil=>exact absurd hl he
    |cons x xs=>exact wC (hc 0 x (by rw [hl];rfl))
def stM (n:Nat):List aE:=(List.range n).map λ(i:Nat)=>⟨(i:Int),1,true⟩
theorem zx (n:Nat):(stM n).length=n:=by simp [stM]
theorem BE (n:Nat):stM (n+1)=stM n++[⟨(n:Int),1,true⟩]:=by simp [stM,List.range_succ]
theorem BF {n:Nat} {m:aE} (h:m ∈ stM n):1≤m.Boot:=by
 simp only [stM,List.mem_map] at h
 obtain ⟨i,_,rfl⟩:=h
 exact Int.le_refl _
theorem yv (w:World) {n:Int} (h1:1≤n) (h5:n≤5):Does 56 [.int .i64 n] w λx w'=>∃ (a:Option Addr) (c:Nat) (L:List aE),x=.tuple #[aM.val ⟨0,a,L.length,c⟩,.int .i64 0]∧Owns w' TMb 3 a L.length c (jM L).flatten∧New w w'∧L=stM n.toNat∧(∀ k,isB a k→w.heap.size≤k):=by
 refine does Tryz.func56 ?_
 rw [mU]
 rintro b1 w1 hb1 hw1
 obtain ⟨hz1,hn1⟩:=aO hb1 hw1
 have hz1:Blk w1 b1 (aM.cells ⟨0,none,0,0⟩) TVw:=hz1
 clear hw1
 refine aH (λhp=>absurd hp (by omega)) (λ_=>aH (λhp=>absurd hp (by omega)) (λ_=>?_))
 refine gF (vs:=aM.cells ⟨0,none,0,0⟩) rfl (aM.single _) λb2 w3 hb2 hz3 hn3=>?_
 have hz13:=New.blk hn3 hz1
 have hn03:=hn1.new hn3
 have hs1:=hn1.size
 have hs1':=hz1.lt
 refine aT mix (λm env u=>∃ (i:Nat) (a:Option Addr) (c:Nat) (L:List aE) (jj:List Value),m=n.toNat - i∧i≤n.toNat∧env=dS n ⟨b1,0,none⟩ ⟨b2,0,none⟩ i jj∧New w u∧Blk u b1 (aM.cells ⟨0,none,0,0⟩) TVw∧Blk u b2 (aM.cells ⟨0,a,L.length,c⟩) TVw∧Owns u TMb 3 a L.length c (jM L).flatten∧(∀ k,isB a k→b2<k)∧L=stM i) n.toNat
  ⟨0,none,0,[],_,by omega,by omega,rfl,hn03,hz13,hz3,Owns.nil _ _ _,(λk hk=>by obtain ⟨o,ho⟩:=hk;cases ho),rfl⟩ ?_
 rintro m env u ⟨i,a,c,L,jj,rfl,hi,rfl,hnu,hu1,hu2,hown,hfr,hLs⟩
 have hLi:L.length=i:=by rw [hLs,zx]
 rw [jV]
 refine aH (λhq=>?_) (λhq=>?_)
 ·refine ⟨_,_,_,hu2.cell (i:=1) rfl,?_⟩
  refine Dm hown rfl (m:=⟨i,1,true⟩) (by omega) ?_
  intro b3 ap cap u3 hb3 ho3 hk3 hap
  have hu13:=hk3.blk hu1 λe=>by have:=hfr b1 e;omega
  have hu23:=hk3.blk hu2 λe=>by have:=hfr b2 e;omega
  have hus:=hu2.lt
  have hfr3:∀ k,isB ap k→b2<k:=λk hk=>by
   rcases hap k hk with h1 | h1
   ·exact hfr k h1
   ·omega
  refine CW (b:=b2) hu23 (o:=0+1) (by simp [aM.cells]) λu4 hu24 hk4=>?_
  rw [w64 (by omega) (by omega)]
  refine ⟨n.toNat - (i+1),by omega,i+1,ap,cap,L++[⟨i,1,true⟩],_,rfl,by omega,rfl,?_,hk4.blk hu13 (by omega),?_,?_,hfr3,by rw [hLs,BE]⟩
  ·have h1:New w u3:=pk hnu hk3 λk hk=>by have:=hfr k hk;omega
   exact h1.trans hk4 λk hlt e=>by omega
  ·rw [List.length_append];exact hu24
  ·rw [List.length_append];exact Owns.keep hk4 ho3 λk hk e=>by have:=hfr3 k hk;omega
 ·have hin:i=n.toNat:=by omega
  rw [kM]
  refine aM.mk_ex ⟨0,a,L.length,c⟩ ⟨aI hu2 rfl,?_⟩
  refine ⟨cK hu1 (by simp [aM.cells]) (aM.single _),λu2 hu=>?_⟩
  have hk:Keep (λk=>k=b1) u u2:=by rw [hu];exact dD _ _ _ _ _
  have hz:Blk u2 b1 (aM.cells ⟨0,a,L.length,c⟩) TVw:=by rw [hu];exact hu1.puts
  refine aM.mk_ex ⟨0,a,L.length,c⟩ ⟨aI hz rfl,rfl,a,c,L,rfl,?_,?_,by rw [hLs,hin],?_⟩
  ·exact Owns.keep hk hown λk hk' e=>by have:=hfr k hk';omega
  ·exact hnu.trans hk λk hlt e=>by omega
  ·intro k hk';have:=hfr k hk';omega
theorem zy (w:World) {n:Int} (h1:1≤n) (h5:n≤5):Does 29 [.int .i64 n] w λx w'=>∃ r v,x=aM.val r∧ViewAt (ED w.heap.size) w' r v∧New w w'∧FA v∧v=⟨0,stM n.toNat⟩:=by
 refine does Tryz.func29 ?_
 rw [oL]
 rintro b1 w1 hb1 hw1
 obtain ⟨hz1,hn1⟩:=aO hb1 hw1
 have hz1:Blk w1 b1 (aM.cells ⟨0,none,0,0⟩) TVw:=hz1
 clear hw1
 refine aF (yv w1 h1 h5) ?_
 rintro v w2 ⟨a,c,L,rfl,hown,hn2,hLs,hfr⟩
 have hLn:(L.length:Int)=n:=by rw [hLs,zx];omega
 have hbt:∀ m ∈ L,1≤m.Boot:=λm hm=>BF (hLs▸hm)
 refine aM.mk_ex ⟨0,a,L.length,c⟩ ⟨_,rfl,?_⟩
 refine gF (vs:=aM.cells ⟨0,a,L.length,c⟩) rfl (aM.single _) λb2 w3 hb2 hz3 hn3=>?_
 refine aM.mk_ex ⟨0,a,L.length,c⟩ ⟨aI hz3 rfl,?_⟩
 have hz13:=New.blk (hn2.new hn3) hz1
 have hown3:=Owns.new hn3 hown
 refine ⟨cK hz13 (by simp [aM.cells]) (aM.single _),λu2 hu=>?_⟩
 have hk:Keep (λk=>k=b1) w3 u2:=by rw [hu];exact dD _ _ _ _ _
 have hz:Blk u2 b1 (aM.cells ⟨0,a,L.length,c⟩) TVw:=by rw [hu];exact hz13.puts
 have hne:∀ k,isB a k→k≠b1:=λk hk' e=>by
  subst e
  obtain ⟨o,ho⟩:=hk'
  rcases hown3.2 with ⟨h,_⟩ | ⟨g,cur,he,hg,_⟩
  ·rw [h] at ho;cases ho
  ·rw [he] at ho
   simp at ho
   exact absurd (hg.uniq (ho.1▸hz13)).2 (by decide)
 refine aM.mk_ex ⟨0,a,L.length,c⟩ ⟨aI hz rfl,rfl,_,⟨0,L⟩,rfl,FB (Owns.keep hk hown3 hne) (by omega) (λk hk'=>by have:=hfr k hk';have:=hn1.size;omega),?_,⟨⟨by simp,by simp⟩,hbt,λe=>?_,?_⟩,by rw [hLs]⟩
 ·exact (hn1.new (hn2.new hn3)).trans hk λk hlt e=>by omega
 ·have e:L=[]:=e
  rw [e] at hLn
  simp at hLn <;> omega
 ·show L.length≤5
  omega
end Go.Proofs.YtgpmeaicjonenaaGreat
namespace Go.Proofs.YtgpmeaicjonenaaGreat
open Go.Proofs.Tryz
open Go.Eng IntKind
variable (w:World) (R:Value→World→Prop)
theorem tX (a b c d f g:Int) (h:Option Addr) (i k:Nat) (l m:Int) (w:World) (R:Value→World→Prop):fnW prog f140 [.agg #[.int .i64 a,.int .i64 b,.int .i64 c,.int .i64 d,.int .u64 f,.int .u64 g,.slice h i k,.int .u64 l,.int .i64 m]] R w=(∀ b1 w1,b1=w.heap.size→w1=w.alloc (.cells #[.int .i64 a,.int .i64 b,.int .i64 c,.int .i64 d,.int .u64 f,.int .u64 g,.slice h i k,.int .u64 l,.int .i64 m] 173)→∃ n,w1.cell? ⟨b1,0,none⟩=some (.int .i64 n)∧(bif ((n:Int) == 1) then (∃ N_,w1.cell? ⟨b1,3,none⟩=some (.int .i64 N_)∧R (.int .i64 N_) w1) else ((bif ((n:Int) == 2) then (∃ o p q,w1.cell? ⟨b1,6,none⟩=some (.slice o p q)∧R (.int .i64 (p:Nat)) w1) else ((bif ((n:Int) == 3) then ((bif ((n:Int) == 3) then (R (.int .i64 1) w1) else (R (.int .i64 0) w1))) else ((bif ((n:Int) == 4) then (R (.int .i64 1) w1) else (R (.int .i64 0) w1))))))))):=by kernel_rfl
theorem sO (a b c d f g:Int) (h:Option Addr) (i k:Nat) (l m:Int) (w:World) (R:Value→World→Prop):fnW prog f148 [.agg #[.int .i64 a,.int .i64 b,.int .i64 c,.int .i64 d,.int .u64 f,.int .u64 g,.slice h i k,.int .u64 l,.int .i64 m]] R w=(∀ b1 w1,b1=w.heap.size→w1=w.alloc (.cells #[.int .i64 a,.int .i64 b,.int .i64 c,.int .i64 d,.int .u64 f,.int .u64 g,.slice h i k,.int .u64 l,.int .i64 m] 173)→R (.func (.func 200) #[] #[.pointer (some ⟨b1,0,none⟩)]) w1):=by kernel_rfl
def fI (s0:Value) (s3 s4:Int) (j:LV):LV:=s0::jq j 0 2 (.int .i64 s3::.int .i64 s4::jq j 2 24 [])
theorem qV (p0:Value) (c0:Nat):fnW prog f200 [p0,.pointer (some ⟨c0,0,none⟩)] R w=(∀ w1,w1=w.drew→∃ Sx:World→Prop,Sx w1∧∃ At,(∀ u,Sx u→u.cell? ⟨c0,2,none⟩=some (.int .i64 At))∧∃ a b c N_ d f g h i k l,(∀ u,Sx u→aC u ⟨c0,0,none⟩ 0 [.int .i64 a,.int .i64 b,.int .i64 c,.int .i64 N_,.int .u64 d,.int .u64 f,.slice g h i,.int .u64 k,.int .i64 l])∧Calls prog 140 #[.agg #[.int .i64 a,.int .i64 b,.int .i64 c,.int .i64 N_,.int .u64 d,.int .u64 f,.slice g h i,.int .u64 k,.int .i64 l]] w1 λe w2=>∃ m,e=.returned (.int .i64 m)∧Sx w2∧cQ prog (.loop (sub (aD f200) [1,0,0])) (fI p0 At m (jp ⟨c0,0,none⟩::uq 2 (jp ⟨c0,2,none⟩::ji At::.agg #[.int .i64 a,.int .i64 b,.int .i64 c,.int .i64 N_,.int .u64 d,.int .u64 f,.slice g h i,.int .u64 k,.int .i64 l]::ji m::uq 19 []))) (aK 0 (retQ prog f200 R)) w2):=by kernel_rfl
theorem lE (s0:Value) (s3 s4:Int) (j:LV) (N1:LV→World→Prop):W prog (sub (aD f200) [1,0,0]) (fI s0 s3 s4 j) (seqQ N1 (aK 0 (retQ prog f200 R))) w=((bif (decide ((s4:Int)>0)) then (nU prog s0 #[.agg #[.int .i64 s3,.int .i64 (if ((i64.wrap (8 - (Int.tmod s3 8))):Int)<s4 then ((i64.wrap (8 - (Int.tmod s3 8))):Int) else s4)]] w λe w1=>∃ a,e=.returned (.bool a)∧(bif (!a) then (R (.tuple #[]) w1) else (N1 (fI s0 (i64.wrap (s3+(if ((i64.wrap (8 - (Int.tmod s3 8))):Int)<s4 then ((i64.wrap (8 - (Int.tmod s3 8))):Int) else s4))) (i64.wrap (s4 - (if ((i64.wrap (8 - (Int.tmod s3 8))):Int)<s4 then ((i64.wrap (8 - (Int.tmod s3 8))):Int) else s4))) (jg j 0::jg j 1::ji (if ((i64.wrap (8 - (Int.tmod s3 8))):Int)<s4 then ((i64.wrap (8 - (Int.tmod s3 8))):Int) else s4)::jq j 3 4 [ji s4,jb (decide ((s4:Int)>0)),ji s4,ji s3,ji (Int.tmod s3 8),ji (i64.wrap (8 - (Int.tmod s3 8))),ji (if ((i64.wrap (8 - (Int.tmod s3 8))):Int)<s4 then ((i64.wrap (8 - (Int.tmod s3 8))):Int) else s4),s0,ji s3,ji (if ((i64.wrap (8 - (Int.tmod s3 8))):Int)<s4 then ((i64.wrap (8 - (Int.tmod s3 8))):Int) else s4),.agg #[.int .i64 s3,.int .i64 (if ((i64.wrap (8 - (Int.tmod s3 8))):Int)<s4 then ((i64.wrap (8 - (Int.tmod s3 8))):Int) else s4)],jb a,jb (!a),ji s3,ji (if ((i64.wrap (8 - (Int.tmod s3 8))):Int)<s4 then ((i64.wrap (8 - (Int.tmod s3 8))):Int) else s4),ji (i64.wrap (s3+(if ((i64.wrap (8 - (Int.tmod s3 8))):Int)<s4 then ((i64.wrap (8 - (Int.tmod s3 8))):Int) else s4))),ji s4,ji (if ((i64.wrap (8 - (Int.tmod s3 8))):Int)<s4 then ((i64.wrap (8 - (Int.tmod s3 8))):Int) else s4),ji (i64.wrap (s4 - (if ((i64.wrap (8 - (Int.tmod s3 8))):Int)<s4 then ((i64.wrap (8 - (Int.tmod s3 8))):Int) else s4)))])) w1))) else (R (.tuple #[]) w))):=by kernel_rfl
end Go.Proofs.YtgpmeaicjonenaaGreat
namespace Go.Proofs.YtgpmeaicjonenaaGreat
open Go.Eng
theorem mv {w:World} {ad:Addr} {v:aJ} {K:Int→Int→Int→Int→Int→Int→Option Addr→Nat→Nat→Int→Int→Prop} (h:aC w ad 0 v.cells)
  (hk:K v.Kind v.Node v.At v.N v.Old v.New v.Words v.Wl v.Wc v.Key v.Boot) :
  ∃ (Kind:Int) (Node:Int) (At:Int) (N:Int) (Old:Int) (New:Int) (Words:Option Addr) (Wl:Nat) (Wc:Nat) (Key:Int) (Boot:Int),
   aC w ad 0 [.int .i64 Kind,.int .i64 Node,.int .i64 At,.int .i64 N,.int .u64 Old,.int .u64 New,.slice Words Wl Wc,.int .u64 Key,.int .i64 Boot]∧K Kind Node At N Old New Words Wl Wc Key Boot:=
 ⟨_,_,_,_,_,_,_,_,_,_,_,h,hk⟩
theorem mV {S:World→Prop} {ad:Addr} {v:aJ} {K:Int→Int→Int→Int→Int→Int→Option Addr→Nat→Nat→Int→Int→Prop} (h:∀ u,S u→aC u ad 0 v.cells)
  (hk:K v.Kind v.Node v.At v.N v.Old v.New v.Words v.Wl v.Wc v.Key v.Boot) :
  ∃ (Kind:Int) (Node:Int) (At:Int) (N:Int) (Old:Int) (New:Int) (Words:Option Addr) (Wl:Nat) (Wc:Nat) (Key:Int) (Boot:Int),
   (∀ u,S u→aC u ad 0 [.int .i64 Kind,.int .i64 Node,.int .i64 At,.int .i64 N,.int .u64 Old,.int .u64 New,.slice Words Wl Wc,.int .u64 Key,.int .i64 Boot])∧K Kind Node At N Old New Words Wl Wc Key Boot:=
 ⟨_,_,_,_,_,_,_,_,_,_,_,h,hk⟩
abbrev TV:TypeId:=173
theorem vbox {w:World} {b:Nat} {v:aJ} (h:Blk w b v.cells TV):aC w ⟨b,0,none⟩ 0 v.cells:=aI h (by simp [aJ.cells])
theorem pt (w:World) (v:aJ):Blk (w.alloc (.cells v.cells.toArray TV)) w.heap.size v.cells TV:=jK _ _ _
def aJ.count (v:aJ):Int:=if v.Kind=1 then v.N else if v.Kind=2 then v.Wl else if v.Kind=3∨v.Kind=4 then 1 else 0
theorem tY (w:World) (v:aJ):Does 140 [v.val] w λx w'=>x=.int .i64 v.count∧New w w':=by
 refine does Tryz.func140 ?_
 refine Eq.mpr (tX v.Kind v.Node v.At v.N v.Old v.New v.Words v.Wl v.Wc v.Key v.Boot w _) ?_
 rintro b1 w1 rfl rfl
 have hb:=pt w v
 have hn:=dP w (.cells v.cells.toArray TV)
 refine ⟨_,hb.cell rfl,bK (λh1=>⟨_,hb.cell rfl,?_,hn⟩) (λh1=>bK (λh2=>⟨_,_,_,hb.cell rfl,?_,hn⟩) (λh2=>bK (λh3=>bK (λ_=>⟨?_,hn⟩) (λh=>absurd h3 h)) (λh3=>bK (λh4=>⟨?_,hn⟩) (λh4=>⟨?_,hn⟩))))⟩
 ·simp [aJ.count,h1]
 ·simp [aJ.count,h2]
 ·simp [aJ.count,h3]
 ·simp [aJ.count,h4]
 ·simp [aJ.count,h1,h2,h3,h4]
end Go.Proofs.YtgpmeaicjonenaaGreat
namespace Go.Proofs.YtgpmeaicjonenaaGreat
open Go.Proofs.Tryz
open Go.Eng Go.RowKit
def encP (x:Int×Int):Array Value:=#[.agg #[.int .i64 x.1,.int .i64 x.2]]
def cE:Nat→Int→Int→List (Int×Int)
 | 0,_,_=>[]
 |f+1,at_,left=>if left≤0 then [] else (at_,if 8 - at_ % 8<left then 8 - at_ % 8 else left)::
   cE f (at_+(if 8 - at_ % 8<left then 8 - at_ % 8 else left)) (left - (if 8 - at_ % 8<left then 8 - at_ % 8 else left))
def aJ.pieces (v:aJ):List (Int×Int):=cE v.count.toNat v.At v.count
theorem uZ {w w':World} (h:Go.Eng.New w w'):w.grownBy w' none:=⟨h.os,h.tape,h.output,h.size,λk hk _=>h.block k hk id⟩
theorem yw {m:Nat} {P:Program} {l:Nat} {args:Array Value} {W:World} {R:Ending→World→Prop} (h:YieldAt Fence.wide m P l args W R) (k:Nat):YieldAt Fence.wide k P l args W R:=by
 obtain ⟨fn,tmps,assign,body,h1,h2⟩:=h
 exact ⟨fn,tmps,assign,body,h1,h2.1,λc cs _=>h2.2 c cs (room_wide _)⟩
theorem yx (n l Bn n₀:Nat) (v:aJ) (J Jx:List (Int×Int)→World→Prop) (ha0:0≤v.At) (ha1:v.At≤1000000) (hc0:1≤v.count) (hc1:v.count≤1000000) (W:World)
  (hJ:AbidesFrom W.heap.size J) (hY:∀ pre x W,J pre W→pre.length<v.pieces.length→YieldAt Fence.wide (n - 1) prog l (encP x) W λe W'=>
   (e=.returned (.bool true)∧J (pre++[x]) W'∧Below n₀ W W')∨(e=.returned (.bool false)∧Jx (pre++[x]) W'))
  (hBn:∀ u,Below (Bn+1) W u→aC u ⟨Bn,0,none⟩ 0 v.cells) (hb:Bn+1≤W.heap.size) (h0:J [] W) :
  CallsIn Fence.wide n prog 200 #[.func (.yield l) #[] #[],.pointer (some ⟨Bn,0,none⟩)] W λe W'=>(∃ v,e=.returned v)∧
   ((∃ ys,ys=v.pieces∧J ys W')∨(∃ pre,pre <+: v.pieces∧Jx pre W')):=by
 refine callsIn_wide.2 (Calls.mono (R:=λe w'=>∃ x,e=.returned x∧((∃ ys,ys=v.pieces∧J ys w')∨(∃ pre,pre <+: v.pieces∧Jx pre w'))) ?_ λe w' ⟨x,hx,hr⟩=>⟨⟨x,hx⟩,hr⟩)
 refine does Tryz.func200 (args:=[.func (.yield l) #[] #[],.pointer (some ⟨Bn,0,none⟩)]) (R:=λ_ w'=>(∃ ys,ys=v.pieces∧J ys w')∨(∃ pre,pre <+: v.pieces∧Jx pre w')) ?_
 rw [qV]
 intro w1 hw1
 have hn1:Go.Eng.New W w1:=by rw [hw1];exact aU _
 clear hw1
 have hbl:∀ u,Go.Eng.New w1 u→Below (Bn+1) W u:=λu hu=>(hn1.new hu).below (by omega) λ_ _ h=>h
 refine ⟨λu=>Go.Eng.New w1 u,Keep.refl _ _,v.At,λu hu=>?_,?_⟩
 ·have:=hBn u (hbl u hu)
  exact this.2.2.1
 refine mV (v:=v) (λu hu=>hBn u (hbl u hu)) ?_
 refine aF (tY _ v) ?_
 rintro r w2 ⟨rfl,hn2⟩
 refine ⟨_,rfl,hn2,?_⟩
 have hJ2:J [] w2:=hJ _ _ _ none h0 (uZ (hn1.new hn2)) (λ_ h=>by cases h)
 refine aT mix (λm env u=>∃ (f:Nat) (at_ left:Int) (jj:List Value) (pre:List (Int×Int)),m=f∧left≤f∧0≤at_∧0≤left∧at_+left≤2000000∧env=fI (.func (.yield l) #[] #[]) at_ left jj∧v.pieces=pre++cE f at_ left∧J pre u) v.count.toNat
  ⟨v.count.toNat,v.At,v.count,_,[],rfl,by omega,ha0,by omega,by omega,rfl,rfl,hJ2⟩ ?_
 rintro f env u ⟨_,at_,left,jj,pre,rfl,hlf,hat,hle,hsum,rfl,hpre,hJu⟩
 rw [lE]
 refine aH (λhp=>?_) (λhp=>?_)
 ·obtain ⟨f',rfl⟩:∃ f',f=f'+1:=⟨f - 1,by omega⟩
  have hmod:Int.tmod at_ 8=at_ % 8:=Int.tmod_eq_emod_of_nonneg hat
  rw [hmod,w64 (x:=8 - at_ % 8) (by omega) (by omega)]
  generalize hk:(if 8 - at_ % 8<left then 8 - at_ % 8 else left)=k
  have hk1:1≤k∧k≤left∧k≤8:=by rw [←hk];split<;>omega
  have hcons:cE (f'+1) at_ left=(at_,k)::cE f' (at_+k) (left - k):=by
   rw [cE,if_neg (by omega),hk]
  rw [hcons] at hpre
  have hy:=yw (hY pre (at_,k) u hJu (by rw [hpre];simp)) 0
  refine Exists.imp (λfn=>Exists.imp λtmps=>Exists.imp λassign=>Exists.imp λbody=>And.imp id λh=>RoundIn.mono h ?_) hy
  rintro e w3 (⟨rfl,hJ3,_⟩ | ⟨rfl,hJx3⟩)
  ·refine ⟨_,rfl,er rfl ?_⟩
   rw [w64 (by omega) (by omega),w64 (by omega) (by omega)]
   refine ⟨f',by omega,f',at_+k,left - k,_,pre++[(at_,k)],rfl,by omega,by omega,by omega,by omega,rfl,by rw [hpre];simp,hJ3⟩
  ·exact ⟨_,rfl,gE rfl (.inr ⟨_,⟨cE f' (at_+k) (left - k),by rw [hpre];simp⟩,hJx3⟩)⟩
 ·refine .inl ⟨pre,?_,hJu⟩
  have:left=0:=by omega
  subst this
  rw [hpre]
  cases f<;>simp [cE]
end Go.Proofs.YtgpmeaicjonenaaGreat
namespace Go.Proofs.YtgpmeaicjonenaaGreat
open Go.Eng Go.RowKit
theorem kb:∀ (f:Nat) (at_ left:Int),0≤at_→∀ p ∈ cE f at_ left,at_≤p.1∧1≤p.2∧p.2≤8∧p.1+p.2≤at_+left
 | 0,_,_,_,p,hp=>by simp [cE] at hp
 |f+1,at_,left,h0,p,hp=>by
  unfold cE at hp
  split at hp
  ·simp at hp
  ·rename_i hl
   rcases List.mem_cons.1 hp with rfl | hp
   ·simp only
    split<;>omega
   ·have:=kb f _ _ (by split<;>omega) p hp
    split at this<;>omega
theorem tZ (f:Nat) (at_ left:Int) (h:1≤left) (hf:1≤f):cE f at_ left≠[]:=by
 cases f with
 |zero=>omega
 |succ f=>unfold cE;rw [if_neg (by omega)];simp
theorem jD:∀ (f:Nat) (at_ left:Int),(cE f at_ left).length≤f
 | 0,_,_=>by simp [cE]
 |f+1,at_,left=>by
  unfold cE
  split
  ·simp
  ·simp only [List.length_cons]
   have:=jD f (at_+(if 8 - at_ % 8<left then 8 - at_ % 8 else left)) (left - (if 8 - at_ % 8<left then 8 - at_ % 8 else left))
   omega
def sP (ps:List (Int×Int)):List (List Value):=ps.map λp=>[.int .i64 p.1,.int .i64 p.2]
theorem zz (ps:List (Int×Int)):∀ r ∈ sP ps,r.length=2:=by
 intro r hr
 simp only [sP,List.mem_map] at hr
 obtain ⟨v,_,rfl⟩:=hr
 rfl
theorem zB {ps:List (Int×Int)} {i:Nat} {p:Int×Int} (h:ps[i]?=some p):(sP ps)[i]?=some [.int .i64 p.1,.int .i64 p.2]:=by simp [sP,h]
abbrev TPc:TypeId:=202
end Go.Proofs.YtgpmeaicjonenaaGreat
