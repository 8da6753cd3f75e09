/- A part of the proof. -/
import Derived.Test.YtafopfaomkklpaaGreatp08
import Derived.Test.YtafopfaomkklpaaGreatp10
set_option linter.unusedVariables false
namespace Go.Proofs.YtafopfaomkklpaaGreat
open Go.Proofs.Tryz
open Go.Eng
abbrev TI:TypeId:=3
def ptr (b:Nat):Value:=.pointer (some ⟨b,0,none⟩)
def cwP (w:Int):Int:=w / 4503599627370496
def cwA (w:Int):Int:=w / 1099511627776 % 4096
def cwV (w:Int):Int:=w % 1099511627776
theorem G2 (w:Int):0≤cwA w∧cwA w<4096:=by unfold cwA;omega
theorem G3 (w:Int):0≤cwV w∧cwV w<1099511627776:=by unfold cwV;omega
theorem G4 {w:Int} (h:0≤w):bshr .u64 w 52=cwP w:=by
 show Int.fdiv w 4503599627370496=_
 rw [Int.fdiv_eq_ediv_of_nonneg _ (by decide)];rfl
theorem G5 {w:Int} (h:0≤w):bshr .u64 w 40=w / 1099511627776:=by
 show Int.fdiv w 1099511627776=_
 rw [Int.fdiv_eq_ediv_of_nonneg _ (by decide)]
theorem Ee (w:World):Does 137 [.int .i64 12] w λv w'=>v=.int .u64 ((2 ^ 12 - 1:Nat):Int)∧w'=w:=by
 refine does Tryz.func137 ?_
 rw [uL]
 exact ⟨by decide,rfl,rfl⟩
theorem Ef (w:World):Does 137 [.int .i64 40] w λv w'=>v=.int .u64 ((2 ^ 40 - 1:Nat):Int)∧w'=w:=by
 refine does Tryz.func137 ?_
 rw [uL]
 exact ⟨by decide,rfl,rfl⟩
theorem zC (w:World) {x:Int} (h0:0≤x) (h1:x<18446744073709551616):Does 95 [.int .u64 x] w λv w'=>v=.tuple #[.int .u64 (cwP x),.int .u64 (cwA x),.int .u64 (cwV x)]∧w'=w:=by
 refine does Tryz.func95 ?_
 rw [qN]
 refine aG (Ee _) ?_
 rintro v w1 ⟨rfl,rfl⟩
 refine ⟨_,rfl,?_⟩
 refine aG (Ef _) ?_
 rintro v w1 ⟨rfl,rfl⟩
 refine ⟨_,rfl,?_,rfl⟩
 rw [G4 h0,G5 h0,mQ (by omega) (by omega) 12 (by omega),mQ h0 h1 40 (by omega)]
 rfl
theorem AO (w:World) (a b:Int):Does 138 [.int .i64 a,.int .i64 b] w λv w'=>∃ c0 c1,v=.func (.func 171) #[] #[ptr c0,ptr c1]∧Blk w' c0 [.int .i64 b] TI∧Blk w' c1 [.int .i64 a] TI∧New w w':=by
 refine does Tryz.func138 ?_
 rw [uV]
 rintro b1 w1 hb1 hw1 b2 w2 hb2 hw2
 obtain ⟨hz1,hn1⟩:=aR hb1 hw1
 obtain ⟨hz2,hn2⟩:=aR hb2 hw2
 exact ⟨b2,b1,rfl,hz2,New.blk hn2 hz1,hn1.new hn2⟩
def wG (a b i:Int):Int:=if i<0∨b≤i then -1 else a * 8+i
theorem yA (w:World) {c0 c1:Nat} {a b:Int} (h0:Blk w c0 [.int .i64 b] TI) (h1:Blk w c1 [.int .i64 a] TI) (ha:0≤a∧a≤100000) (hb:b≤100000) (i:Int):Does 171 [.int .i64 i,ptr c0,ptr c1] w λv w'=>v=.int .i64 (wG a b i)∧w'=w:=by
 refine does Tryz.func171 ?_
 rw [ptr,ptr,tF]
 unfold wG
 refine aE (λh=>⟨by rw [if_pos (by omega)],rfl⟩) (λh=>⟨b,h0.cell rfl,aE (λh2=>⟨by rw [if_pos (by omega)],rfl⟩) (λh2=>⟨a,h1.cell rfl,?_,rfl⟩)⟩)
 rw [if_neg (by omega),w64 (x:=a * 8) (by omega) (by omega),w64 (x:=a * 8+i) (by omega) (by omega)]
attribute [local irreducible] okFun wC zt
theorem AP:okFun prog 171=true:=by kernel_rfl
theorem sO (w:World) (i:Int):Does 96 [.int .i64 i] w λv w'=>v=.int .i64 (wG 1 16 i)∧New w w':=by
 refine does Tryz.func96 ?_
 rw [sN]
 refine aG (AO _ _ _) ?_
 rintro v w1 ⟨c0,c1,rfl,hb0,hb1,hn⟩
 have hok:=AP
 refine ⟨_,rfl,?_⟩
 have hx:(#[]++#[.int .i64 i]++#[ptr c0,ptr c1]:Array Value)=#[.int .i64 i,ptr c0,ptr c1]:=by simp
 refine xD hok hx ?_
 refine aG (yA w1 hb0 hb1 (by omega) (by omega) i) ?_
 rintro v w2 ⟨rfl,rfl⟩
 exact ⟨_,rfl,rfl,hn⟩
theorem G6 (w:World) (i:Int):Does 100 [.int .i64 i] w λv w'=>v=.int .i64 (wG 3 6 i)∧New w w':=by
 refine does Tryz.func100 ?_
 rw [wF]
 refine aG (AO _ _ _) ?_
 rintro v w1 ⟨c0,c1,rfl,hb0,hb1,hn⟩
 have hok:=AP
 refine ⟨_,rfl,?_⟩
 have hx:(#[]++#[.int .i64 i]++#[ptr c0,ptr c1]:Array Value)=#[.int .i64 i,ptr c0,ptr c1]:=by simp
 refine xD hok hx ?_
 refine aG (yA w1 hb0 hb1 (by omega) (by omega) i) ?_
 rintro v w2 ⟨rfl,rfl⟩
 exact ⟨_,rfl,rfl,hn⟩
structure Done where
 code:Int
 words:List Int
structure wP (w:World) (d:aY) (x:Done):Prop where
 code:d.Code=x.code
 len:d.Wl=x.words.length
 rd:Rd w d.Words (us x.words)
 wf:∀ u ∈ x.words,U64 u
theorem wP.new {w w':World} {d:aY} {x:Done} (h:wP w d x) (hn:New w w'):wP w' d x:=⟨h.code,h.len,h.rd.new hn,h.wf⟩
def gS (ds:List aY):List (List Value):=ds.map aY.cells
def Ds (w:World) (raw:List aY) (xs:List Done):Prop:=raw.length=xs.length∧∀ (i:Nat) (v:aY) (x:Done),raw[i]?=some v→xs[i]?=some x→wP w v x
theorem Ds.new {w w':World} {raw:List aY} {xs:List Done} (h:Ds w raw xs) (hn:New w w'):Ds w' raw xs:=⟨h.1,λi v x hv hx=>(h.2 i v x hv hx).new hn⟩
abbrev Ctl:=List (Option (List Int))
def gI:Option (List Int)→Int
 |none=>0
 |some ws=>ws.getD 1 0
def keyW:Option (List Int)→Int
 |none=>0
 |some ws=>ws.getD 0 0
def dY:Option (List Int)→Bool
 |none=>false
 |some ws=>decide (ws.getD 1 0<1) || decide (31<ws.getD 1 0) || decide (32≤ws.getD 0 0)
def conW (number:Int) (ws:List Int):Int:=ws.getD (8+number).toNat 0
def hasB (number ballot:Int):Option (List Int)→Bool
 |none=>false
 |some ws=>decide (cwA (conW number ws)=ballot)
def cntB (number ballot:Int) (L:Ctl):Nat:=(L.filter (hasB number ballot)).length
def j3 (n:Int):Int:=if n<1 then 0 else n / 2+1
def j4 (number:Int):Ctl→Int×Int→Int×Int
 | [],b=>b
 |none::L,b=>j4 number L b
 |some ws::L,b=>j4 number L (if b.1<cwA (conW number ws) then (cwA (conW number ws),cwV (conW number ws)) else b)
def ut (number:Int) (A:Ctl):Option (List Int)→Bool
 |none=>false
 |some ws=>decide (cwA (conW number ws)≠0) && decide (j3 A.length≤(cntB number (cwA (conW number ws)) A:Int))
def valW (number:Int):Option (List Int)→Int
 |none=>0
 |some ws=>cwV (conW number ws)
def kV (number:Int) (L:Ctl):Int×Bool:=match L.find? (ut number L) with
 |some x=>(valW number x,true)
 |none=>((j4 number L (0,0)).2,false)
structure CR where
 a:Option Addr
 n:Nat
 c:Nat
def ctlV (rs:List CR):List Value:=rs.map λr=>.slice r.a r.n r.c
def vO (w:World) (r:CR):Option (List Int)→Prop
 |none=>r.a=none
 |some ws=>r.a≠none∧r.n=32∧ws.length=32∧Rd w r.a (us ws)∧∀ x ∈ ws,U64 x
theorem vO.new {w w':World} {r:CR} {x:Option (List Int)} (h:vO w r x) (hn:New w w'):vO w' r x:=by
 cases x with
 |none=>exact h
 |some ws=>exact ⟨h.1,h.2.1,h.2.2.1,h.2.2.2.1.new hn,h.2.2.2.2⟩
def uu (w:World) (a:Option Addr) (L:Ctl):Prop:=
 ∃ rs:List CR,rs.length=L.length∧Rd w a (ctlV rs)∧∀ (i:Nat) (r:CR) (x:Option (List Int)),rs[i]?=some r→L[i]?=some x→vO w r x
theorem uu.new {w w':World} {a:Option Addr} {L:Ctl} (h:uu w a L) (hn:New w w'):uu w' a L:=by
 obtain ⟨rs,h1,h2,h3⟩:=h
 exact ⟨rs,h1,h2.new hn,λi r x hr hx=>(h3 i r x hr hx).new hn⟩
theorem uu.idx {w:World} {a:Option Addr} {L:Ctl} (h:uu w a L) {i:Nat} {x:Option (List Int)} (hx:L[i]?=some x) {z:Int} (hz:z=i) {n:Nat} (hn:n=L.length) {K:Addr→Prop} (hk:∀ ad r,w.cell? ad=some (.slice (CR.a r) r.n r.c)→vO w r x→K ad):idxS a n z 1 K:=by
 subst hz hn
 obtain ⟨rs,h1,h2,h3⟩:=h
 have hlt:=dF hx
 have hr:rs[i]?=some rs[i]:=List.getElem?_eq_getElem (by omega)
 rcases h2 with h2 | ⟨b,o,rfl,hc⟩
 ·have:rs=[]:=by simpa [ctlV] using h2
  subst this
  simp at hr
 ·refine bG (by omega) (by omega) (hk _ rs[i] ?_ (h3 i _ _ hr hx))
  have:=hc i (.slice rs[i].a rs[i].n rs[i].c) (by simp [ctlV,hr])
  simpa using this
theorem vO.word {w:World} {r:CR} {ws:List Int} (h:vO w r (some ws)) {q:Nat} (hq:q<32) {z:Int} (hz:z=q) {K:Addr→Prop} (hk:∀ ad,w.cell? ad=some (.int .u64 (ws.getD q 0))→K ad):idxS r.a r.n z 1 K:=by
 subst hz
 obtain ⟨h1,h2,h3,h4,_⟩:=h
 have hg:ws[q]?=some (ws.getD q 0):=by rw [List.getD_eq_getElem?_getD,List.getElem?_eq_getElem (by omega)];rfl
 rcases h4 with h4 | ⟨b,o,he,hc⟩
 ·have:ws=[]:=by simpa [us] using h4
  subst this
  simp at h3
 ·rw [he]
  refine bG (by omega) (by omega) (hk _ ?_)
  have:=hc q (.int .u64 (ws.getD q 0)) (by unfold us;rw [List.getElem?_map,hg];rfl)
  simpa using this
theorem vO.u64 {w:World} {r:CR} {ws:List Int} (h:vO w r (some ws)) (q:Nat):U64 (ws.getD q 0):=by
 rw [List.getD_eq_getElem?_getD]
 cases hg:ws[q]? with
 |none=>exact ⟨by simp,by simp⟩
 |some x=>exact h.2.2.2.2 x (List.mem_of_getElem? hg)
theorem uu.idxW {w u:World} {a:Option Addr} {L:Ctl} (h:uu w a L) (hu:New w u) {i:Nat} {x:Option (List Int)} (hx:L[i]?=some x) {z:Int} (hz:z=i) {n:Nat} (hn:n=L.length) {K:Addr→Prop} (hk:∀ ad r,u.cell? ad=some (.slice (CR.a r) r.n r.c)→(∀ y,New w y→vO y r x)→K ad):idxS a n z 1 K:=by
 subst hz hn
 obtain ⟨rs,h1,h2,h3⟩:=h
 have hlt:=dF hx
 have hr:rs[i]?=some rs[i]:=List.getElem?_eq_getElem (by omega)
 rcases h2.new hu with h2 | ⟨b,o,rfl,hc⟩
 ·have:rs=[]:=by simpa [ctlV] using h2
  subst this
  simp at hr
 ·refine bG (by omega) (by omega) (hk _ rs[i] ?_ λy hy=>(h3 i _ _ hr hx).new hy)
  have:=hc i (.slice rs[i].a rs[i].n rs[i].c) (by simp [ctlV,hr])
  simpa using this
theorem gZ (ws:List Int):dY (some ws)=true↔(ws.getD 1 0<1∨31<ws.getD 1 0∨32≤ws.getD 0 0):=by
 simp only [dY,Bool.or_eq_true,decide_eq_true_eq,or_assoc]
theorem zD {w:World} {a:Option Addr} {c:Nat} {L:Ctl} (h:uu w a L) (hl:L.length≤5):Does 45 [.slice a L.length c] w λv w'=>v=.bool (L.any dY)∧w'=w:=by
 refine does Tryz.func45 ?_
 rw [lM]
 refine aS mix (λm env u=>∃ (i:Nat) (jj:List Value),m=L.length - i∧i≤L.length∧env=bO a L.length c L.length i jj∧u=w∧(L.take i).any dY=false) L.length
  ⟨0,_,by omega,by omega,rfl,rfl,rfl⟩ ?_
 rintro m env u ⟨i,jj,rfl,hi,rfl,rfl,hno⟩
 rw [i9]
 refine aE (λhp=>?_) (λhp=>?_)
 ·have hlt:i<L.length:=by omega
  have hg:L[i]?=some L[i]:=List.getElem?_eq_getElem hlt
  have hyes:dY L[i]=true→L.any dY=true:=λe=>List.any_eq_true.2 ⟨_,List.getElem_mem hlt,e⟩
  have hnext:dY L[i]=false→∀ jj',∃ m',m'<L.length - i∧∃ (i':Nat) (jj:List Value),m'=L.length - i'∧i'≤L.length∧bO a L.length c L.length (IntKind.i64.wrap ((i:Int)+1)) jj'=bO a L.length c L.length i' jj∧u=u∧(L.take i').any dY=false:=by
   intro e jj'
   rw [w64 (by omega) (by omega)]
   refine ⟨L.length - (i+1),by omega,i+1,jj',rfl,by omega,rfl,rfl,?_⟩
   rw [List.take_add_one,hg,List.any_append,hno]
   simpa using e
  refine h.idx hg rfl rfl λad r hc hok=>⟨_,_,_,hc,?_⟩
  generalize L[i]=x at hyes hnext hok
  cases x with
  |none=>
   have:r.a=none:=hok
   rw [this]
   exact dM rfl (hnext rfl _)
  |some ws=>
   have hsome:(!(Option.isNone r.a))=true:=by
    cases ha:r.a with
    |none=>exact absurd ha hok.1
    |some b=>rfl
   refine cG hsome (hok.word (q:=1) (by omega) rfl λad1 h1=>⟨_,h1,aE (λhp1=>?_) (λhp1=>hok.word (q:=1) (by omega) rfl λad2 h2=>⟨_,h2,aE (λhp2=>?_) (λhp2=>hok.word (q:=0) (by omega) rfl λad3 h3=>⟨_,h3,aE (λhp3=>?_) (λhp3=>?_)⟩)⟩)⟩)
   ·rw [hyes ((gZ ws).2 (.inl hp1))];exact ⟨rfl,rfl⟩
   ·rw [hyes ((gZ ws).2 (.inr (.inl hp2)))];exact ⟨rfl,rfl⟩
   ·rw [hyes ((gZ ws).2 (.inr (.inr hp3)))];exact ⟨rfl,rfl⟩
   ·refine hnext ?_ _
    cases hc:dY (some ws) with
    |false=>rfl
    |true=>rcases (gZ ws).1 hc with e | e | e<;>omega
 ·rw [jO]
  have:L.take i=L:=List.take_of_length_le (by omega)
  rw [this] at hno
  rw [hno]
  exact ⟨rfl,rfl⟩
theorem CJ {number ballot:Int} {L:Ctl} {i:Nat} {x:Option (List Int)} (h:L[i]?=some x):cntB number ballot (L.take (i+1))=cntB number ballot (L.take i)+(if hasB number ballot x=true then 1 else 0):=by
 unfold cntB
 rw [List.take_add_one,h,List.filter_append,List.length_append]
 congr 1
 show ([x].filter _).length=_
 rw [List.filter_cons]
 split<;>rfl
theorem FV (number ballot:Int) (L:Ctl):cntB number ballot L≤L.length:=List.length_filter_le _ _
theorem FW {w:World} {a:Option Addr} {c:Nat} {L:Ctl} (h:uu w a L) (hl:L.length≤5) {number:Int} (hn:0≤number∧number<16) (ballot:Int):Does 97 [.slice a L.length c,.int .i64 number,.int .u64 ballot] w λv w'=>v=.int .i64 (cntB number ballot L)∧New w w':=by
 refine does Tryz.func97 ?_
 rw [oN]
 refine aS mix (λm env u=>∃ (i:Nat) (jj:List Value),m=L.length - i∧i≤L.length∧env=cF number ballot (cntB number ballot (L.take i)) a L.length c L.length i jj∧New w u) L.length
  ⟨0,_,by omega,by omega,rfl,Keep.refl _ _⟩ ?_
 rintro m env u ⟨i,jj,rfl,hi,rfl,hnu⟩
 rw [j1]
 refine aE (λhp=>?_) (λhp=>?_)
 ·have hlt:i<L.length:=by omega
  have hg:L[i]?=some L[i]:=List.getElem?_eq_getElem hlt
  have hcs:=CJ (number:=number) (ballot:=ballot) hg
  have hle:=FV number ballot (L.take i)
  have hlt2:(L.take i).length≤5:=by rw [List.length_take];omega
  refine (h.new hnu).idx hg rfl rfl λad r hc hok=>⟨_,_,_,hc,?_⟩
  generalize L[i]=x at hcs hok
  cases x with
  |none=>
   have:r.a=none:=hok
   rw [this,w64 (x:=(i:Int)+1) (by omega) (by omega)]
   rw [show cntB number ballot (L.take i)=cntB number ballot (L.take (i+1)) by rw [hcs];rfl]
   exact cG rfl ⟨L.length - (i+1),by omega,i+1,_,rfl,by omega,rfl,hnu⟩
  |some ws=>
   have hsome:Option.isNone r.a=false:=by
    cases ha:r.a with
    |none=>exact absurd ha hok.1
    |some b=>rfl
   refine dM hsome ?_
   refine aG (sO _ _) ?_
   rintro v u1 ⟨rfl,hn1⟩
   have hreg:wG 1 16 number=8+number:=by unfold wG;rw [if_neg (by omega)];omega
   rw [hreg]
   refine ⟨_,rfl,(hok.new hn1).word (q:=(8+number).toNat) (by omega) (by omega) λad1 h1=>⟨_,h1,?_⟩⟩
   have hu:=hok.u64 (8+number).toNat
   refine aG (zC _ hu.1 hu.2) ?_
   rintro v u2 ⟨rfl,rfl⟩
   have hnu1:=hnu.new hn1
   refine ⟨_,_,_,rfl,bC (λhe=>?_) (λhe=>?_)⟩
   ·have hb:hasB number ballot (some ws)=true:=by unfold hasB conW;simpa using he
    rw [w64 (x:=(cntB number ballot (L.take i):Int)+1) (by omega) (by omega),w64 (x:=(i:Int)+1) (by omega) (by omega)]
    rw [show (cntB number ballot (L.take i):Int)+1=(cntB number ballot (L.take (i+1)):Nat) by rw [hcs,if_pos hb];omega]
    exact ⟨L.length - (i+1),by omega,i+1,_,rfl,by omega,rfl,hnu1⟩
   ·have hb:¬ hasB number ballot (some ws)=true:=by unfold hasB conW;simpa using he
    rw [w64 (x:=(i:Int)+1) (by omega) (by omega)]
    rw [show cntB number ballot (L.take i)=cntB number ballot (L.take (i+1)) by rw [hcs,if_neg hb];rfl]
    exact ⟨L.length - (i+1),by omega,i+1,_,rfl,by omega,rfl,hnu1⟩
 ·rw [ly,List.take_of_length_le (by omega)]
  exact ⟨rfl,hnu⟩
theorem wQ (w:World) (n:Int) (hn:n≤1000000000):Does 44 [.int .i64 n] w λv w'=>v=.int .i64 (j3 n)∧w'=w:=by
 refine does Tryz.func44 ?_
 rw [up]
 unfold j3
 refine aE (λh=>⟨by rw [if_pos h],rfl⟩) (λh=>⟨?_,rfl⟩)
 rw [if_neg h,Int.tdiv_eq_ediv_of_nonneg (by omega),w64 (x:=n / 2) (by omega) (by omega),w64 (by omega) (by omega)]
def Ia (number:Int) (b:Int×Int):Option (List Int)→Int×Int
 |none=>b
 |some ws=>if b.1<cwA (conW number ws) then (cwA (conW number ws),cwV (conW number ws)) else b
theorem sP (number:Int):∀ (L:Ctl) (b:Int×Int) (x:Option (List Int)),j4 number (L++[x]) b=Ia number (j4 number L b) x
 | [],b,none=>rfl
 | [],b,some ws=>rfl
 |none::L,b,x=>by rw [List.cons_append,j4,j4,sP number L]
 |some ws::L,b,x=>by rw [List.cons_append,j4,j4,sP number L]
theorem CK {α:Type} {p:α→Bool} {l:List α} {i:Nat} {x:α} (h:l[i]?=some x) (hn:∀ y ∈ l.take i,p y=false) (hx:p x=true):l.find? p=some x:=by
 have e:l=l.take i++x::l.drop (i+1):=by
  obtain ⟨h1,h2⟩:=List.getElem?_eq_some_iff.1 h
  rw [←h2,List.getElem_cons_drop,List.take_append_drop]
 rw [e,List.find?_append,List.find?_eq_none.2 (λy hy=>by simp [hn y hy])]
 simp [hx]
set_option maxHeartbeats 1000000 in
theorem CL {w:World} {a:Option Addr} {c:Nat} {L:Ctl} (h:uu w a L) (hl:L.length≤5) {number:Int} (hn:0≤number∧number<16):Does 47 [.slice a L.length c,.int .i64 number] w λv w'=>v=.tuple #[.int .u64 (kV number L).1,.bool (kV number L).2]∧New w w':=by
 refine does Tryz.func47 ?_
 rw [mV]
 have hreg:wG 1 16 number=8+number:=by unfold wG;rw [if_neg (by omega)];omega
 refine aS mix (λm env u=>∃ (i:Nat) (jj:List Value),m=L.length - i∧i≤L.length∧env=cC a L.length c number (j4 number (L.take i) (0,0)).2 (j4 number (L.take i) (0,0)).1 a L.length c L.length i jj∧New w u) L.length
  ⟨0,_,by omega,by omega,rfl,Keep.refl _ _⟩ ?_
 rintro m env u ⟨i,jj,rfl,hi,rfl,hnu⟩
 rw [jC]
 refine aE (λhp=>?_) (λhp=>?_)
 ·have hlt:i<L.length:=by omega
  have hg:L[i]?=some L[i]:=List.getElem?_eq_getElem hlt
  have hst:L.take (i+1)=L.take i++[L[i]]:=by rw [List.take_add_one,hg];rfl
  have hbs:=sP number (L.take i) (0,0) L[i]
  rw [←hst] at hbs
  generalize hB:j4 number (L.take i) (0,0)=B at hbs
  refine (h.new hnu).idx hg rfl rfl λad r hc hok=>⟨_,_,_,hc,?_⟩
  generalize L[i]=x at hbs hok
  rw [w64 (x:=(i:Int)+1) (by omega) (by omega)]
  cases x with
  |none=>
   have:r.a=none:=hok
   rw [this,show B=j4 number (L.take (i+1)) (0,0) from hbs.symm]
   exact cG rfl ⟨L.length - (i+1),by omega,i+1,_,rfl,by omega,rfl,hnu⟩
  |some ws=>
   have hsome:Option.isNone r.a=false:=by
    cases ha:r.a with
    |none=>exact absurd ha hok.1
    |some b=>rfl
   refine dM hsome ?_
   refine aG (sO _ _) ?_
   rintro v u1 ⟨rfl,hn1⟩
   rw [hreg]
   refine ⟨_,rfl,(hok.new hn1).word (q:=(8+number).toNat) (by omega) (by omega) λad1 h1=>⟨_,h1,?_⟩⟩
   have hu:=hok.u64 (8+number).toNat
   refine aG (zC _ hu.1 hu.2) ?_
   rintro v u2 ⟨rfl,rfl⟩
   have hnu1:=hnu.new hn1
   refine ⟨_,_,_,rfl,aE (λhe=>?_) (λhe=>?_)⟩
   ·have hb:j4 number (L.take (i+1)) (0,0)=(cwA (conW number ws),cwV (conW number ws)):=by rw [hbs];exact if_pos (show B.1<cwA (conW number ws) from he)
    have e1:cwV (ws.getD (8+number).toNat 0)=(j4 number (L.take (i+1)) (0,0)).2:=by rw [hb];rfl
    have e2:cwA (ws.getD (8+number).toNat 0)=(j4 number (L.take (i+1)) (0,0)).1:=by rw [hb];rfl
    rw [e1,e2]
    exact ⟨L.length - (i+1),by omega,i+1,_,rfl,by omega,rfl,hnu1⟩
   ·have hb:B=j4 number (L.take (i+1)) (0,0):=by rw [hbs];exact (if_neg (show ¬ B.1<cwA (conW number ws) from he)).symm
    rw [hb]
    exact ⟨L.length - (i+1),by omega,i+1,_,rfl,by omega,rfl,hnu1⟩
 rw [kG,List.take_of_length_le (by omega)]
 generalize hval:(j4 number L (0,0)).2=val
 refine aS mix (λm env z=>∃ (i:Nat) (jj:List Value),m=L.length - i∧i≤L.length∧env=bM a L.length c number val a L.length c L.length i jj∧New w z∧∀ y ∈ L.take i,ut number L y=false) L.length
  ⟨0,_,by omega,by omega,rfl,hnu,λy hy=>by simp at hy⟩ ?_
 clear hnu hi hp
 rintro m env u ⟨i,jj,rfl,hi,rfl,hnu,hno⟩
 rw [jD]
 refine aE (λhp=>?_) (λhp=>?_)
 ·have hlt:i<L.length:=by omega
  have hg:L[i]?=some L[i]:=List.getElem?_eq_getElem hlt
  have hst:L.take (i+1)=L.take i++[L[i]]:=by rw [List.take_add_one,hg];rfl
  have hnext:ut number L L[i]=false→∀ (z:World),New w z→∀ jj',∃ m',m'<L.length - i∧∃ (i':Nat) (jj:List Value),m'=L.length - i'∧i'≤L.length∧bM a L.length c number val a L.length c L.length (IntKind.i64.wrap ((i:Int)+1)) jj'=bM a L.length c number val a L.length c L.length i' jj∧New w z∧∀ y ∈ L.take i',ut number L y=false:=by
   intro e z hz jj'
   rw [w64 (by omega) (by omega)]
   refine ⟨L.length - (i+1),by omega,i+1,jj',rfl,by omega,rfl,hz,λy hy=>?_⟩
   rw [hst] at hy
   rcases List.mem_append.1 hy with hy | hy
   ·exact hno y hy
   ·simp at hy;rw [hy];exact e
  have hyes:ut number L L[i]=true→kV number L=(valW number L[i],true):=λe=>by
   unfold kV
   rw [CK hg hno e]
  refine (h.new hnu).idx hg rfl rfl λad r hc hok=>⟨_,_,_,hc,?_⟩
  generalize L[i]=x at hnext hyes hok
  cases x with
  |none=>
   have:r.a=none:=hok
   rw [this]
   exact cG rfl (hnext rfl _ hnu _)
  |some ws=>
   have hsome:Option.isNone r.a=false:=by
    cases ha:r.a with
    |none=>exact absurd ha hok.1
    |some b=>rfl
   refine dM hsome ?_
   refine aG (sO _ _) ?_
   rintro v u1 ⟨rfl,hn1⟩
   rw [hreg]
   refine ⟨_,rfl,(hok.new hn1).word (q:=(8+number).toNat) (by omega) (by omega) λad1 h1=>⟨_,h1,?_⟩⟩
   have hu:=hok.u64 (8+number).toNat
   refine aG (zC _ hu.1 hu.2) ?_
   rintro v u2 ⟨rfl,rfl⟩
   have hnu1:=hnu.new hn1
   refine ⟨_,_,_,rfl,bE (λhe=>?_) (λhe=>?_)⟩
   ·refine aG (FW (h.new hnu1) hl hn _) ?_
    rintro v u3 ⟨rfl,hn3⟩
    refine ⟨_,rfl,?_⟩
    refine aG (wQ _ _ (by omega)) ?_
    rintro v u4 ⟨rfl,rfl⟩
    refine ⟨_,rfl,aE (λhm=>?_) (λhm=>?_)⟩
    ·rw [hyes (by unfold ut;simp;exact ⟨he,hm⟩)]
     exact ⟨rfl,hnu1.new hn3⟩
    ·exact hnext (by unfold ut;simp;intro _;exact Int.not_le.1 hm) _ (hnu1.new hn3) _
   ·exact hnext (by unfold ut;simp;intro e;exact absurd he e) _ hnu1 _
 ·rw [kH]
  have hfn:L.find? (ut number L)=none:=by
   rw [List.find?_eq_none]
   intro y hy
   rw [hno y (by rw [List.take_of_length_le (by omega)];exact hy)]
   simp
  have hd:kV number L=(val,false):=by unfold kV;rw [hfn,←hval]
  rw [hd]
  exact ⟨rfl,hnu⟩
end Go.Proofs.YtafopfaomkklpaaGreat
namespace Go.Proofs.YtafopfaomkklpaaGreat
open Go.Eng
def i5 (ws:List Int):Nat→Nat→List Int→Option (List Int)
 | 0,_,acc=>some acc
 |f+1,c,acc=>if 60<ws.getD (24+c) 0 then none else i5 ws f (c+1) (acc.set c (max (acc.getD c 0) (ws.getD (24+c) 0)))
def fO (L:Ctl):List aC→List Int→Option (List Int)
 | [],acc=>some acc
 |m::ms,acc=>match L.getD m.Node.toNat none with
  |none=>fO L ms acc
  |some ws=>if ws.getD 1 0≠m.Boot then fO L ms acc else match i5 ws 6 0 acc with
   |none=>none
   |some acc'=>fO L ms acc'
def yB (w:World) (D:Option (List Int)) (x:Value) (w':World):Prop:=New w w'∧match D with
 |none=>x=.tuple #[.slice none 0 0,.bool false]
 |some ds=>∃ b,x=.tuple #[.slice (some ⟨b,0,none⟩) 6 6,.bool true]∧w.heap.size≤b∧Blk w' b (is ds) TI∧ds.length=6
theorem CM {l:List Int} {i:Nat} (h:i<l.length):(is l)[i]?=some (.int .i64 (l.getD i 0)):=by
 unfold is
 rw [List.getElem?_map,List.getElem?_eq_getElem h,List.getD_eq_getElem?_getD,List.getElem?_eq_getElem h]
 rfl
theorem CN (l:List Int) (i:Nat) (x:Int):(is l).set i (.int .i64 x)=is (l.set i x):=by simp [is,List.map_set]
set_option maxHeartbeats 2000000 in
theorem FX {M:Nat→Prop} {w:World} {a:Option Addr} {c:Nat} {L:Ctl} (h:uu w a L) (hl:L.length≤5) {r:aF} {v:Vw} (hv:eX M w r v) (hm:∀ m ∈ v.mem,(0≤m.Node∧m.Node<L.length)∧1≤m.Boot∧m.Boot≤31) :
  Does 49 [.slice a L.length c,r.val] w (yB w (fO L v.mem (List.replicate 6 0))):=by
 refine does Tryz.func49 ?_
 rw [oM]
 rintro b1 w1 hb1 hw1
 obtain ⟨hz,hn⟩:=aR hb1 hw1
 have hz:Blk w1 b1 r.cells TVw:=hz
 clear hw1
 refine ⟨by omega,by omega,by omega,by omega,?_⟩
 rintro b2 w2 hb2 hw2
 obtain ⟨hz2,hn2⟩:=aR hb2 hw2
 have hz2:Blk w2 b2 (is (List.replicate 6 0)) TI:=hz2
 clear hw2
 have hsz:=hn.size
 have hb20:w.heap.size≤b2:=by omega
 have hlen:=hv.len
 have hsm:=hv.small
 generalize hD:fO L v.mem (List.replicate 6 0)=D
 refine ⟨_,_,_,(New.blk hn2 hz).cell (i:=1) rfl,?_⟩
 refine aS mix (λm env u=>∃ (i:Nat) (acc:List Int) (jj:List Value),m=v.mem.length - i∧i≤v.mem.length∧env=bR a L.length c (some ⟨b2,0,none⟩) 6 6 r.Members r.Members_l r.Members_c r.Members_l i jj∧New w u∧acc.length=6∧Blk u b2 (is acc) TI∧fO L (v.mem.drop i) acc=D) v.mem.length
  ⟨0,List.replicate 6 0,_,by omega,by omega,rfl,hn.new hn2,rfl,hz2,hD⟩ ?_
 clear hz2 hz hn hn2
 rintro m env u ⟨i,acc,jj,rfl,hi,rfl,hnu,hal,hba,hgo⟩
 rw [jZ]
 refine aE (λhp=>?_) (λhp=>?_)
 ·have hlt:i<v.mem.length:=by omega
  have hg:v.mem[i]?=some v.mem[i]:=List.getElem?_eq_getElem hlt
  have hmi:=hm _ (List.getElem_mem hlt)
  rw [List.drop_eq_getElem_cons hlt] at hgo
  generalize v.mem[i]=mb at hg hmi hgo
  refine fY (cells:=aC.cells) aC.len (by omega) (hv.rd.new hnu) hg rfl hlen λb o hc _=>aC.mk_ex mb ⟨hc,?_⟩
  refine kE (vs:=mb.cells) rfl (aC.single _) λb3 u3 hb3 hz3 hn3=>?_
  have hnu3:=hnu.new hn3
  have hba3:=New.blk hn3 hba
  refine ⟨_,hz3.cell (i:=0) rfl,?_⟩
  obtain ⟨q,hq⟩:=Int.eq_ofNat_of_zero_le hmi.1.1
  have hql:q<L.length:=by omega
  have hx:L[q]?=some L[q]:=List.getElem?_eq_getElem hql
  have hgd:L.getD mb.Node.toNat none=L[q]:=by rw [hq,Int.toNat_natCast];exact oJ hx
  unfold fO at hgo
  rw [hgd] at hgo
  generalize L[q]=x at hx hgo
  refine h.idxW hnu3 hx hq rfl λad r' hc' hall=>⟨_,_,_,hc',?_⟩
  have hok:=hall u3 hnu3
  rintro u4 hu4
  have hn4:New u3 u4:=by rw [hu4];exact aW _
  clear hu4
  have hnu4:=hnu3.new hn4
  have hba4:=New.blk hn4 hba3
  have hz4:=New.blk hn4 hz3
  have hnext:fO L (v.mem.drop (i+1)) acc=D→∀ jj',∃ m',m'<v.mem.length - i∧∃ (i':Nat) (acc:List Int) (jj:List Value),m'=v.mem.length - i'∧i'≤v.mem.length∧bR a L.length c (some ⟨b2,0,none⟩) 6 6 r.Members r.Members_l r.Members_c r.Members_l (IntKind.i64.wrap ((i:Int)+1)) jj'=bR a L.length c (some ⟨b2,0,none⟩) 6 6 r.Members r.Members_l r.Members_c r.Members_l i' jj∧New w u4∧acc.length=6∧Blk u4 b2 (is acc) TI∧fO L (v.mem.drop i') acc=D:=by
   intro e jj'
   rw [w64 (by omega) (by omega)]
   exact ⟨v.mem.length - (i+1),by omega,i+1,acc,jj',rfl,by omega,rfl,hnu4,hal,hba4,e⟩
  refine ⟨λy=>New u4 y,Keep.refl _ _,?_⟩
  cases x with
  |none=>
   have:r'.a=none:=hok
   rw [this]
   exact cG rfl (hnext hgo _)
  |some ws=>
   have hsome:Option.isNone r'.a=false:=by
    cases ha:r'.a with
    |none=>exact absurd ha hok.1
    |some b=>rfl
   have k2:r'.n=32:=hok.2.1
   obtain ⟨ba,oa,hra⟩:∃ b o,r'.a=some ⟨b,o,none⟩:=by
    rcases hok.2.2.2.1 with e | ⟨b,o,he,_⟩
    ·have h0:ws=[]:=by simpa [us] using e
     have h1:=hok.2.2.1
     rw [h0] at h1
     simp at h1
    ·exact ⟨b,o,he⟩
   have hrc:∀ y,New w y→∀ (q:Nat),q<32→y.cell? ⟨ba,oa+q,none⟩=some (.int .u64 (ws.getD q 0)):=by
    intro y hy q hq
    obtain ⟨_,_,k3,k4,_⟩:=hall y hy
    rw [hra] at k4
    refine k4.cell ?_
    unfold us
    rw [List.getElem?_map,List.getElem?_eq_getElem (by omega),List.getD_eq_getElem?_getD,List.getElem?_eq_getElem (by omega)]
    rfl
   refine dM hsome ?_
   rw [hra]
   refine bG (by omega) (by omega) ⟨ws.getD 1 0,λy hy=>by simpa using hrc y (hnu4.new hy) 1 (by omega),_,λy hy=>(New.blk hy hz4).cell (i:=1) rfl,bE (λhe=>?_) (λhe=>?_)⟩
   ·rw [wu64 (by omega) (by omega)] at he
    rw [←hra]
    refine hnext ?_ _
    dsimp only at hgo
    rw [if_pos he] at hgo
    exact hgo
   rw [wu64 (by omega) (by omega)] at he
   dsimp only at hgo
   rw [if_neg (λe=>e he)] at hgo
   generalize hDF:i5 ws 6 0 acc=DF at hgo
   refine aS mix (λm env z=>∃ (k:Nat) (ac:List Int) (jj:List Value),m=6 - k∧k≤6∧env=eg a L.length c (some ⟨b2,0,none⟩) 6 6 (some ⟨ba,oa,none⟩) r'.n r'.c r.Members r.Members_l r.Members_c r.Members_l i 6 k jj∧New w z∧ac.length=6∧Blk z b2 (is ac) TI∧i5 ws (6 - k) k ac=DF) 6
    ⟨0,acc,_,by omega,by omega,rfl,hnu4,hal,hba4,hDF⟩ ?_
   clear hnext hba4 hba3 hba hz4 hz3 hn4 hn3 hc' hc hDF
   rintro m env z ⟨k,ac,jj2,rfl,hk6,rfl,hnz,hacl,hbz,hdf⟩
   rw [j0]
   refine aE (λhpk=>?_) (λhpk=>?_)
   ·have hk:k<6:=by omega
    have he6:6 - k=(6 - (k+1))+1:=by omega
    rw [he6,i5] at hdf
    refine aG (G6 _ _) ?_
    rintro x z1 ⟨rfl,hn1⟩
    have hreg:wG 3 6 (k:Int)=24+k:=by unfold wG;rw [if_neg (by omega)];omega
    rw [hreg]
    have hnz1:=hnz.new hn1
    have hbz1:=New.blk hn1 hbz
    refine ⟨_,rfl,bG (by omega) (by omega) ⟨ws.getD (24+k) 0,?_,aE (λhx6=>?_) (λhx6=>?_)⟩⟩
    ·have:=hrc z1 hnz1 (24+k) (by omega)
     have e:(24+(k:Int)).toNat=24+k:=by omega
     rw [e]
     simpa using this
    ·rw [if_pos hx6] at hdf
     rw [←hdf] at hgo
     dsimp only at hgo
     rw [←hgo]
     exact ⟨hnz1,rfl⟩
    ·rw [if_neg hx6] at hdf
     have hu:=(hall z1 hnz1).u64 (24+k)
     have hu1:=hu.1
     have hgk:=CM (l:=ac) (i:=k) (by omega)
     have hat:0+(k:Int).toNat * 1=k:=by omega
     refine bG (by omega) (by omega) ⟨ac.getD k 0,by rw [hat];exact hbz1.cell hgk,bG (by omega) (by omega) ⟨⟨_,by rw [hat];exact hbz1.cell hgk⟩,by rw [hat];exact hbz1.frozen,?_⟩⟩
     rintro z2 hz2
     rw [hat] at hz2
     rw [w64 (x:=ws.getD (24+k) 0) (by omega) (by omega)] at hz2
     have hmx:(if ac.getD k 0<ws.getD (24+k) 0 then ws.getD (24+k) 0 else ac.getD k 0)=max (ac.getD k 0) (ws.getD (24+k) 0):=by split<;>omega
     rw [hmx] at hz2
     rw [w64 (x:=(k:Int)+1) (by omega) (by omega)]
     have hb2':=hbz1.setCell (i:=k) (.int .i64 (max (ac.getD k 0) (ws.getD (24+k) 0)))
     rw [CN,←hz2] at hb2'
     have hkz:Keep (λq=>q=b2) z1 z2:=by rw [hz2];exact aN _ _ _ _
     exact ⟨6 - (k+1),by omega,k+1,_,_,rfl,by omega,rfl,hnz1.trans hkz λq hlt e=>by omega,by rw [List.length_set];exact hacl,hb2',hdf⟩
   ·have hk6':k=6:=by omega
    subst hk6'
    rw [lx]
    rw [show 6 - 6=0 from rfl,i5] at hdf
    rw [←hdf] at hgo
    dsimp only at hgo
    rw [w64 (by omega) (by omega)]
    exact ⟨v.mem.length - (i+1),by omega,i+1,ac,_,rfl,by omega,rfl,hnz,hacl,hbz,hgo⟩
 ·rw [lw]
  have hin:v.mem.drop i=[]:=List.drop_eq_nil_of_le (by omega)
  rw [hin] at hgo
  unfold fO at hgo
  rw [←hgo]
  exact ⟨hnu,b2,rfl,hb20,hba,hal⟩
def ans1 (d:Done):Option (List Int):=if d.code≠0 then none else some d.words
def qO (d:Done):Bool:=decide (d.code≠0) || decide (d.words.length=32)
def ansN (ds:List Done):Nat:=(ds.filter λd=>decide (d.code=0)).length
def oR (nodes:Int) (ds:List Done):Option (Ctl×Int):=
 if nodes<1∨5<nodes∨(ds.length:Int)≠nodes then none else if ds.all qO=true then some (ds.map ans1,(ansN ds:Int)) else none
def FY (w:World) (D:Option (Ctl×Int)) (x:Value) (w':World):Prop:=New w w'∧match D with
 |none=>x=.tuple #[.slice none 0 0,.int .i64 0,.bool false]
 |some (L,n)=>∃ b c,x=.tuple #[.slice b L.length c,.int .i64 n,.bool true]∧uu w' b L
theorem Eg (rs:List CR) (i:Nat) (r:CR):(ctlV rs).set i (.slice r.a r.n r.c)=ctlV (rs.set i r):=by simp [ctlV,List.map_set]
def noC:CR:=⟨none,0,0⟩
theorem yC {ds:List Done} {i:Nat} {d:Done} (h:ds[i]?=some d):ansN (ds.take (i+1))=ansN (ds.take i)+(if d.code=0 then 1 else 0):=by
 unfold ansN
 rw [List.take_add_one,h,List.filter_append,List.length_append]
 congr 1
 show ([d].filter _).length=_
 rw [List.filter_cons]
 by_cases hc:d.code=0
 ·simp [hc]
 ·simp [hc]
theorem CO (ds:List Done):ansN ds≤ds.length:=List.length_filter_le _ _
set_option maxHeartbeats 1000000 in
theorem CP {w:World} {a:Option Addr} {c:Nat} {raw:List aY} {ds:List Done} (hr:Rd w a (gS raw).flatten) (hd:Ds w raw ds) (hl:ds.length≤1000000) (nodes:Int):Does 43 [.int .i64 nodes,.slice a raw.length c] w (FY w (oR nodes ds)):=by
 refine does Tryz.func43 ?_
 rw [sM]
 have hrl:=hd.1
 unfold oR
 refine aE (λh=>?_) (λh1=>aE (λh=>?_) (λh2=>bE (λh=>?_) (λh3=>?_)))
 ·rw [if_pos (.inl h)];exact ⟨Keep.refl _ _,rfl⟩
 ·rw [if_pos (.inr (.inl h))];exact ⟨Keep.refl _ _,rfl⟩
 ·rw [if_pos (.inr (.inr (by omega)))];exact ⟨Keep.refl _ _,rfl⟩
 rw [if_neg (by omega)]
 have hnn:nodes.toNat=ds.length:=by omega
 refine ⟨by omega,by omega,by omega,by omega,?_⟩
 rintro b1 w1 hb1 hw1
 obtain ⟨hz,hn⟩:=aR hb1 hw1
 have hz:Blk w1 b1 (ctlV (List.replicate ds.length noC)) 34:=by
  have e:(reps nodes.toNat [Value.slice none 0 0])=ctlV (List.replicate ds.length noC):=by
   rw [hnn]
   simp [reps,ctlV,noC]
  rw [←e]
  simpa using hz
 clear hw1
 rw [hnn]
 refine aS mix (λm env u=>∃ (i:Nat) (rs:List CR) (jj:List Value),m=ds.length - i∧i≤ds.length∧env=eI (some ⟨b1,0,none⟩) ds.length ds.length (ansN (ds.take i)) a raw.length c raw.length i jj∧New w u∧Blk u b1 (ctlV rs) 34∧rs.length=ds.length∧(∀ k,i≤k→k<ds.length→rs[k]?=some noC)∧(ds.take i).all qO=true∧
   ∀ (k:Nat) (r:CR) (d:Done),k<i→rs[k]?=some r→ds[k]?=some d→∀ z,New w z→vO z r (ans1 d)) ds.length
  ⟨0,List.replicate ds.length noC,_,by omega,by omega,rfl,hn,hz,by simp,λk _ hk=>by simp [hk],rfl,λk r d hk=>by omega⟩ ?_
 clear hz
 rintro m env u ⟨i,rs,jj,rfl,hi,rfl,hnu,hbu,hrsl,hno,hall,hok⟩
 rw [mU]
 refine aE (λhp=>?_) (λhp=>?_)
 ·have hlt:i<ds.length:=by omega
  have hgr:raw[i]?=some raw[i]:=List.getElem?_eq_getElem (by omega)
  have hgd:ds[i]?=some ds[i]:=List.getElem?_eq_getElem hlt
  have hda:=hd.2 i _ _ hgr hgd
  have hns:=yC hgd
  have hnl:=CO (ds.take i)
  have hnl2:(ds.take i).length≤ds.length:=by rw [List.length_take];omega
  have hst:ds.take (i+1)=ds.take i++[ds[i]]:=by rw [List.take_add_one,hgd];rfl
  refine fY (cells:=aY.cells) aY.len (by omega) (hr.new hnu) hgr rfl rfl λb o hc _=>aY.mk_ex raw[i] ⟨hc,?_⟩
  refine kE (vs:=raw[i].cells) rfl (aY.single _) λb2 u2 hb2 hz2 hn2=>?_
  have hnu2:=hnu.new hn2
  have hbu2:=New.blk hn2 hbu
  have hcode:=hda.code
  have hwl:=hda.len
  refine ⟨_,hz2.cell (i:=0) rfl,bE (λhc0=>?_) (λhc0=>⟨_,_,_,hz2.cell (i:=1) rfl,bE (λhw=>?_) (λhw=>⟨_,_,_,hz2.cell (i:=1) rfl,?_⟩)⟩)⟩
  ·have hcd:ds[i].code≠0:=by rw [←hcode];exact hc0
   rw [w64 (by omega) (by omega)]
   rw [show ansN (ds.take i)=ansN (ds.take (i+1)) by rw [hns,if_neg hcd];rfl]
   refine ⟨ds.length - (i+1),by omega,i+1,rs,_,rfl,by omega,rfl,hnu2,hbu2,hrsl,λk h1 h2=>hno k (by omega) h2,?_,λk r d hk hkr hkd=>?_⟩
   ·rw [hst,List.all_append,hall];simp [qO,hcd]
   ·rcases Nat.lt_succ_iff_lt_or_eq.1 hk with hk | rfl
    ·exact hok k r d hk hkr hkd
    ·rw [hno k (Nat.le_refl _) hlt] at hkr
     rw [hgd] at hkd
     cases hkr
     cases hkd
     intro z hz
     unfold ans1
     rw [if_pos hcd]
     rfl
  ·have hcd:ds[i].code=0:=by rw [←hcode];exact hc0
   have hbad:ds.all qO=false:=by
    rw [List.all_eq_false]
    refine ⟨ds[i],List.getElem_mem hlt,?_⟩
    unfold qO
    rw [hcd]
    simp
    omega
   rw [if_neg (by rw [hbad];simp)]
   exact ⟨hnu2,rfl⟩
  ·have hcd:ds[i].code=0:=by rw [←hcode];exact hc0
   have hat:0+(i:Int).toNat * 1=i:=by omega
   have hci:(ctlV rs)[i]?=some (.slice none 0 0):=by
    unfold ctlV
    rw [List.getElem?_map,hno i (Nat.le_refl _) hlt]
    rfl
   refine bG (by omega) (by omega) ⟨⟨_,by rw [hat];exact hbu2.cell hci⟩,by rw [hat];exact hbu2.frozen,?_⟩
   rintro u3 hu3
   rw [hat] at hu3
   have hb3:=hbu2.setCell (i:=i) (.slice raw[i].Words raw[i].Wl raw[i].Wc)
   rw [Eg rs i ⟨raw[i].Words,raw[i].Wl,raw[i].Wc⟩,←hu3] at hb3
   have hk3:Keep (λk=>k=b1) u2 u3:=by rw [hu3];exact aN _ _ _ _
   clear hu3
   rw [w64 (x:=(ansN (ds.take i):Int)+1) (by omega) (by omega),w64 (x:=(i:Int)+1) (by omega) (by omega)]
   rw [show (ansN (ds.take i):Int)+1=(ansN (ds.take (i+1)):Nat) by rw [hns,if_pos hcd];omega]
   refine ⟨ds.length - (i+1),by omega,i+1,rs.set i ⟨raw[i].Words,raw[i].Wl,raw[i].Wc⟩,_,rfl,by omega,rfl,hnu2.trans hk3 (λk hlt e=>by omega),hb3,by rw [List.length_set];exact hrsl,λk h1 h2=>by rw [List.getElem?_set_ne (by omega)];exact hno k (by omega) h2,?_,λk r d hk hkr hkd=>?_⟩
   ·rw [hst,List.all_append,hall]
    simp [qO]
    right
    omega
   ·rcases Nat.lt_succ_iff_lt_or_eq.1 hk with hk | rfl
    ·rw [List.getElem?_set_ne (by omega)] at hkr
     exact hok k r d hk hkr hkd
    ·rw [List.getElem?_set_self (by omega)] at hkr
     rw [hgd] at hkd
     cases hkr
     cases hkd
     intro z hz
     unfold ans1
     rw [if_neg (λe=>e hcd)]
     have hwl32:ds[k].words.length=32:=by omega
     refine ⟨λe=>?_,by show raw[k].Wl=32;omega,hwl32,hda.rd.new hz,hda.wf⟩
     rcases hda.rd with h5 | ⟨b,o,h5,_⟩
     ·have:ds[k].words=[]:=by simpa [us] using h5
      rw [this] at hwl32
      simp at hwl32
     ·have e':raw[k].Words=none:=e
      rw [h5] at e'
      cases e'
 ·have hin:i=ds.length:=by omega
  subst hin
  rw [pI]
  rw [List.take_of_length_le (Nat.le_refl _)] at hall ⊢
  rw [if_pos hall]
  refine ⟨hnu,some ⟨b1,0,none⟩,ds.length,by simp,rs,by rw [List.length_map];exact hrsl,eV hbu (by rw [List.drop_zero];exact List.take_of_length_le (Nat.le_refl _)),λk r x hkr hkx=>?_⟩
  rw [List.getElem?_map] at hkx
  cases hkd:ds[k]? with
  |none=>rw [hkd] at hkx;cases hkx
  |some d=>
   rw [hkd] at hkx
   cases hkx
   exact hok k r d (dF hkd) hkr hkd u hnu
theorem wR (w:World) {k:Int} (hk:U64 k):Does 94 [.int .u64 k] w λv w'=>v=.tuple #[.int .u64 (k / 2),.bool (k % 2 == 1)]∧w'=w:=by
 refine does Tryz.func94 ?_
 rw [uU]
 have h1:=hk.1
 have h2:=hk.2
 refine ⟨?_,rfl⟩
 rw [Int.tdiv_eq_ediv_of_nonneg h1,wu64 (by omega) (by omega),Int.tmod_eq_emod_of_nonneg h1]
end Go.Proofs.YtafopfaomkklpaaGreat
