/- A part of the proof. -/
import Derived.Test.YtafopfaomkklpaaGreatp29
import Derived.Test.YtafopfaomkklpaaGreatp17
import Derived.Test.YtafopfaomkklpaaGreatp30
import Derived.Test.YtafopfaomkklpaaGreatProg
import Derived.Test.YtafopfaomkklpaaGreatp03
import Derived.Test.YtafopfaomkklpaaGreatp02
import Derived.RangeFuncNested
import Derived.RangeFuncBound
import Derived.RangeFuncCalls
import Derived.RangeFuncLeaves
set_option linter.unusedVariables false
namespace Go.Proofs.YtafopfaomkklpaaGreat
open Go.Proofs.Tryz
open Go.Eng
abbrev TTk:TypeId:=85
def rdV (i at_ n:Int):bA:=⟨1,i,at_,n,0,0,none,0,0,0,0⟩
def tkC (ga:Option Addr) (gn gc:Nat) (u:Int) (aa:Option Addr) (an ac:Nat) (bad:Bool):List Value:=[.slice ga gn gc,.int .i64 u,.slice aa an ac,.bool bad]
theorem Gq (w:World) (i at_ n:Int):Does 83 [.int .i64 i,.int .i64 at_,.int .i64 n] w λx w'=>x=(rdV i at_ n).val∧New w w':=by
 refine does Tryz.func83 ?_
 rw [t6]
 rintro b1 w1 hb1 hw1
 obtain ⟨hz1,hn1⟩:=aR hb1 hw1
 have hz1:Blk w1 b1 (bA.cells ⟨0,0,0,0,0,0,none,0,0,0,0⟩) TVb:=hz1
 clear hw1
 have hs1:=hn1.size
 refine ⟨eZ hz1 (by simp [bA.cells]) (bA.single (rdV i at_ n)),?_⟩
 rintro w2 hw2
 have hk2:Keep (λk=>k=b1) w1 w2:=by rw [hw2];exact dU _ _ _ _ _
 have hz2:=hz1.puts (o:=0) (i:=0) (vs:=(rdV i at_ n).cells)
 rw [pA (by rfl)] at hz2
 have hw2':w2=puts w1 ⟨b1,0,none⟩ 0 (rdV i at_ n).cells:=hw2
 rw [←hw2'] at hz2
 exact bA.mk_ex (rdV i at_ n) ⟨aK hz2 rfl,rfl,rfl,hn1.trans hk2 λk hlt e=>by omega⟩
theorem Fy {u:World} {a:Option Addr} {n cap:Nat} {l:List bA} (ho:Owns u TVb 9 a n cap (kQ l).flatten) {s:Option Addr} {m c:Nat} {l2:List bA} (hs:Rd u s (kQ l2).flatten) (hm:m=l2.length) (hn:n+m≤1000000) {K:Option Addr→Nat→Nat→World→Prop}
  (hk:∀ ap cap' w3,Owns w3 TVb 9 ap (n+m) cap' (kQ (l++l2)).flatten→Keep (isB a) u w3→(∀ k,isB ap k→isB a k∨u.heap.size≤k)→K ap (n+m) cap' w3) :
  ∃ (ap:Option Addr) (ap_len ap_cap:Nat),∃ w3,(Builtin.append_ #[27,27] 27 #[(.slice a n cap),(.slice s m c)]).run prog u=.ok (.slice ap ap_len ap_cap) w3∧K ap ap_len ap_cap w3:=by
 obtain ⟨inf,hi,hz,hsz,hby⟩:=p7 (T:=TVb) (z:=.agg #[.int .i64 0,.int .i64 0,.int .i64 0,.int .i64 0,.int .u64 0,.int .u64 0,.slice none 0 0,.int .u64 0,.int .i64 0]) (n:=9) (m:=88) (by kernel_rfl)
 exact pH (cells:=bA.cells) bA.len bA.single Tryz.underlying27 hi hz (by rw [hsz];rfl) hsz (by omega) (by omega) ho hs hm hn hk
def retV (v:bA):Int:=if v.Kind=1 then v.N else if v.Kind=2 then 0 else 1
def fit1 (r:Int) (d:Done):Prop:=(d.code=0∧(d.words.length:Int)=r)∨((d.code=4∨d.code=5)∧d.words.length=0)
def fitM (rs:List Int) (ds:List Done):Prop:=rs.length=ds.length∧∀ (i:Nat) (r:Int) (d:Done),rs[i]?=some r→ds[i]?=some d→fit1 r d
theorem BQ (w:World) (v:bA):Does 150 [v.val] w λx w'=>x=.int .i64 (retV v)∧New w w':=by
 refine does Tryz.func150 ?_
 rw [rS]
 rintro b1 w1 hb1 hw1
 obtain ⟨hz1,hn1⟩:=aR hb1 hw1
 have hz1:Blk w1 b1 v.cells TVb:=hz1
 clear hw1
 unfold retV
 refine ⟨_,hz1.cell (i:=0) rfl,bC (λe=>⟨_,hz1.cell (i:=3) rfl,by rw [if_pos e],hn1⟩) (λe=>bC (λe2=>⟨by rw [if_neg e,if_pos e2],hn1⟩) (λe2=>⟨by rw [if_neg e,if_neg e2],hn1⟩))⟩
def FitR (w:World) (rs:List Int) (ds:List Done) (x:Value) (w':World):Prop:=∃ b:Bool,x=.bool b∧(b=true↔fitM rs ds)∧New w w'
set_option maxHeartbeats 1000000 in
theorem Hw {w:World} {a:Option Addr} {n cap:Nat} {l:List bA} (hn:n=l.length) (hl:Rd w a (kQ l).flatten) {a2:Option Addr} {n2 cap2:Nat} {raw:List aY} {ds:List Done} (hn2:n2=raw.length) (hr:Rd w a2 (gS raw).flatten) (hd:Ds w raw ds) (hfew:raw.length≤1000000) :
  Does 123 [.slice a n cap,.slice a2 n2 cap2] w (FitR w (l.map retV) ds):=by
 subst hn hn2
 refine does Tryz.func123 ?_
 rw [uA]
 refine bE (λe=>⟨false,rfl,?_,Keep.refl _ _⟩) (λe=>?_)
 ·refine ⟨λh=>(nomatch h),λh=>?_⟩
  have:=h.1
  rw [List.length_map,←hd.1] at this
  omega
 have hll:l.length=raw.length:=by omega
 refine aS mix (λm env u=>∃ (i:Nat) (jj:List Value),m=raw.length - i∧i≤raw.length∧env=bD a l.length cap a2 raw.length cap2 i jj∧New w u∧∀ (k:Nat) (r:Int) (d:Done),k<i→(l.map retV)[k]?=some r→ds[k]?=some d→fit1 r d) raw.length
  ⟨0,_,by omega,by omega,rfl,Keep.refl _ _,λk r d h=>by omega⟩ ?_
 rintro m env u ⟨i,jj,rfl,hi,rfl,hnu,hok⟩
 rw [pp]
 refine aE (λhq=>?_) (λhq=>?_)
 ·have hlt:i<raw.length:=by omega
  have hg:raw[i]?=some raw[i]:=List.getElem?_eq_getElem hlt
  have hgl:l[i]?=some l[i]:=List.getElem?_eq_getElem (by omega)
  obtain ⟨x,hgd⟩:∃ x,ds[i]?=some x:=⟨_,List.getElem?_eq_getElem (by rw [←hd.1];exact hlt)⟩
  have hda:=hd.2 i _ _ hg hgd
  generalize raw[i]=d at hg hda
  generalize l[i]=v at hgl
  have hrv:(l.map retV)[i]?=some (retV v):=by rw [List.getElem?_map,hgl];rfl
  have no:¬ fit1 (retV v) x→∀ u',New w u'→FitR w (l.map retV) ds (.bool false) u':=λh u' hu=>⟨false,rfl,⟨λe=>(nomatch e),λe=>absurd (e.2 i _ _ hrv hgd) h⟩,hu⟩
  have go:fit1 (retV v) x→∀ u' jj',New w u'→∃ m,m<raw.length - i∧∃ (i':Nat) (jj:List Value),m=raw.length - i'∧i'≤raw.length∧bD a l.length cap a2 raw.length cap2 (IntKind.i64.wrap ((i:Int)+1)) jj'=bD a l.length cap a2 raw.length cap2 i' jj∧New w u'∧∀ (k:Nat) (r:Int) (d:Done),k<i'→(l.map retV)[k]?=some r→ds[k]?=some d→fit1 r d:=by
   intro h u' jj' hu
   refine ⟨raw.length - (i+1),by omega,i+1,jj',rfl,by omega,by rw [w64 (x:=(i:Int)+1) (by omega) (by omega)];rfl,hu,λk r d hk h1 h2=>?_⟩
   by_cases e:k=i
   ·subst e
    rw [hrv] at h1
    rw [hgd] at h2
    cases h1;cases h2
    exact h
   ·exact hok k r d (by omega) h1 h2
  refine fY (cells:=aY.cells) aY.len (by omega) (hr.new hnu) hg rfl rfl λb o hcc _=>aY.mk_ex d ⟨hcc,?_⟩
  refine kE (vs:=d.cells) rfl (aY.single _) λb1 w2 hb1 hz2 hn2=>?_
  have hz2:Blk w2 b1 d.cells 53:=hz2
  have hnw:=hnu.new hn2
  have hcode:=hda.code
  have hwl:=hda.len
  refine ⟨_,hz2.cell (i:=0) rfl,bE (λh0=>?_) (λh0=>?_)⟩
  ·refine ⟨_,hz2.cell (i:=0) rfl,bE (λh4=>?_) (λh4=>?_)⟩
   ·refine ⟨_,hz2.cell (i:=0) rfl,bE (λh5=>?_) (λh5=>?_)⟩
    ·refine no (λe=>?_) _ hnw
     unfold fit1 at e
     omega
    ·rintro w3 hw3
     have hn3:New w2 w3:=by rw [hw3];exact aW _
     clear hw3
     have hz3:=New.blk hn3 hz2
     refine ⟨λy=>y=w3,rfl,_,λy hy=>by rw [hy];exact hz3.cell (i:=0) rfl,bC (λe=>absurd e h0) (λ_=>⟨_,λy hy=>by rw [hy];exact hz3.cell (i:=0) rfl,bE (λ_=>⟨_,_,_,λy hy=>by rw [hy];exact hz3.cell (i:=1) rfl,bE (λhne=>?_) (λheq=>?_)⟩) (λe=>absurd e h0)⟩)⟩
     ·refine no (λe=>?_) _ (hnw.new hn3)
      unfold fit1 at e
      omega
     ·refine go (.inr ⟨by omega,by omega⟩) _ _ (hnw.new hn3)
   ·rintro w3 hw3
    have hn3:New w2 w3:=by rw [hw3];exact aW _
    clear hw3
    have hz3:=New.blk hn3 hz2
    refine ⟨λy=>y=w3,rfl,_,λy hy=>by rw [hy];exact hz3.cell (i:=0) rfl,bC (λe=>absurd e h0) (λ_=>⟨_,λy hy=>by rw [hy];exact hz3.cell (i:=0) rfl,bE (λ_=>⟨_,_,_,λy hy=>by rw [hy];exact hz3.cell (i:=1) rfl,bE (λhne=>?_) (λheq=>?_)⟩) (λe=>absurd e h0)⟩)⟩
    ·refine no (λe=>?_) _ (hnw.new hn3)
     unfold fit1 at e
     omega
    ·refine go (.inr ⟨by omega,by omega⟩) _ _ (hnw.new hn3)
  ·rintro w3 hw3
   have hn3:New w2 w3:=by rw [hw3];exact aW _
   clear hw3
   have hz3:=New.blk hn3 hz2
   have hn03:=hnw.new hn3
   refine ⟨λy=>New w3 y,Keep.refl _ _,_,λy hy=>(New.blk hy hz3).cell (i:=0) rfl,bC (λ_=>?_) (λe=>absurd h0 e)⟩
   refine ⟨_,_,_,λy hy=>(New.blk hy hz3).cell (i:=1) rfl,?_⟩
   refine vZ (cells:=bA.cells) bA.len (by omega) (S:=λy=>New w3 y) (λy hy=>hl.new (hn03.new hy)) (Keep.refl _ _) hgl rfl rfl ?_
   rintro b o hcc
   refine bA.mk_ex v ⟨λy hy=>fM (hcc y hy),?_⟩
   refine aG (BQ w3 v) ?_
   rintro xv w4 ⟨rfl,hn4⟩
   refine ⟨_,rfl,hn4,bE (λhne=>?_) (λheq=>⟨_,λy hy=>(New.blk hy hz3).cell (i:=0) rfl,bE (λe=>absurd h0 e) (λ_=>?_)⟩)⟩
   ·refine no (λe=>?_) _ (hn03.new hn4)
    unfold fit1 at e
    omega
   ·exact go (.inl ⟨by omega,by omega⟩) _ _ (hn03.new hn4)
 ·rw [qW]
  refine ⟨true,rfl,⟨λ_=>⟨by rw [List.length_map,←hd.1];exact hll,λk r d h1 h2=>hok k r d ?_ h1 h2⟩,λ_=>rfl⟩,hnu⟩
  have:=dF h2
  have:=hd.1
  omega
structure Got (w:World) (ga:Option Addr) (gn:Nat) (xa:Option Addr) (xl xc:Nat) (raw:List aY) (ds:List Done):Prop where
 one:∃ b o,ga=some ⟨b,o,none⟩∧w.cell? ⟨b,o,none⟩=some (.slice xa xl xc)
 pos:0<gn
 len:xl=raw.length
 rd:Rd w xa (gS raw).flatten
 ds:Ds w raw ds
 few:raw.length≤1000000
theorem Got.new {w u:World} {ga:Option Addr} {gn:Nat} {xa:Option Addr} {xl xc:Nat} {raw:List aY} {ds:List Done} (h:Got w ga gn xa xl xc raw ds) (hn:New w u):Got u ga gn xa xl xc raw ds:=by
 obtain ⟨b,o,h1,h2⟩:=h.one
 exact ⟨⟨b,o,h1,rh hn h2 id⟩,h.pos,h.len,h.rd.new hn,h.ds.new hn,h.few⟩
def Hx (w:World) (b:Nat) (ga:Option Addr) (gn gc:Nat) (a:Option Addr) (n cap:Nat) (rs:List Int) (xa:Option Addr) (xl xc:Nat) (ds:List Done) (x:Value) (w':World):Prop:=
 Keep (λk=>k=b) w w'∧
  ((gn=0∧x=.tuple #[.slice none 0 0,.bool false]∧Blk w' b (tkC ga gn gc 0 a n cap false) TTk)∨
   (gn≠0∧fitM rs ds∧x=.tuple #[.slice xa xl xc,.bool true]∧Blk w' b (tkC ga gn gc 1 none 0 0 false) TTk)∨
   (gn≠0∧¬ fitM rs ds∧x=.tuple #[.slice none 0 0,.bool false]∧Blk w' b (tkC ga gn gc 1 none 0 0 true) TTk))
theorem Hz {w0 w:World} {b:Nat} (h0w:New w0 w) (hb:w0.heap.size≤b) {ga:Option Addr} {gn gc:Nat} (hz:Blk w b (tkC ga gn gc 0 none 0 0 false) TTk) {a:Option Addr} {n cap:Nat} {l:List bA} (hn:n=l.length) (hl:Rd w a (kQ l).flatten) (hab:¬ isB a b) (h0:0<n) {xa:Option Addr} {xl xc:Nat} {raw:List aY} {ds:List Done} (hg:gn≠0→Got w0 ga gn xa xl xc raw ds) :
  Does 84 [.pointer (some ⟨b,0,none⟩),.slice a n cap] w (Hx w b ga gn gc a n cap (l.map retV) xa xl xc ds):=by
 refine does Tryz.func84 ?_
 rw [qt]
 refine bC (λe=>by omega) (λ_=>?_)
 rintro w1 hw1
 have hn1:New w w1:=by rw [hw1];exact aW _
 clear hw1
 have hz1:=New.blk hn1 hz
 refine ⟨λy=>y=w1,rfl,_,λy hy=>by rw [hy];exact hz1.cell (i:=1) rfl,_,_,_,λy hy=>by rw [hy];exact hz1.cell (i:=0) rfl,bC (λe=>?_) (λe=>?_)⟩
 ·refine ⟨⟨_,hz1.cell (i:=2) rfl⟩,hz1.frozen,?_⟩
  rintro w2 hw2
  have hk2:Keep (λk=>k=b) w1 w2:=by rw [hw2];exact aN _ _ _ _
  have hz2:=hz1.setCell (i:=2) (.slice a n cap)
  have hw2':w2=w1.setCell ⟨b,2,none⟩ (.slice a n cap):=hw2
  rw [←hw2'] at hz2
  exact ⟨(Keep.of_new hn1).trans hk2 λ_ _ e=>e,.inl ⟨by omega,rfl,hz2⟩⟩
 ·have hgn:gn≠0:=by omega
  have hg:=hg hgn
  rintro w3 hw3
  have hn3:New w1 w3:=by rw [hw3];exact aW _
  clear hw3
  have hz3:=New.blk hn3 hz1
  have hn03:=hn1.new hn3
  obtain ⟨gb,go,rfl,hgc⟩:=hg.one
  have hgp:=hg.pos
  refine ⟨λy=>y=w3,rfl,_,_,_,λy hy=>by rw [hy];exact hz3.cell (i:=0) rfl,_,λy hy=>by rw [hy];exact hz3.cell (i:=1) rfl,bG (by omega) (by omega) ⟨xa,xl,xc,λy hy=>by rw [hy];exact rh (h0w.new hn03) hgc id,_,hz3.cell (i:=1) rfl,⟨_,hz3.cell (i:=1) rfl⟩,hz3.frozen,?_⟩⟩
  rintro w4 hw4
  have hk4:Keep (λk=>k=b) w3 w4:=by rw [hw4];exact aN _ _ _ _
  have hz4:=hz3.setCell (i:=1) (.int .i64 1)
  have hw4':w4=w3.setCell ⟨b,1,none⟩ (.int .i64 1):=hw4
  rw [←hw4'] at hz4
  have hk04:=(Keep.of_new (M:=λk=>k=b) hn03).trans hk4 λ_ _ e=>e
  clear hw4 hw4'
  have hn4:New w0 w4:=h0w.trans hk04 λk hlt e=>by omega
  have hg4:=hg.new hn4
  have hl4:=ko hk04 hl λk _ hk e=>hab (e▸hk)
  refine aG (Hw hn hl4 hg4.len hg4.rd hg4.ds hg4.few) ?_
  rintro x w5 ⟨fb,rfl,hfit,hn5⟩
  have hz5:=New.blk hn5 hz4
  have hk05:=hk04.new hn5
  refine ⟨_,rfl,?_⟩
  cases fb
  ·refine cG rfl ⟨⟨_,hz5.cell (i:=3) rfl⟩,hz5.frozen,?_⟩
   rintro w6 hw6
   have hk6:Keep (λk=>k=b) w5 w6:=by rw [hw6];exact aN _ _ _ _
   have hz6:=hz5.setCell (i:=3) (.bool true)
   have hw6':w6=w5.setCell ⟨b,3,none⟩ (.bool true):=hw6
   rw [←hw6'] at hz6
   exact ⟨hk05.trans hk6 λ_ _ e=>e,.inr (.inr ⟨hgn,λe=>(by have:=hfit.2 e;cases this),rfl,hz6⟩)⟩
  ·exact dM rfl ⟨hk05,.inr (.inl ⟨hgn,hfit.1 rfl,rfl,hz5⟩)⟩
def rdB (n:Nat):List bA:=(List.range n).map λ(i:Nat)=>rdV i 0 32
theorem Bc (n:Nat):rdB (n+1)=rdB n++[rdV n 0 32]:=by unfold rdB;rw [List.range_succ,List.map_append];rfl
theorem uB (n:Nat):(rdB n).length=n:=by simp [rdB]
def HA (w:World) (b:Nat) (ga:Option Addr) (gn gc n:Nat) (xa:Option Addr) (xl xc:Nat) (ds:List Done) (x:Value) (w':World):Prop:=
 ∃ a cap,Hx w b ga gn gc a n cap ((rdB n).map retV) xa xl xc ds x w'∧Rd w' a (kQ (rdB n)).flatten∧∀ k,isB a k→w.heap.size≤k∧k<w'.heap.size
theorem Fz {w0 w:World} {b:Nat} (h0w:New w0 w) (hb:w0.heap.size≤b) {ga:Option Addr} {gn gc:Nat} (hz:Blk w b (tkC ga gn gc 0 none 0 0 false) TTk) {n:Nat} (hn:1≤n∧n≤5) {xa:Option Addr} {xl xc:Nat} {raw:List aY} {ds:List Done} (hg:gn≠0→Got w0 ga gn xa xl xc raw ds) :
  Does 31 [.pointer (some ⟨b,0,none⟩),.int .i64 n] w (HA w b ga gn gc n xa xl xc ds):=by
 refine does Tryz.func31 ?_
 rw [tY]
 have hbl:=hz.lt
 refine aS mix (λm env u=>∃ (i:Nat) (a:Option Addr) (cap:Nat) (jj:List Value),m=n - i∧i≤n∧env=gN ⟨b,0,none⟩ n a i cap i jj∧New w u∧Owns u TVb 9 a i cap (kQ (rdB i)).flatten∧∀ k,isB a k→w.heap.size≤k) n
  ⟨0,none,0,_,by omega,by omega,rfl,Keep.refl _ _,Owns.nil _ _ _,λk hk=>absurd hk noB⟩ ?_
 rintro m env u ⟨i,a,cap,jj,rfl,hi,rfl,hnu,ho,hfr⟩
 rw [oz]
 refine aE (λhq=>?_) (λhq=>?_)
 ·refine aG (Gq u i 0 32) ?_
  rintro x w1 ⟨rfl,hn1⟩
  refine bA.mk_ex (rdV i 0 32) ⟨rfl,?_⟩
  rintro b1 w2 hb1 hw2
  obtain ⟨hz2,hn2⟩:=aR hb1 hw2
  have hz2:Blk w2 b1 (rdV i 0 32).cells TVb:=hz2
  clear hw2
  have hs:=hnu.size
  have hs1:=hn1.size
  have hs2:=hn2.size
  refine Fy (m:=1) (l2:=[rdV i 0 32]) (Owns.new hn2 (Owns.new hn1 ho)) (eV hz2 rfl) rfl (by omega) λap cap' w3 ho3 hk3 hap=>?_
  rw [←Bc] at ho3
  rw [w64 (x:=(i:Int)+1) (by omega) (by omega)]
  refine ⟨n - (i+1),by omega,i+1,ap,cap',_,rfl,by omega,rfl,(hnu.new (hn1.new hn2)).trans hk3 λk hlt hk=>?_,ho3,λk hk=>?_⟩
  ·have:=hfr k hk;omega
  ·rcases hap k hk with e | e
   ·exact hfr k e
   ·omega
 ·have hin:i=n:=by omega
  subst hin
  rw [qr]
  have hab:¬ isB a b:=λhk=>by have:=hfr b hk;omega
  refine aG (Hz (h0w.new hnu) hb (New.blk hnu hz) (uB _).symm ho.rd hab (by omega) hg) ?_
  rintro x w1 ht
  have hk:=ht.1
  have hout:HA w b ga gn gc i xa xl xc ds x w1:=by
   refine ⟨a,cap,⟨(Keep.of_new hnu).trans hk λ_ _ e=>e,ht.2⟩,ko hk ho.rd λk _ h e=>hab (e▸h),λk hk'=>⟨hfr k hk',?_⟩⟩
   exact Nat.lt_of_lt_of_le (Owns.lt ho hk') hk.size
  rcases ht.2 with ⟨_,e,_⟩ | ⟨_,_,e,_⟩ | ⟨_,_,e,_⟩
  ·rw [e] at hout ⊢;exact ⟨_,_,_,_,rfl,hout⟩
  ·rw [e] at hout ⊢;exact ⟨_,_,_,_,rfl,hout⟩
  ·rw [e] at hout ⊢;exact ⟨_,_,_,_,rfl,hout⟩
theorem zO {w:World} {b:Nat} {ga:Option Addr} {gn gc:Nat} {u:Int} {aa:Option Addr} {an ac:Nat} {bad:Bool} (hz:Blk w b (tkC ga gn gc u aa an ac bad) TTk) (ok:Bool) :
  Does 32 [.pointer (some ⟨b,0,none⟩),.bool ok] w λx w'=>x=.tuple #[.bool (!ok && !bad),.bool ((!ok && !bad) || (!bad && decide (u=gn)))]∧New w w':=by
 refine does Tryz.func32 ?_
 rw [pT]
 have hbq:(u == (gn:Int))=decide (u=gn):=by
  by_cases e:u=gn
  ·rw [decide_eq_true e];exact beq_iff_eq.2 e
  ·rw [decide_eq_false e];exact beq_eq_false_iff_ne.2 e
 have reg:∀ {x:Bool},(x=true→bad=true)→∀ w1,w1=w.drew→∃ Sx:World→Prop,Sx w1∧∃ (bad1:Bool),(∀ u,Sx u→u.cell? ⟨b,3,none⟩=some (.bool bad1))∧(bif (!bad1) then (∃ (used:Int),(∀ u,Sx u→u.cell? ⟨b,1,none⟩=some (.int .i64 used))∧∃ (got:Option Addr) (got_len got_cap:Nat),(∀ u,Sx u→u.cell? ⟨b,0,none⟩=some (.slice got got_len got_cap))∧(Value.tuple #[(.bool false),(.bool (used == (got_len:Int)))]=.tuple #[.bool (x && !bad),.bool ((x && !bad) || (!bad && decide (u=gn)))]∧New w w1)) else (Value.tuple #[(.bool false),(.bool false)]=.tuple #[.bool (x && !bad),.bool ((x && !bad) || (!bad && decide (u=gn)))]∧New w w1)):=by
  rintro x hx w1 hw1
  have hn1:New w w1:=by rw [hw1];exact aW _
  have hz1:=New.blk hn1 hz
  refine ⟨λy=>y=w1,rfl,bad,λy hy=>by rw [hy];exact hz1.cell (i:=3) rfl,?_⟩
  cases bad
  ·cases x
   ·exact cG rfl ⟨u,λy hy=>by rw [hy];exact hz1.cell (i:=1) rfl,ga,gn,gc,λy hy=>by rw [hy];exact hz1.cell (i:=0) rfl,by rw [hbq];rfl,hn1⟩
   ·exact absurd (hx rfl) (by simp)
  ·refine dM rfl ⟨by cases x<;>rfl,hn1⟩
 cases ok
 ·refine cG rfl ⟨bad,hz.cell (i:=3) rfl,?_⟩
  cases bad
  ·exact cG rfl ⟨rfl,Keep.refl _ _⟩
  ·exact dM rfl (reg (x:=true) λ_=>rfl)
 ·exact dM rfl (reg (x:=false) λe=>(nomatch e))
end Go.Proofs.YtafopfaomkklpaaGreat
namespace Go.Proofs.YtafopfaomkklpaaGreat
open Go.Eng
def AskR (w:World) (n:Nat) (x:Value) (w':World):Prop:=∃ (a:Option Addr) (cap:Nat) (r:FoR),x=.tuple #[.slice a n cap,r.val,.bool false]∧Rd w' a (kQ (rdB n)).flatten∧(∀ k,isB a k→w.heap.size≤k∧k<w'.heap.size)∧New w w'
theorem zP (w:World) {n:Nat} (hn:1≤n∧n≤5):Does 9 [.int .i64 n,.slice none 0 0] w (AskR w n):=by
 refine does Tryz.func9 ?_
 rw [kR]
 rintro b1 w1 hb1 hw1
 obtain ⟨hz1,hn1⟩:=aR hb1 hw1
 have hz1:Blk w1 b1 out0 TFo:=hz1
 clear hw1
 refine aE (λe=>absurd e (by omega)) (λ_=>aE (λe=>absurd e (by omega)) (λ_=>?_))
 rintro b2 w4 hb2 hw4
 obtain ⟨hz4,hn4⟩:=aR hb2 hw4
 have hz4:Blk w4 b2 (tkC none 0 0 0 none 0 0 false) TTk:=hz4
 clear hw4
 have hz14:=New.blk hn4 hz1
 have hs1:=hn1.size
 have hs4:=hn4.size
 have hb1l:=hz1.lt
 have hb2l:=hz4.lt
 refine aG (Fz (ds:=[]) (raw:=[]) (xa:=none) (xl:=0) (xc:=0) (hn1.new hn4) (by omega) hz4 hn (λe=>absurd rfl e)) ?_
 rintro x w5 ⟨a,cap,⟨hk5,hcase⟩,hrd,hfr⟩
 rcases hcase with ⟨_,rfl,hz5⟩ | ⟨e,_⟩ | ⟨e,_⟩
 rotate_left
 ·exact absurd rfl e
 ·exact absurd rfl e
 refine ⟨_,_,_,_,rfl,?_⟩
 refine aG (zO hz5 false) ?_
 rintro x w6 ⟨rfl,hn6⟩
 refine ⟨_,_,rfl,cG rfl ⟨_,_,_,(New.blk hn6 hz5).cell (i:=2) rfl,?_⟩⟩
 have hz16:=New.blk hn6 (hk5.blk hz14 (by omega))
 have hn06:New w w6:=((hn1.new hn4).trans hk5 λk hlt e=>by omega).new hn6
 have hs6:=hn6.size
 refine rG (c:=0) (R:=λv w'=>AskR w n (.tuple #[.slice a n cap,v,.bool false]) w') hz16 λw7 hk7=>⟨a,cap,_,rfl,ko hk7 (hrd.new hn6) λk _ hb e=>?_,λk hb=>⟨?_,?_⟩,hn06.trans hk7 λk hlt e=>by omega⟩
 ·have:=(hfr k hb).1;omega
 ·have:=(hfr k hb).1;omega
 ·have:=(hfr k hb).2;have:=hk7.size;omega
end Go.Proofs.YtafopfaomkklpaaGreat
namespace Go.Proofs.YtafopfaomkklpaaGreat
open Go.Proofs.Tryz
open Go.Eng IntKind
variable (w:World) (R:Value→World→Prop)
theorem xP (a b c d f g:Int) (h:Option Addr) (i k:Nat) (l m:Int) (w:World) (R:Value→World→Prop):fnW prog f198 [.agg #[.int .i64 a,.int .i64 b,.int .i64 c,.int .i64 d,.int .u64 f,.int .u64 g,.slice h i k,.int .u64 l,.int .i64 m]] R w=(∀ b1 w1,b1=w.heap.size→w1=w.alloc (.cells #[.int .i64 a,.int .i64 b,.int .i64 c,.int .i64 d,.int .u64 f,.int .u64 g,.slice h i k,.int .u64 l,.int .i64 m] 91)→∃ n,w1.cell? ⟨b1,0,none⟩=some (.int .i64 n)∧(bif ((n:Int) == 1) then (∃ N_,w1.cell? ⟨b1,3,none⟩=some (.int .i64 N_)∧R (.int .i64 N_) w1) else ((bif ((n:Int) == 2) then (∃ o p q,w1.cell? ⟨b1,6,none⟩=some (.slice o p q)∧R (.int .i64 (p:Nat)) w1) else ((bif ((n:Int) == 3) then ((bif ((n:Int) == 3) then (R (.int .i64 1) w1) else (R (.int .i64 0) w1))) else ((bif ((n:Int) == 4) then (R (.int .i64 1) w1) else (R (.int .i64 0) w1))))))))):=by kernel_rfl
theorem wH (a b c d f g:Int) (h:Option Addr) (i k:Nat) (l m:Int) (w:World) (R:Value→World→Prop):fnW prog f224 [.agg #[.int .i64 a,.int .i64 b,.int .i64 c,.int .i64 d,.int .u64 f,.int .u64 g,.slice h i k,.int .u64 l,.int .i64 m]] R w=(∀ b1 w1,b1=w.heap.size→w1=w.alloc (.cells #[.int .i64 a,.int .i64 b,.int .i64 c,.int .i64 d,.int .u64 f,.int .u64 g,.slice h i k,.int .u64 l,.int .i64 m] 91)→R (.func (.func 257) #[] #[.pointer (some ⟨b1,0,none⟩)]) w1):=by kernel_rfl
def iK (s0:Value) (s3 s4:Int) (j:LV):LV:=s0::jq j 0 2 (.int .i64 s3::.int .i64 s4::jq j 2 24 [])
theorem uY (p0:Value) (c0:Nat):fnW prog f257 [p0,.pointer (some ⟨c0,0,none⟩)] R w=(∀ w1,w1=w.drew→∃ Sx:World→Prop,Sx w1∧∃ At,(∀ u,Sx u→u.cell? ⟨c0,2,none⟩=some (.int .i64 At))∧∃ a b c N_ d f g h i k l,(∀ u,Sx u→aH u ⟨c0,0,none⟩ 0 [.int .i64 a,.int .i64 b,.int .i64 c,.int .i64 N_,.int .u64 d,.int .u64 f,.slice g h i,.int .u64 k,.int .i64 l])∧Calls prog 198 #[.agg #[.int .i64 a,.int .i64 b,.int .i64 c,.int .i64 N_,.int .u64 d,.int .u64 f,.slice g h i,.int .u64 k,.int .i64 l]] w1 λe w2=>∃ m,e=.returned (.int .i64 m)∧Sx w2∧bT prog (.loop (sub (aA f257) [1,0,0])) (iK p0 At m (jp ⟨c0,0,none⟩::uq 2 (jp ⟨c0,2,none⟩::ji At::.agg #[.int .i64 a,.int .i64 b,.int .i64 c,.int .i64 N_,.int .u64 d,.int .u64 f,.slice g h i,.int .u64 k,.int .i64 l]::ji m::uq 19 []))) (aI 0 (retQ prog f257 R)) w2):=by kernel_rfl
theorem pU (s0:Value) (s3 s4:Int) (j:LV) (N1:LV→World→Prop):W prog (sub (aA f257) [1,0,0]) (iK s0 s3 s4 j) (seqQ N1 (aI 0 (retQ prog f257 R))) w=((bif (decide ((s4:Int)>0)) then (wC prog s0 #[.agg #[.int .i64 s3,.int .i64 (if ((i64.wrap (8 - (Int.tmod s3 8))):Int)<s4 then ((i64.wrap (8 - (Int.tmod s3 8))):Int) else s4)]] w λe w1=>∃ a,e=.returned (.bool a)∧(bif (!a) then (R (.tuple #[]) w1) else (N1 (iK s0 (i64.wrap (s3+(if ((i64.wrap (8 - (Int.tmod s3 8))):Int)<s4 then ((i64.wrap (8 - (Int.tmod s3 8))):Int) else s4))) (i64.wrap (s4 - (if ((i64.wrap (8 - (Int.tmod s3 8))):Int)<s4 then ((i64.wrap (8 - (Int.tmod s3 8))):Int) else s4))) (jg j 0::jg j 1::ji (if ((i64.wrap (8 - (Int.tmod s3 8))):Int)<s4 then ((i64.wrap (8 - (Int.tmod s3 8))):Int) else s4)::jq j 3 4 [ji s4,jb (decide ((s4:Int)>0)),ji s4,ji s3,ji (Int.tmod s3 8),ji (i64.wrap (8 - (Int.tmod s3 8))),ji (if ((i64.wrap (8 - (Int.tmod s3 8))):Int)<s4 then ((i64.wrap (8 - (Int.tmod s3 8))):Int) else s4),s0,ji s3,ji (if ((i64.wrap (8 - (Int.tmod s3 8))):Int)<s4 then ((i64.wrap (8 - (Int.tmod s3 8))):Int) else s4),.agg #[.int .i64 s3,.int .i64 (if ((i64.wrap (8 - (Int.tmod s3 8))):Int)<s4 then ((i64.wrap (8 - (Int.tmod s3 8))):Int) else s4)],jb a,jb (!a),ji s3,ji (if ((i64.wrap (8 - (Int.tmod s3 8))):Int)<s4 then ((i64.wrap (8 - (Int.tmod s3 8))):Int) else s4),ji (i64.wrap (s3+(if ((i64.wrap (8 - (Int.tmod s3 8))):Int)<s4 then ((i64.wrap (8 - (Int.tmod s3 8))):Int) else s4))),ji s4,ji (if ((i64.wrap (8 - (Int.tmod s3 8))):Int)<s4 then ((i64.wrap (8 - (Int.tmod s3 8))):Int) else s4),ji (i64.wrap (s4 - (if ((i64.wrap (8 - (Int.tmod s3 8))):Int)<s4 then ((i64.wrap (8 - (Int.tmod s3 8))):Int) else s4)))])) w1))) else (R (.tuple #[]) w))):=by kernel_rfl
end Go.Proofs.YtafopfaomkklpaaGreat
namespace Go.Proofs.YtafopfaomkklpaaGreat
open Go.Eng
theorem Ii {w:World} {ad:Addr} {v:bA} {K:Int→Int→Int→Int→Int→Int→Option Addr→Nat→Nat→Int→Int→Prop} (h:aH w ad 0 v.cells)
  (hk:K v.Kind v.Node v.At v.N v.Old v.New v.Words v.Wl v.Wc v.Key v.Boot) :
  ∃ (Kind:Int) (Node:Int) (At:Int) (N:Int) (Old:Int) (New:Int) (Words:Option Addr) (Wl:Nat) (Wc:Nat) (Key:Int) (Boot:Int),
   aH w ad 0 [.int .i64 Kind,.int .i64 Node,.int .i64 At,.int .i64 N,.int .u64 Old,.int .u64 New,.slice Words Wl Wc,.int .u64 Key,.int .i64 Boot]∧K Kind Node At N Old New Words Wl Wc Key Boot:=
 ⟨_,_,_,_,_,_,_,_,_,_,_,h,hk⟩
theorem HB {S:World→Prop} {ad:Addr} {v:bA} {K:Int→Int→Int→Int→Int→Int→Option Addr→Nat→Nat→Int→Int→Prop} (h:∀ u,S u→aH u ad 0 v.cells)
  (hk:K v.Kind v.Node v.At v.N v.Old v.New v.Words v.Wl v.Wc v.Key v.Boot) :
  ∃ (Kind:Int) (Node:Int) (At:Int) (N:Int) (Old:Int) (New:Int) (Words:Option Addr) (Wl:Nat) (Wc:Nat) (Key:Int) (Boot:Int),
   (∀ u,S u→aH u ad 0 [.int .i64 Kind,.int .i64 Node,.int .i64 At,.int .i64 N,.int .u64 Old,.int .u64 New,.slice Words Wl Wc,.int .u64 Key,.int .i64 Boot])∧K Kind Node At N Old New Words Wl Wc Key Boot:=
 ⟨_,_,_,_,_,_,_,_,_,_,_,h,hk⟩
abbrev TV:TypeId:=91
theorem vbox {w:World} {b:Nat} {v:bA} (h:Blk w b v.cells TV):aH w ⟨b,0,none⟩ 0 v.cells:=aK h (by simp [bA.cells])
theorem HC (w:World) (v:bA):Blk (w.alloc (.cells v.cells.toArray TV)) w.heap.size v.cells TV:=pz _ _ _
def bA.count (v:bA):Int:=if v.Kind=1 then v.N else if v.Kind=2 then v.Wl else if v.Kind=3∨v.Kind=4 then 1 else 0
theorem Gr (w:World) (v:bA):Does 198 [v.val] w λx w'=>x=.int .i64 v.count∧New w w':=by
 refine does Tryz.func198 ?_
 refine Eq.mpr (xP v.Kind v.Node v.At v.N v.Old v.New v.Words v.Wl v.Wc v.Key v.Boot w _) ?_
 rintro b1 w1 rfl rfl
 have hb:=HC w v
 have hn:=lk w (.cells v.cells.toArray TV)
 refine ⟨_,hb.cell rfl,bC (λh1=>⟨_,hb.cell rfl,?_,hn⟩) (λh1=>bC (λh2=>⟨_,_,_,hb.cell rfl,?_,hn⟩) (λh2=>bC (λh3=>bC (λ_=>⟨?_,hn⟩) (λh=>absurd h3 h)) (λh3=>bC (λh4=>⟨?_,hn⟩) (λh4=>⟨?_,hn⟩))))⟩
 ·simp [bA.count,h1]
 ·simp [bA.count,h2]
 ·simp [bA.count,h3]
 ·simp [bA.count,h4]
 ·simp [bA.count,h1,h2,h3,h4]
end Go.Proofs.YtafopfaomkklpaaGreat
namespace Go.Proofs.YtafopfaomkklpaaGreat
open Go.Proofs.Tryz
open Go.Eng Go.RowKit
def encP (x:Int×Int):Array Value:=#[.agg #[.int .i64 x.1,.int .i64 x.2]]
def dE:Nat→Int→Int→List (Int×Int)
 | 0,_,_=>[]
 |f+1,at_,left=>if left≤0 then [] else (at_,if 8 - at_ % 8<left then 8 - at_ % 8 else left)::
   dE f (at_+(if 8 - at_ % 8<left then 8 - at_ % 8 else left)) (left - (if 8 - at_ % 8<left then 8 - at_ % 8 else left))
def bA.pieces (v:bA):List (Int×Int):=dE v.count.toNat v.At v.count
theorem yP {w w':World} (h:Go.Eng.New w w'):w.grownBy w' none:=⟨h.os,h.tape,h.output,h.size,λk hk _=>h.block k hk id⟩
theorem BR {m:Nat} {P:Program} {l:Nat} {args:Array Value} {W:World} {R:Ending→World→Prop} (h:YieldAt Fence.wide m P l args W R) (k:Nat):YieldAt Fence.wide k P l args W R:=by
 obtain ⟨fn,tmps,assign,body,h1,h2⟩:=h
 exact ⟨fn,tmps,assign,body,h1,h2.1,λc cs _=>h2.2 c cs (room_wide _)⟩
theorem BS (n l Bn n₀:Nat) (v:bA) (J Jx:List (Int×Int)→World→Prop) (ha0:0≤v.At) (ha1:v.At≤1000000) (hc0:1≤v.count) (hc1:v.count≤1000000) (W:World)
  (hJ:AbidesFrom W.heap.size J) (hY:∀ pre x W,J pre W→pre.length<v.pieces.length→YieldAt Fence.wide (n - 1) prog l (encP x) W λe W'=>
   (e=.returned (.bool true)∧J (pre++[x]) W'∧Below n₀ W W')∨(e=.returned (.bool false)∧Jx (pre++[x]) W'))
  (hBn:∀ u,Below (Bn+1) W u→aH u ⟨Bn,0,none⟩ 0 v.cells) (hb:Bn+1≤W.heap.size) (h0:J [] W) :
  CallsIn Fence.wide n prog 257 #[.func (.yield l) #[] #[],.pointer (some ⟨Bn,0,none⟩)] W λe W'=>(∃ v,e=.returned v)∧
   ((∃ ys,ys=v.pieces∧J ys W')∨(∃ pre,pre <+: v.pieces∧Jx pre W')):=by
 refine callsIn_wide.2 (Calls.mono (R:=λe w'=>∃ x,e=.returned x∧((∃ ys,ys=v.pieces∧J ys w')∨(∃ pre,pre <+: v.pieces∧Jx pre w'))) ?_ λe w' ⟨x,hx,hr⟩=>⟨⟨x,hx⟩,hr⟩)
 refine does Tryz.func257 (args:=[.func (.yield l) #[] #[],.pointer (some ⟨Bn,0,none⟩)]) (R:=λ_ w'=>(∃ ys,ys=v.pieces∧J ys w')∨(∃ pre,pre <+: v.pieces∧Jx pre w')) ?_
 rw [uY]
 intro w1 hw1
 have hn1:Go.Eng.New W w1:=by rw [hw1];exact aW _
 clear hw1
 have hbl:∀ u,Go.Eng.New w1 u→Below (Bn+1) W u:=λu hu=>(hn1.new hu).below (by omega) λ_ _ h=>h
 refine ⟨λu=>Go.Eng.New w1 u,Keep.refl _ _,v.At,λu hu=>?_,?_⟩
 ·have:=hBn u (hbl u hu)
  exact this.2.2.1
 refine HB (v:=v) (λu hu=>hBn u (hbl u hu)) ?_
 refine aG (Gr _ v) ?_
 rintro r w2 ⟨rfl,hn2⟩
 refine ⟨_,rfl,hn2,?_⟩
 have hJ2:J [] w2:=hJ _ _ _ none h0 (yP (hn1.new hn2)) (λ_ h=>by cases h)
 refine aS mix (λm env u=>∃ (f:Nat) (at_ left:Int) (jj:List Value) (pre:List (Int×Int)),m=f∧left≤f∧0≤at_∧0≤left∧at_+left≤2000000∧env=iK (.func (.yield l) #[] #[]) at_ left jj∧v.pieces=pre++dE f at_ left∧J pre u) v.count.toNat
  ⟨v.count.toNat,v.At,v.count,_,[],rfl,by omega,ha0,by omega,by omega,rfl,rfl,hJ2⟩ ?_
 rintro f env u ⟨_,at_,left,jj,pre,rfl,hlf,hat,hle,hsum,rfl,hpre,hJu⟩
 rw [pU]
 refine aE (λhp=>?_) (λhp=>?_)
 ·obtain ⟨f',rfl⟩:∃ f',f=f'+1:=⟨f - 1,by omega⟩
  have hmod:Int.tmod at_ 8=at_ % 8:=Int.tmod_eq_emod_of_nonneg hat
  rw [hmod,w64 (x:=8 - at_ % 8) (by omega) (by omega)]
  generalize hk:(if 8 - at_ % 8<left then 8 - at_ % 8 else left)=k
  have hk1:1≤k∧k≤left∧k≤8:=by rw [←hk];split<;>omega
  have hcons:dE (f'+1) at_ left=(at_,k)::dE f' (at_+k) (left - k):=by
   rw [dE,if_neg (by omega),hk]
  rw [hcons] at hpre
  have hy:=BR (hY pre (at_,k) u hJu (by rw [hpre];simp)) 0
  refine Exists.imp (λfn=>Exists.imp λtmps=>Exists.imp λassign=>Exists.imp λbody=>And.imp id λh=>RoundIn.mono h ?_) hy
  rintro e w3 (⟨rfl,hJ3,_⟩ | ⟨rfl,hJx3⟩)
  ·refine ⟨_,rfl,dM rfl ?_⟩
   rw [w64 (by omega) (by omega),w64 (by omega) (by omega)]
   refine ⟨f',by omega,f',at_+k,left - k,_,pre++[(at_,k)],rfl,by omega,by omega,by omega,by omega,rfl,by rw [hpre];simp,hJ3⟩
  ·exact ⟨_,rfl,cG rfl (.inr ⟨_,⟨dE f' (at_+k) (left - k),by rw [hpre];simp⟩,hJx3⟩)⟩
 ·refine .inl ⟨pre,?_,hJu⟩
  have:left=0:=by omega
  subst this
  rw [hpre]
  cases f<;>simp [dE]
end Go.Proofs.YtafopfaomkklpaaGreat
namespace Go.Proofs.YtafopfaomkklpaaGreat
open Go.Eng Go.RowKit
theorem xQ (f:Nat) (at_ left:Int) (h:1≤left) (hf:1≤f):dE f at_ left≠[]:=by
 cases f with
 |zero=>omega
 |succ f=>unfold dE;rw [if_neg (by omega)];simp
theorem sH:∀ (f:Nat) (at_ left:Int),(dE f at_ left).length≤f
 | 0,_,_=>by simp [dE]
 |f+1,at_,left=>by
  unfold dE
  split
  ·simp
  ·simp only [List.length_cons]
   have:=sH f (at_+(if 8 - at_ % 8<left then 8 - at_ % 8 else left)) (left - (if 8 - at_ % 8<left then 8 - at_ % 8 else left))
   omega
def uZ (ps:List (Int×Int)):List (List Value):=ps.map λp=>[.int .i64 p.1,.int .i64 p.2]
abbrev TPc:TypeId:=319
end Go.Proofs.YtafopfaomkklpaaGreat
namespace Go.Proofs.YtafopfaomkklpaaGreat
open Go.Proofs.Tryz
open Go.Eng Go.RowKit
theorem Gs {P:Program} (hm:P.follows .mixedOrders=true) {a b:Code} {env:List Value} {w:World} {Q:Exit→Act→World→Prop} {N:List Value→World→Prop} (h:W P a env (seqQ N (λ_ _ _=>False)) w) (hN:∀ env w,N env w→b.wp P Q (act env) w):(Code.seq a b).wp P Q (act env) w:=by
 refine wp_seq (wp_mono (rf hm a env _ w h) λe a' w' hq0=>?_)
 obtain ⟨he,env',ha,hq⟩:=iz hq0
 subst ha
 clear hq0
 cases e with
 |normal=>exact hN env' w' hq
 |panic c=>exact absurd rfl (he.1 c)
 |outgrown=>exact absurd rfl he.2
 | _=>exact hq.elim
theorem EA (w:World) (v:bA):Does 224 [v.val] w λr w'=>r=.func (.func 257) #[] #[.pointer (some ⟨w.heap.size,0,none⟩)]∧Blk w' w.heap.size v.cells TV∧Go.Eng.New w w'∧w'.heap.size=w.heap.size+1:=by
 refine does Tryz.func224 ?_
 refine Eq.mpr (wH v.Kind v.Node v.At v.N v.Old v.New v.Words v.Wl v.Wc v.Key v.Boot w _) ?_
 rintro b1 w1 hb1 hw1
 obtain ⟨hz,hn⟩:=aR hb1 hw1
 refine ⟨by rw [hb1],hb1▸hz,hn,by rw [hw1];simp⟩
theorem P_r0 (v:bA) (w:World) (N:List Value→World→Prop):W prog (sub (aA f205) [0]) [v.val,undef,undef,undef,undef,undef,undef,undef,undef,undef,undef,undef,undef] (seqQ N (λ_ _ _=>False)) w =
  (∀ b1 w1,b1=w.heap.size→w1=w.alloc (.cells v.cells.toArray 91)→N [v.val,.pointer (some ⟨b1,0,none⟩),.slice none 0 0,undef,undef,undef,undef,undef,undef,undef,undef,undef,undef] w1):=by kernel_rfl
theorem P_r1 (v x:Value) (b:Nat) (w:World) (N:List Value→World→Prop):W prog (sub (aA f205) [1,0]) [v,.pointer (some ⟨b,0,none⟩),x,undef,undef,undef,undef,undef,undef,undef,undef,undef,undef] (seqQ N (λ_ _ _=>False)) w =
  (∀ b1 w1,b1=w.heap.size→w1=w.alloc (.cells #[.slice none 0 0] 316)→N [v,.pointer (some ⟨b,0,none⟩),x,.pointer (some ⟨b1,0,none⟩),undef,undef,undef,undef,undef,undef,undef,undef,undef] w1):=by kernel_rfl
def zQ (o:Oper):Bool:=match o.op with | .defer _=>false | _=>true
def plain:Code→Bool
 | .region _ ops false=>ops.toList.all zQ
 | _=>false
theorem BT {P:Program} {o:Oper} {a:Act} {next next':Act→World→Prop} {Q:Exit→Act→World→Prop} (r n:Nat) (hn:∀ a w,next a w→next' a w):∀ {x:Result Next},o.uponIn Fence.wide 0 P a next Q x→o.uponIn (Fence.wide.inRound r) n P a next' Q x
 | .ok (.value v) w',h=>hn _ _ h
 | .ok .skip w',h=>hn _ _ h
 | .ok (.defer d) w',h=>hn _ _ h
 | .ok (.enter f args) w',h=>by
  refine ⟨λhc=>by simp [Fence.wide] at hc,trivial,λcs _=>?_⟩
  obtain ⟨e,w2,fr,hr,hs,hx⟩:=h.2.2 cs (room_wide _)
  refine ⟨e,w2,fr,?_,hs,hx⟩
  cases e with
  |returned v=>exact hn _ _ hr
  |panicked c=>exact hr
  |outgrown=>exact hr
 | .ok (.row row args) w',h=>by
  refine ⟨λhc=>by simp [Fence.wide] at hc,λc cs _=>?_⟩
  obtain ⟨v,w2,hr,hs⟩:=h.2 c cs (room_wide _)
  exact ⟨v,w2,hn _ _ hr,hs⟩
 | .ok (.round l f tmps assign body) w',h=>by
  refine ⟨λhc=>by simp [Fence.wide] at hc,trivial,λc cs _=>?_⟩
  obtain ⟨e,w2,hr,hs⟩:=h.2.2 c cs (room_wide _)
  refine ⟨e,w2,?_,hs⟩
  cases e with
  |returned v=>exact hn _ _ hr
  |panicked c=>exact hr
  |outgrown=>exact hr
 | .halt (.panic v) w',h=>h
 | .halt (.stuck s) w',h=>by cases h
theorem wX {P:Program} {ops:Array Oper} {Q:Exit→Act→World→Prop} (r n:Nat):∀ (l:List Oper) (a:Act) (w:World),(∀ o ∈ l,zQ o=true)→wpListIn Fence.wide 0 P ops Q l a w→wpListIn (Fence.wide.inRound r) n P ops Q l a w
 | [],_,_,_,h=>h
 |o::l,a,w,hd,h=>by
  have ih:=λa w=>wX (P:=P) (ops:=ops) (Q:=Q) r n l a w λo ho=>hd o (List.mem_cons_of_mem _ ho)
  unfold wpListIn at h ⊢
  split at h
  ·rename_i hw
   rw [if_pos hw]
   refine ⟨λ_ _=>trivial,?_⟩
   have h2:=h.2
   rw [show Fence.wide.round=none from rfl,Oper.semAt_none] at h2
   rw [show (Fence.wide.inRound r).round=some r from rfl,Oper.semAt_some _ _ _ (λc hc=>by have:=hd o List.mem_cons_self;simp [zQ,hc] at this)]
   exact BT r n ih h2
  ·rename_i hw
   rw [if_neg hw]
   exact ⟨λ_ _=>trivial,ih _ _ h.2⟩
theorem Db {P:Program} {c:Code} (hp:plain c=true) {env:List Value} {Q:Exit→List Value→World→Prop} {w:World} (r n:Nat) (h:W P c env Q w):c.wpIn (Fence.wide.inRound r) n P (yp Q) (act env) w:=by
 cases c with
 |region id ops d=>
  cases d with
  |true=>simp [plain] at hp
  |false=>
   unfold W at h
   refine wpIn_region_list (wX r n _ _ _ (λo ho=>?_) (q9 (all:=ops.toList) ops.toList env w (Q .normal) (λenv w hk=>bZ hk ⟨λ_=>by simp,by simp⟩) h))
   simp only [plain,List.all_eq_true] at hp
   exact hp o ho
 | _=>simp [plain] at hp
theorem P_r2 (v x:Value) (b b2:Nat) (w:World) (N:List Value→World→Prop):W prog (sub (aA f205) [1,1,0,0]) [v,.pointer (some ⟨b,0,none⟩),x,.pointer (some ⟨b2,0,none⟩),undef,undef,undef,undef,undef,undef,undef,undef,undef] (seqQ N (λ_ _ _=>False)) w =
  (∃ (Kind:Int) (Node:Int) (At:Int) (N_:Int) (Old:Int) (New:Int) (Words:Option Addr) (Words_len:Nat) (Words_cap:Nat) (Key:Int) (Boot:Int),aH w ⟨b,0,none⟩ 0 [(.int .i64 Kind),(.int .i64 Node),(.int .i64 At),(.int .i64 N_),(.int .u64 Old),(.int .u64 New),(.slice Words Words_len Words_cap),(.int .u64 Key),(.int .i64 Boot)]∧
   Calls prog 224 #[(.agg #[(.int .i64 Kind),(.int .i64 Node),(.int .i64 At),(.int .i64 N_),(.int .u64 Old),(.int .u64 New),(.slice Words Words_len Words_cap),(.int .u64 Key),(.int .i64 Boot)])] w λe w3=>∃ r,e=.returned r∧
    N [v,.pointer (some ⟨b,0,none⟩),x,.pointer (some ⟨b2,0,none⟩),undef,(.agg #[(.int .i64 Kind),(.int .i64 Node),(.int .i64 At),(.int .i64 N_),(.int .u64 Old),(.int .u64 New),(.slice Words Words_len Words_cap),(.int .u64 Key),(.int .i64 Boot)]),r,undef,undef,undef,undef,undef,undef] w3):=by kernel_rfl
theorem Ij (v x y z r:Value) (b2:Nat) (p:Int×Int) (w:World) (N:List Value→World→Prop):W prog (sub (aA f205) [1,1,0,1,0,0]) [v,y,x,.pointer (some ⟨b2,0,none⟩),undef,z,r,.agg #[.int .i64 p.1,.int .i64 p.2],undef,undef,undef,undef,undef] (seqQ N (λ_ _ _=>False)) w =
  (∀ b1 w1,b1=w.heap.size→w1=w.alloc (.cells #[.int .i64 0,.int .i64 0] TPc)→wrAt w1 ⟨b1,0,none⟩ 0 [.int .i64 p.1,.int .i64 p.2]∧∀ w2,w2=puts w1 ⟨b1,0,none⟩ 0 [.int .i64 p.1,.int .i64 p.2]→
   N [v,y,x,.pointer (some ⟨b2,0,none⟩),.pointer (some ⟨b1,0,none⟩),z,r,.agg #[.int .i64 p.1,.int .i64 p.2],undef,undef,undef,undef,undef] w2):=by kernel_rfl
theorem Ik (v x y z r t:Value) (b2 b4:Nat) (w:World) (N:List Value→World→Prop):W prog (sub (aA f205) [1,1,0,1,0,1,0]) [v,y,x,.pointer (some ⟨b2,0,none⟩),.pointer (some ⟨b4,0,none⟩),z,r,t,undef,undef,undef,undef,undef] (seqQ N (λ_ _ _=>False)) w =
  (∃ (a:Option Addr) (n c:Nat),w.cell? ⟨b2,0,none⟩=some (.slice a n c)∧∃ (k1 k2:Int),aH w ⟨b4,0,none⟩ 0 [.int .i64 k1,.int .i64 k2]∧∀ b1 w1,b1=w.heap.size→w1=w.alloc (.cells #[.int .i64 k1,.int .i64 k2] TPc)→
   ∃ (ap:Option Addr) (ap_len ap_cap:Nat),∃ w2,(Builtin.append_ #[316,316] 316 #[(.slice a n c),(.slice (some ⟨b1,0,none⟩) 1 1)]).run prog w1=.ok (.slice ap ap_len ap_cap) w2∧
    (∃ u,w2.cell? ⟨b2,0,none⟩=some u)∧w2.frozen? ⟨b2,0,none⟩=false∧∀ w3,w3=w2.setCell ⟨b2,0,none⟩ (.slice ap ap_len ap_cap)→
    N [v,y,x,.pointer (some ⟨b2,0,none⟩),.pointer (some ⟨b4,0,none⟩),z,r,t,.slice a n c,.agg #[.int .i64 k1,.int .i64 k2],.slice (some ⟨b1,0,none⟩) 1 1,.slice ap ap_len ap_cap,undef] w3):=by kernel_rfl
end Go.Proofs.YtafopfaomkklpaaGreat
