/- A part of the proof. -/
import Derived.Test.YtafopfaomkklpaaGreatp27
set_option linter.unusedVariables false
namespace Go.Proofs.YtafopfaomkklpaaGreat
open Go.Proofs.Tryz
open Go.Eng
theorem fn3t {w u:World} {b1 b2:Nat} (hnu:New w u) (h2:Blk u b2 (aI.cells ⟨0,none,0,0⟩) TFO) (hb2:w.heap.size≤b2) {R:Value→World→Prop} {Q:Exit→List Value→World→Prop} (hQ:∀ env w',Q .ret env w'=retQ prog fFN R .ret env w')
  (hR:∀ w' o,New w w'→FOut w' o 6 []→R (.tuple #[.slice none 0 0,o.val,.bool true]) w') (a:Option Addr) (n c:Nat) (jj:List Value) :
  W prog (sub (aA fFN) [1,1,1,1,1,1,1,1,0,1]) (jo ⟨b1,0,none⟩ ⟨b2,0,none⟩ a n c true jj) Q u:=by
 refine cH (P:=prog) (fn:=fFN) (R:=R) hQ ?_
 rw [m9]
 exact cM rfl (yY h2 rfl 6 (K:=λres w2=>R (.tuple #[.slice none 0 0,res.val,.bool true]) w2) λo w2 hk2 ho=>hR w2 o (hnu.trans hk2 λk hlt e=>by omega) ho)
open Classical in
set_option maxHeartbeats 4000000 in
theorem AO {w:World} {r:aN} {j:FJob} (h:jP w r j) {ga:Option Addr} {gn gc:Nat} (hgc:gn≤gc) {xa:Option Addr} {xl xc:Nat} {raw:List aV} {ds:List Done} (hg:gn≠0→Got w ga gn xa xl xc raw ds) (hcap:∀ d ∈ raw,d.Wl≤d.Wc) :
  Does 18 [r.val,.slice ga gn gc] w (pp w j r.View.Number gn ds):=by
 refine does Tryz.func18 ?_
 rw [vz]
 rintro b1 w1 hb1 hw1
 obtain ⟨hz1,hn1⟩:=aR hb1 hw1
 have hz1:Blk w1 b1 r.cells TFJ:=hz1
 clear hw1
 rintro b2 w2 hb2 hw2
 obtain ⟨hz2,hn2⟩:=aR hb2 hw2
 have hz2:Blk w2 b2 (aI.cells ⟨0,none,0,0⟩) TFO:=hz2
 clear hw2
 have hz12:=New.blk hn2 hz1
 have hn02:=hn1.new hn2
 have hs1:=hn1.size
 have hs2:=hn2.size
 have hb2w:w.heap.size≤b2:=by omega
 refine aN.mk_ex r ⟨aH hz12 rfl,?_⟩
 refine aC (Cm (h.new hn02)) ?_
 rintro x w3 ⟨rfl,hn3⟩
 have hn03:=hn02.new hn3
 refine ⟨_,rfl,bQ (λhv=>?_) (λhv=>?_)⟩
 ·exact yY (New.blk hn3 hz2) rfl j.valid (K:=λres w'=>pp w j r.View.Number gn ds (.tuple #[.slice none 0 0,res.val,.bool true]) w') λo w' hk ho=>⟨hn03.trans hk λk hlt e=>by omega,.inr ⟨λha=>hv ha.1,o,rfl,by unfold fZ;rw [if_pos hv];exact ho⟩⟩
 have hv:j.valid=0:=by omega
 obtain ⟨hnum,⟨m,hm,hmn⟩,hl1024,hlines⟩:=vD hv
 obtain ⟨MM,hview⟩:=h.view
 have hnumr:=hview.num
 refine aF.mk_ex r.View ⟨aH (New.blk hn3 hz12) rfl,?_⟩
 refine aC (AK (hview.new hn03) hm) ?_
 rintro x w5 ⟨rfl,hn5⟩
 refine aB.mk_ex m ⟨_,rfl,mr (vs:=m.cells) rfl (aB.single _) λb3 w7 hb3 hz7 hn7=>?_⟩
 have hz7:Blk w7 b3 m.cells TMb:=hz7
 have hn07:=(hn03.new hn5).new hn7
 have hn27:=(hn3.new hn5).new hn7
 have y1:=New.blk hn27 hz12
 have y2:=New.blk hn27 hz2
 have hll:=h.len
 have hs07:=hn07.size
 have hb2l:=y2.lt
 refine ⟨_,_,_,y1.cell (i:=3) rfl,?_⟩
 refine aW mix (λq env z=>∃ (i:Nat) (a:Option Addr) (cap:Nat) (jj:List Value),q=j.lines.length - i∧i≤j.lines.length∧env=jm ga gn gc ⟨b1,0,none⟩ ⟨b2,0,none⟩ ⟨b3,0,none⟩ a i cap r.Lines r.Lines_l r.Lines_c r.Lines_l i jj∧New w7 z∧Owns z TVb 9 a i cap (je (fB r.View.Number m (j.lines.take i))).flatten∧∀ k,isB a k→w7.heap.size≤k) j.lines.length
  ⟨0,none,0,_,by omega,by omega,rfl,Keep.refl _ _,Owns.nil _ _ _,λk hk=>absurd hk noB⟩ ?_
 rintro q env z ⟨i,a,cap,jj,rfl,hi,rfl,hnz,hown,hfr⟩
 refine cH (P:=prog) (fn:=fFN) (R:=pp w j r.View.Number gn ds) (λ_ _=>rfl) ?_
 rw [qg]
 have hn0z:=hn07.new hnz
 have z1:=New.blk hnz y1
 have z2:=New.blk hnz y2
 have z3:=New.blk hnz hz7
 have hsz:=hnz.size
 refine aD (λhq=>?_) (λhq=>?_)
 ·obtain ⟨l,hgl⟩:∃ l,j.lines[i]?=some l:=⟨_,List.getElem?_eq_getElem (by omega)⟩
  have hlr:=hlines l (List.mem_of_getElem? hgl)
  refine rd_i (h.rd.new hn0z) hgl rfl hll λb o hc=>⟨l,hc _ (Keep.refl _ _),?_⟩
  refine aC (DZ z hlr.1 hlr.2) ?_
  rintro x u1 ⟨rfl,e⟩
  subst e
  refine ⟨_,rfl,mr (vs:=(fV0 (l * 8)).cells) rfl (aU.single _) λb4 u2 hb4 hz4 hn4=>?_⟩
  refine aF.mk_ex r.View ⟨aH (New.blk hn4 z1) rfl,aB.mk_ex m ⟨aH (New.blk hn4 z3) rfl,aU.mk_ex (fV0 (l * 8)) ⟨aH hz4 rfl,?_⟩⟩⟩
  refine aC (zD u2 (r:=r.View) (m:=m) (by omega) (by omega) (l * 8)) ?_
  rintro x u3 ⟨rfl,hn5'⟩
  refine aU.mk_ex (fV r.View.Number m (l * 8)) ⟨rfl,?_⟩
  rintro b5 u4 hb5 hw5
  obtain ⟨hz5,hn6⟩:=aR hb5 hw5
  have hz5:Blk u4 b5 (fV r.View.Number m (l * 8)).cells TVb:=hz5
  clear hw5
  have hnn:=(hn4.new hn5').new hn6
  have hsn:=hnn.size
  refine Di (m:=1) (l2:=[fV r.View.Number m (l * 8)]) (Owns.new hnn hown) (fM hz5 rfl) rfl (by omega) λap cap' u5 ho hk hap=>?_
  rw [←AM r.View.Number m hgl] at ho
  rw [w64 (x:=(i:Int)+1) (by omega) (by omega)]
  refine bF ⟨j.lines.length - (i+1),by omega,i+1,ap,cap',_,rfl,by omega,rfl,(hnz.new hnn).trans hk λk hlt e=>by have:=hfr k e;omega,ho,λk hk'=>?_⟩
  rcases hap k hk' with e | e
  ·exact hfr k e
  ·omega
 have hie:i=j.lines.length:=by omega
 subst hie
 rw [List.take_of_length_le (Nat.le_refl _)] at hown
 refine ph (j8 (bF ?_))
 refine cH (P:=prog) (fn:=fFN) (R:=pp w j r.View.Number gn ds) (λ_ _=>rfl) ?_
 rw [sk]
 refine aC (EM z ga gn gc) ?_
 rintro x u1 ⟨b4,rfl,hb4,hz4,hn4⟩
 have hn01:=hn0z.new hn4
 have z2:=New.blk hn4 z2
 have z1:=New.blk hn4 z1
 have hs4:=hn4.size
 refine ⟨_,rfl,?_⟩
 have tail:∀ (u:World) (a':Option Addr) (n' c':Nat) (ok:Bool) (jj:List Value),New w u→Blk u b1 r.cells TFJ→Blk u b2 (aI.cells ⟨0,none,0,0⟩) TFO→¬ vC j gn→
   (∃ (ga':Option Addr) (gn' gc':Nat) (bad:Bool),Blk u b4 (ttC ga' gn' gc' none 0 0 bad) TTt∧((ok=false∨bad=true∨0<gn')→fZ j gn ds=(6,[]))∧(ok=true→bad=false→gn'=0→∃ (raw':List aV) (ds':List Done),n'=raw'.length∧Rd w a' (gI raw').flatten∧Ds w raw' ds'∧(∀ d ∈ raw',d.Wl≤d.Wc)∧raw'.length=j.lines.length∧(fR ds'=0→Co ds')∧fZ j gn ds=if fR ds'≠0 then (fR ds',[]) else (0,gR j.lines ds')))→
   W prog (sub (aA fFN) [1,1,1,1,1,1,1,1]) (me ⟨b1,0,none⟩ ⟨b2,0,none⟩ (some ⟨b4,0,none⟩) a' n' c' ok jj) (retQ prog fFN (pp w j r.View.Number gn ds)) u:=by
  rintro u a' n' c' ok jj hnu h1 h2 hna ⟨ga',gn',gc',bad,hz,hbad,hgood⟩
  have miss:fZ j gn ds=(6,[])→∀ w' o,New w w'→FOut w' o 6 []→pp w j r.View.Number gn ds (.tuple #[.slice none 0 0,o.val,.bool true]) w':=λe w' o hn' ho=>⟨hn',.inr ⟨hna,o,rfl,by rw [e];exact ho⟩⟩
  rw [qh,pG]
  refine cH (P:=prog) (fn:=fFN) (R:=pp w j r.View.Number gn ds) (λ_ _=>rfl) ?_
  rw [sm]
  cases ok with
  |false=>
   refine cM rfl (bF (fn3t (R:=pp w j r.View.Number gn ds) hnu h2 hb2w ?_ (miss (hbad (.inl rfl))) _ _ _ _))
   exact λ_ _=>rfl
  |true=>
   refine eE rfl ?_
   refine aC (xV hz) ?_
   rintro x u5 ⟨rfl,hn5⟩
   refine ⟨_,rfl,bF ?_⟩
   have h1:=New.blk hn5 h1
   have h2:=New.blk hn5 h2
   have hnu:=hnu.new hn5
   by_cases hc:(bad || decide ((gn':Int)>0))=true
   ·rw [hc]
    refine fn3t (R:=pp w j r.View.Number gn ds) hnu h2 hb2w ?_ (miss (hbad (.inr ?_))) _ _ _ _
    ·exact λ_ _=>rfl
    cases bad
    ·exact .inr (by simpa using hc)
    ·exact .inl rfl
   ·have hc:(bad || decide ((gn':Int)>0))=false:=by simpa using hc
    rw [hc]
    rw [Bool.or_eq_false_iff] at hc
    have hgn':gn'=0:=by have:=of_decide_eq_false hc.2;omega
    obtain ⟨raw',ds',q1,q2,q3,q4,q5,q6,q7⟩:=hgood rfl hc.1 hgn'
    refine cH (P:=prog) (fn:=fFN) (R:=pp w j r.View.Number gn ds) (λ_ _=>rfl) ?_
    rw [m9]
    refine eE rfl (bF ?_)
    exact fn4 (R:=pp w j r.View.Number gn ds) hnu h1 h2 hb2w h q1 q2 q3 q4 q5 q6 (λ_ _=>rfl) (λw' o hn' ho=>⟨hn',.inr ⟨hna,o,rfl,by rw [q7];exact ho⟩⟩) _
 by_cases hne:j.lines=[]
 ·have hl0:j.lines.length=0:=by rw [hne];rfl
  have hM:fZ j gn ds=if gn=0 then (0,[]) else (6,[]):=by unfold fZ;rw [if_neg (by omega),if_pos hne]
  rw [hl0]
  refine aC (AN b4 a cap) ?_
  rintro x u2 ⟨rfl,e⟩
  subst e
  refine ⟨_,_,_,_,rfl,?_⟩
  refine aC (sj hz4) ?_
  rintro x u3 ⟨rfl,hn6⟩
  refine ⟨_,_,_,_,rfl,aD (λe=>absurd e (by omega)) (λ_=>?_)⟩
  rw [xG (λ_ _=>rfl)]
  refine tail u3 none 0 0 true _ (hn01.new hn6) (New.blk hn6 z1) (New.blk hn6 z2) (λha=>ha.2.1 hne) ⟨ga,gn,gc,false,New.blk hn6 hz4,λhh=>?_,λ_ _ hg0=>⟨[],[],rfl,.inl rfl,⟨rfl,λi v x hv=>by simp at hv⟩,λd hd=>(by cases hd),hl0.symm,λ_ d hd=>(by cases hd),?_⟩⟩
  ·rw [hM,if_neg]
   rcases hh with e | e | e
   ·cases e
   ·cases e
   ·omega
  ·rw [hM,if_pos hg0,hne]
   rfl
 ·have hpos:0<j.lines.length:=List.length_pos_iff.2 hne
  have hM:fZ j gn ds=if fitF j.lines ds∧gn=1 then (if fR ds≠0 then (fR ds,[]) else (0,gR j.lines ds)) else (6,[]):=by unfold fZ;rw [if_neg (by omega),if_neg hne]
  refine aC (Ck (w0:=w) hn01 (by omega) hgc hz4 (yX r.View.Number m j.lines).symm (hown.rd.new hn4) AL hpos hg) ?_
  rintro x u2 ⟨hk2,hcase⟩
  rw [Dj] at hcase
  have hb4l:=hz4.lt
  have zl2:=z2.lt
  have hb24:b2≠b4:=by have:=(New.blk hnz y2).lt;omega
  have hb14:b1≠b4:=by have:=(New.blk hnz y1).lt;omega
  have hn02':=hn01.trans hk2 λk hlt e=>by omega
  have z1:=hk2.blk z1 hb14
  have z2:=hk2.blk z2 hb24
  rcases hcase with ⟨hg0,rfl,hz5⟩ | ⟨hg0,hfit,rfl,ga',gc',hz5⟩ | ⟨hg0,hfit,rfl,hz5⟩
  ·refine ⟨_,_,_,_,rfl,?_⟩
   refine aC (sj hz5) ?_
   rintro x u3 ⟨rfl,hn6⟩
   refine ⟨_,_,_,_,rfl,aD (λ_=>?_) (λe=>absurd (by omega) e)⟩
   have hs2':=hk2.size
   have hs6:=hn6.size
   refine yY (New.blk hn6 z2) rfl 0 (K:=λres w'=>pp w j r.View.Number gn ds (.tuple #[.slice a j.lines.length cap,res.val,.bool false]) w') λo w' hk ho=>⟨(hn02'.new hn6).trans hk λk hlt e=>by omega,.inl ⟨⟨hv,hne,hg0⟩,m,a,cap,o,hm,rfl,ho,?_,λk hb=>⟨?_,?_⟩⟩⟩
   ·refine jd hk ((jd hk2 (hown.rd.new hn4) λk _ hb e=>?_).new hn6) λk _ hb e=>?_
    ·have:=Owns.lt hown hb;omega
    ·have:=hfr k hb;omega
   ·have:=hfr k hb;omega
   ·have:=Owns.lt hown hb
    have:=hk.size
    omega
  ·refine ⟨_,_,_,_,rfl,?_⟩
   refine aC (sj hz5) ?_
   rintro x u3 ⟨rfl,hn6⟩
   refine ⟨_,_,_,_,rfl,aD (λe=>absurd e (by omega)) (λ_=>?_)⟩
   rw [xG (λ_ _=>rfl)]
   have hgt:=hg hg0
   refine tail u3 xa xl xc true _ (hn02'.new hn6) (New.blk hn6 z1) (New.blk hn6 z2) (λha=>hg0 ha.2.2) ⟨ga',gn - 1,gc',false,New.blk hn6 hz5,λhh=>?_,λ_ _ hg1=>⟨raw,ds,hgt.len,hgt.rd,hgt.ds,hcap,?_,yZ hfit,?_⟩⟩
   ·rw [hM,if_neg]
    rintro ⟨_,e⟩
    rcases hh with e' | e' | e'
    ·cases e'
    ·cases e'
    ·omega
   ·have:=hfit.1
    have:=hgt.ds.1
    rw [List.length_map] at *
    omega
   ·rw [hM,if_pos ⟨hfit,by omega⟩]
  ·refine ⟨_,_,_,_,rfl,?_⟩
   refine aC (sj hz5) ?_
   rintro x u3 ⟨rfl,hn6⟩
   refine ⟨_,_,_,_,rfl,aD (λe=>absurd e (by omega)) (λ_=>?_)⟩
   rw [xG (λ_ _=>rfl)]
   refine tail u3 none 0 0 false _ (hn02'.new hn6) (New.blk hn6 z1) (New.blk hn6 z2) (λha=>hg0 ha.2.2) ⟨ga,gn,gc,true,New.blk hn6 hz5,λ_=>?_,λe=>by cases e⟩
   rw [hM,if_neg λe=>hfit e.1]
end Go.Proofs.YtafopfaomkklpaaGreat
namespace Go.Proofs.YtafopfaomkklpaaGreat
open Go.Proofs.Tryz
open Go.Eng
theorem Fp {S:World→Prop} {a:Option Addr} {l:List Int} (hS:∀ y,S y→Rd y a (is l)) {u:World} (hu:S u) {i:Nat} {x:Int} (hx:l[i]?=some x) {z:Int} (hz:z=i) {n:Nat} (hn:n=l.length) {K:Addr→Prop}
  (hk:∀ b o,(∀ y,S y→y.cell? ⟨b,o,none⟩=some (.int .i64 x))→K ⟨b,o,none⟩):idxS a n z 1 K:=by
 subst hz hn
 have hlt:=cN hx
 have hxx:(is l)[i]?=some (.int .i64 x):=by simp [is,hx]
 obtain ⟨b,o,rfl⟩:∃ b o,a=some ⟨b,o,none⟩:=by
  rcases hS u hu with he | ⟨b,o,e,_⟩
  ·rw [he] at hxx;cases hxx
  ·exact ⟨b,o,e⟩
 refine bI (by omega) (by omega) ?_
 have e:o+(i:Int).toNat * 1=o+i:=by omega
 rw [e]
 exact hk b (o+i) λy hy=>(hS y hy).cell hxx
noncomputable abbrev fRF:Func:=f19
def Fq (w:World) (lines:List Int) (gn:Nat) (xa:Option Addr) (xl xc:Nat) (ds:List Done) (x:Value) (w':World):Prop:=New w w'∧
 ((lines=[]∧x=.tuple #[.slice none 0 0,.bool false,.bool (decide (gn=0))])∨
  (lines≠[]∧gn=0∧∃ f,x=.tuple #[.slice none 0 0,.bool true,.bool f])∨
  (lines≠[]∧gn≠0∧fitF lines ds∧x=.tuple #[.slice xa xl xc,.bool false,.bool (decide (gn=1))])∨
  (lines≠[]∧gn≠0∧¬ fitF lines ds∧x=.tuple #[.slice none 0 0,.bool false,.bool false]))
theorem AP {w0 w:World} (h0:New w0 w) {num:Int} {m:aB} {lines:List Int} {a:Option Addr} {cap:Nat} (hl:Rd w a (je (fB num m lines)).flatten) (hlt:∀ k,isB a k→k<w.heap.size) {ga:Option Addr} {gn gc:Nat} {xa:Option Addr} {xl xc:Nat} {raw:List aV} {ds:List Done} (hg:gn≠0→Got w0 ga gn xa xl xc raw ds) :
  Does 67 [.slice a lines.length cap,.slice ga gn gc] w (Fq w lines gn xa xl xc ds):=by
 refine does Tryz.func67 ?_
 rw [qP]
 rintro b1 w1 hb1 hw1
 obtain ⟨hz1,hn1⟩:=aR hb1 hw1
 have hz1:Blk w1 b1 (tkC ga gn gc 0 none 0 0 false) TTk:=hz1
 clear hw1
 have hs0:=h0.size
 by_cases hne:lines=[]
 ·have hl0:lines.length=0:=by rw [hne];rfl
  rw [hl0]
  refine aC (D0 b1 a cap) ?_
  rintro x w2 ⟨rfl,e⟩
  subst e
  refine ⟨_,_,_,_,rfl,?_⟩
  refine aC (vu hz1 true) ?_
  rintro x w3 ⟨rfl,hn3⟩
  refine ⟨_,_,rfl,hn1.new hn3,.inl ⟨hne,?_⟩⟩
  have:decide ((0:Int)=gn)=decide (gn=0):=by
   by_cases e:gn=0
   ·rw [decide_eq_true (by omega),decide_eq_true e]
   ·rw [decide_eq_false (by omega),decide_eq_false e]
  simp [this]
 ·have hpos:0<lines.length:=List.length_pos_iff.2 hne
  refine aC (EK (h0.new hn1) (by omega) hz1 (yX num m lines).symm (hl.new hn1) (λhk=>by have:=hlt b1 hk;omega) hpos hg) ?_
  rintro x w2 ⟨hk2,hcase⟩
  rw [Dj] at hcase
  have hn02:New w w2:=hn1.trans hk2 λk hlt e=>by omega
  rcases hcase with ⟨hg0,rfl,hz2⟩ | ⟨hg0,hfit,rfl,hz2⟩ | ⟨hg0,hfit,rfl,hz2⟩
  ·refine ⟨_,_,_,_,rfl,?_⟩
   refine aC (vu hz2 false) ?_
   rintro x w3 ⟨rfl,hn3⟩
   exact ⟨_,_,rfl,hn02.new hn3,.inr (.inl ⟨hne,hg0,_,rfl⟩)⟩
  ·refine ⟨_,_,_,_,rfl,?_⟩
   refine aC (vu hz2 true) ?_
   rintro x w3 ⟨rfl,hn3⟩
   refine ⟨_,_,rfl,hn02.new hn3,.inr (.inr (.inl ⟨hne,hg0,hfit,?_⟩))⟩
   have:decide ((1:Int)=gn)=decide (gn=1):=by
    by_cases e:gn=1
    ·rw [decide_eq_true (by omega),decide_eq_true e]
    ·rw [decide_eq_false (by omega),decide_eq_false e]
   simp [this]
  ·refine ⟨_,_,_,_,rfl,?_⟩
   refine aC (vu hz2 false) ?_
   rintro x w3 ⟨rfl,hn3⟩
   exact ⟨_,_,rfl,hn02.new hn3,.inr (.inr (.inr ⟨hne,hg0,hfit,rfl⟩))⟩
def sV (w:World) (j:FJob) (num:Int) (gn:Nat) (ds:List Done) (x:Value) (w':World):Prop:=New w w'∧
 ((vC j gn∧∃ (m:aB) (a:Option Addr) (cap:Nat),j.v.mem[0]?=some m∧x=.tuple #[.slice a j.lines.length cap,.int .i64 0,.slice none 0 0,.bool false]∧Rd w' a (je (fB num m j.lines)).flatten∧∀ k,isB a k→w.heap.size≤k∧k<w'.heap.size)∨
  (¬ vC j gn∧∃ (pa:Option Addr) (pc:Nat),x=.tuple #[.slice none 0 0,.int .i64 (fZ j gn ds).1,.slice pa (fZ j gn ds).2.length pc,.bool true]∧Rd w' pa (eF (fZ j gn ds).2).flatten))
def pgK (l:Int) (ws:List Int) (k:Nat):List Value:=(.int .i64 l:Value)::.int .u64 (ws.getD 0 0)::(us ((ws.drop 1).take k)++us (List.replicate (7 - k) 0))
theorem D1 {l:Int} {a b c d e f g i:Int}:∀ (k:Nat) (x:Int),k<7→[a,b,c,d,e,f,g,i][1+k]?=some x→(pgK l [a,b,c,d,e,f,g,i] k).set (2+k) (.int .u64 x)=pgK l [a,b,c,d,e,f,g,i] (k+1):=by
 intro k x hk hx
 match k,hk,hx with
 | 0,_,hx=>cases hx;rfl
 | 1,_,hx=>cases hx;rfl
 | 2,_,hx=>cases hx;rfl
 | 3,_,hx=>cases hx;rfl
 | 4,_,hx=>cases hx;rfl
 | 5,_,hx=>cases hx;rfl
 | 6,_,hx=>cases hx;rfl
set_option maxHeartbeats 4000000 in
theorem rf1 {w u:World} {j:FJob} {la:Option Addr} {ll lc:Nat} (hnu:New w u) (hla:Rd w la (is j.lines)) (hll:ll=j.lines.length) (hfew:j.lines.length≤100000) {a:Option Addr} {n c:Nat} {raw:List aV} {ds:List Done} (hn:n=raw.length) (hr:Rd w a (gI raw).flatten) (hd:Ds w raw ds) (hlen:raw.length=j.lines.length) (hfull:Co ds)
  {R:Value→World→Prop} {Q:Exit→List Value→World→Prop} (hQ:∀ env w',Q .ret env w'=retQ prog fRF R .ret env w')
  (hR:∀ w' pa pc,New w w'→Rd w' pa (eF (gR j.lines ds)).flatten→R (.tuple #[.slice none 0 0,.int .i64 0,.slice pa (gR j.lines ds).length pc,.bool true]) w') (jj:List Value) :
  bW prog (.loop (sub (aA fRF) [1,1,1,1,1,1,1,1,0,1,0,0])) (ep la ll lc a n c none 0 0 0 jj) (aK 3 (seqQ (λenv w=>W prog (sub (aA fRF) [1,1,1,1,1,1,1,1,1]) env (Qr prog fRF R Q) w) (Qr prog fRF R Q))) u:=by
 subst hn
 have hdl:=hd.1
 refine aW mix (λq env z=>∃ (i:Nat) (pa:Option Addr) (pc:Nat) (jj:List Value),q=raw.length - i∧i≤raw.length∧env=ep la ll lc a raw.length c pa i pc i jj∧New w z∧Owns z TPg 9 pa i pc (eF (gR (j.lines.take i) (ds.take i))).flatten∧∀ k,isB pa k→w.heap.size≤k) raw.length
  ⟨0,none,0,_,by omega,by omega,rfl,hnu,Owns.nil _ _ _,λk hk=>absurd hk noB⟩ ?_
 rintro q env z ⟨i,pa,pc,jj,rfl,hi,rfl,hnz,hown,hpf⟩
 refine cH (P:=prog) (fn:=fRF) (R:=R) (λenv w'=>rfl) ?_
 rw [mh]
 refine aD (λhq=>?_) (λhq=>?_)
 ·have hlt:i<raw.length:=by omega
  have hg:raw[i]?=some raw[i]:=List.getElem?_eq_getElem hlt
  obtain ⟨x,hgd⟩:∃ x,ds[i]?=some x:=⟨_,List.getElem?_eq_getElem (by omega)⟩
  obtain ⟨l,hgl⟩:∃ l,j.lines[i]?=some l:=⟨_,List.getElem?_eq_getElem (by omega)⟩
  have hda:=hd.2 i _ _ hg hgd
  have hx8:=hfull x (List.mem_of_getElem? hgd)
  generalize raw[i]=d at hg hda
  have hwl:=hda.len
  obtain ⟨x0,x1,x2,x3,x4,x5,x6,x7,hxw⟩:=EO hx8
  rintro z1 hw1
  have hn1:New z z1:=by rw [hw1];exact aT _
  clear hw1
  have hnz1:=hnz.new hn1
  refine ⟨λy=>New z1 y,Keep.refl _ _,?_⟩
  refine rd_i (hla.new hnz1) hgl rfl hll λb o hc=>⟨_,λy hy=>hc y hy,?_⟩
  refine iL (cells:=aV.cells) aV.len (by omega) (hr.new hnz1) hg rfl rfl λb o hc=>⟨_,_,_,λy hy=>hc y hy 1 _ rfl,?_⟩
  refine rd_w (l:=x.words) (hda.rd.new hnz1) (i:=0) (x:=x0) (by rw [hxw];rfl) rfl hwl λb o hc=>⟨x0,λy hy=>hc y hy,?_⟩
  rintro b1 z2 hb1 hw2
  obtain ⟨hz2,hn2⟩:=aR hb1 hw2
  have hz2:Blk z2 b1 (aG.cells ⟨0,0,0,0,0,0,0,0,0⟩) TPg:=hz2
  clear hw2
  have hs1:=hn1.size
  have hs2:=hn2.size
  refine ⟨hn2,oG hz2 (vs:=aG.cells ⟨l,x0,0,0,0,0,0,0,0⟩) rfl (aG.single _) λz3 hz3 hk3=>?_⟩
  have hz3:Blk z3 b1 (pgK l x.words 0) TPg:=by rw [hxw];exact hz3
  have hn03:New z z3:=(hn1.new hn2).trans hk3 λk hlt e=>by omega
  have hb1l:=hz3.lt
  refine aW mix (λq2 env2 y=>∃ (k:Nat) (jj:List Value),q2=7 - k∧k≤7∧env2=eY la ll lc a raw.length c pa i pc i ⟨b1,0,none⟩ k jj∧New z y∧Blk y b1 (pgK l x.words k) TPg) 7
   ⟨0,_,by omega,by omega,rfl,hn03,hz3⟩ ?_
  rintro q2 env2 y ⟨k,jj,rfl,hk7,rfl,hny,hzy⟩
  refine cH (P:=prog) (fn:=fRF) (R:=R) (λenv w'=>rfl) ?_
  rw [mi]
  have hnwy:=hnz.new hny
  refine aD (λhk=>?_) (λhk=>?_)
  ·rw [w64 (x:=1+(k:Int)) (by omega) (by omega),w64 (x:=(k:Int)+1) (by omega) (by omega)]
   obtain ⟨xk,hxk⟩:∃ xk,x.words[1+k]?=some xk:=⟨_,List.getElem?_eq_getElem (by omega)⟩
   refine gN (cells:=aV.cells) aV.len (by omega) (hr.new hnwy) hg rfl rfl λb o hcc hc=>⟨_,_,_,hc 1 _ rfl,?_⟩
   refine rd_w (l:=x.words) (hda.rd.new hnwy) (i:=1+k) (x:=xk) hxk (by omega) hwl λb o hc=>⟨xk,hc _ (Keep.refl _ _),?_⟩
   refine tK (by omega) (by omega) ?_
   have e2:0+2+(k:Int).toNat * 1=2+k:=by omega
   rw [e2]
   have hpl:(pgK l x.words k).length=9:=by rw [hxw];simp [pgK,us];omega
   refine vB (b:=b1) hzy (i:=2+k) (List.getElem?_eq_getElem (by omega)) λy2 hz2' hk2=>?_
   rw [hxw] at hz2'
   rw [D1 k xk (by omega) (by rw [←hxw];exact hxk),←hxw] at hz2'
   exact bF ⟨7 - (k+1),by omega,k+1,_,rfl,by omega,rfl,hny.trans hk2 λk' hlt e=>by omega,hz2'⟩
  ·have hke:k=7:=by omega
   subst hke
   refine ph (j8 (bF ?_))
   refine cH (P:=prog) (fn:=fRF) (R:=R) (λenv w'=>rfl) ?_
   rw [ou]
   have hzy:Blk y b1 (pgOf l x.words).cells TPg:=by rw [hxw] at hzy ⊢;exact hzy
   refine aG.mk_ex (pgOf l x.words) ⟨aH hzy rfl,?_⟩
   rintro b5 z8 hb5 hw8
   obtain ⟨hz5,hn8⟩:=aR hb5 hw8
   have hz5:Blk z8 b5 (pgOf l x.words).cells TPg:=hz5
   clear hw8
   obtain ⟨inf2,hinf2,hzz2,hsz2,hby2⟩:=nV (T:=TPg) (z:=.agg #[.int .i64 0,.int .u64 0,.int .u64 0,.int .u64 0,.int .u64 0,.int .u64 0,.int .u64 0,.int .u64 0,.int .u64 0]) (n:=9) (m:=72) (by kernel_rfl)
   refine lR (cells:=aG.cells) aG.len aG.single Tryz.underlying62 hinf2 hzz2 (by rw [hsz2];rfl) hsz2 (by omega) (by omega) (l:=gR (j.lines.take i) (ds.take i)) (Owns.new (hny.new hn8) hown) (l2:=[pgOf l x.words]) (m:=1) (fM hz5 rfl) rfl (by omega) λap cap' z9 ho9 hk9 hap=>?_
   have hn9:New w z9:=(hnwy.new hn8).trans hk9 λk hlt e=>by have:=hpf k e;omega
   refine tA (bF ?_)
   refine cH (P:=prog) (fn:=fRF) (R:=R) (λenv w'=>rfl) ?_
   rw [ov,w64 (x:=(i:Int)+1) (by omega) (by omega)]
   refine Qr_n (bF ⟨raw.length - (i+1),by omega,i+1,ap,cap',_,rfl,by omega,rfl,hn9,?_,λk hk'=>?_⟩)
   ·rw [uI hgl hgd];exact ho9
   ·rcases hap k hk' with e | e
    ·exact hpf k e
    ·have:=hnwy.size;have:=hn8.size;omega
 ·have hie:i=raw.length:=by omega
  subst hie
  refine ph (j8 (bF ?_))
  rw [ot]
  have hpl:(gR j.lines ds).length=raw.length:=by
   unfold gR
   rw [List.length_map,List.length_zip]
   omega
  have hp:=hown.rd
  rw [List.take_of_length_le (by omega),List.take_of_length_le (by omega)] at hp
  have:=hR z pa pc hnz hp
  rw [hpl] at this
  exact this
open Classical in
set_option maxHeartbeats 4000000 in
theorem vF {w:World} {r:aN} {j:FJob} (h:jP w r j) {ga:Option Addr} {gn gc:Nat} {xa:Option Addr} {xl xc:Nat} {raw:List aV} {ds:List Done} (hg:gn≠0→Got w ga gn xa xl xc raw ds) :
  Does 19 [.int .i64 r.Total,r.View.val,.slice r.Lines r.Lines_l r.Lines_c,.slice ga gn gc] w (sV w j r.View.Number gn ds):=by
 refine does Tryz.func19 ?_
 rw [ru]
 rintro b1 w1 hb1 hw1
 obtain ⟨hz1,hn1⟩:=aR hb1 hw1
 have hz1:Blk w1 b1 r.View.cells TVw:=hz1
 clear hw1
 have hs1:=hn1.size
 refine aF.mk_ex r.View ⟨aH hz1 rfl,?_⟩
 refine aC (vw (h.new hn1)) ?_
 rintro x w2 ⟨rfl,hn2⟩
 have hn02:=hn1.new hn2
 refine ⟨_,rfl,bQ (λhv=>?_) (λhv=>?_)⟩
 ·have e:fZ j gn ds=(j.valid,[]):=by unfold fZ;rw [if_pos hv]
  exact ⟨hn02,.inr ⟨λha=>hv ha.1,none,0,by rw [e];rfl,by rw [e];exact .inl rfl⟩⟩
 have hv:j.valid=0:=by omega
 obtain ⟨hnum,⟨m,hm,hmn⟩,hl1024,hlines⟩:=vD hv
 obtain ⟨MM,hview⟩:=h.view
 have hnumr:=hview.num
 have hll:=h.len
 have y1:=New.blk hn2 hz1
 have hs02:=hn02.size
 refine aW mix (λq env z=>∃ (i:Nat) (a:Option Addr) (cap:Nat) (jj:List Value),q=j.lines.length - i∧i≤j.lines.length∧env=eX r.Lines r.Lines_l r.Lines_c ga gn gc ⟨b1,0,none⟩ a i cap i jj∧New w2 z∧Owns z TVb 9 a i cap (je (fB r.View.Number m (j.lines.take i))).flatten∧∀ k,isB a k→w2.heap.size≤k) j.lines.length
  ⟨0,none,0,_,by omega,by omega,rfl,Keep.refl _ _,Owns.nil _ _ _,λk hk=>absurd hk noB⟩ ?_
 rintro q env z ⟨i,a,cap,jj,rfl,hi,rfl,hnz,hown,hfr⟩
 refine cH (P:=prog) (fn:=fRF) (R:=sV w j r.View.Number gn ds) (λ_ _=>rfl) ?_
 rw [mg]
 have hn0z:=hn02.new hnz
 have z1:=New.blk hnz y1
 have hsz:=hnz.size
 refine aD (λhq=>?_) (λhq=>?_)
 ·obtain ⟨l,hgl⟩:∃ l,j.lines[i]?=some l:=⟨_,List.getElem?_eq_getElem (by omega)⟩
  have hlr:=hlines l (List.mem_of_getElem? hgl)
  rintro u0 hw0
  have hn0:New z u0:=by rw [hw0];exact aT _
  clear hw0
  have z1:=New.blk hn0 z1
  have hn0u:=hn0z.new hn0
  have z1l:=z1.lt
  have hsy:∀ y,Keep (isB a) u0 y→New w y:=λy hy=>hn0u.trans hy λk hlt e=>by have:=hfr k e;omega
  have hb1a:¬ isB a b1:=λe=>by have:=hfr b1 e;have:=hz1.lt;have:=hn2.size;omega
  refine ⟨λy=>Keep (isB a) u0 y,Keep.refl _ _,aF.mk_ex r.View ⟨λy hy=>aH (Keep.blk hy z1 hb1a) rfl,_,_,_,λy hy=>(Keep.blk hy z1 hb1a).cell (i:=1) rfl,?_⟩⟩
  refine sR (cells:=aB.cells) aB.len (by omega) (S:=λy=>Keep (isB a) u0 y) (λy hy=>hview.rd.new (hsy y hy)) (Keep.refl _ _) (i:=0) hm rfl hview.len λb o hc=>aB.mk_ex m ⟨λy hy=>eb (hc y hy),?_⟩
  refine Fp (S:=λy=>Keep (isB a) u0 y) (λy hy=>h.rd.new (hsy y hy)) (Keep.refl _ _) hgl rfl hll λb o hc=>⟨_,λy hy=>hc y hy,?_⟩
  refine aC (tR u0 hlr.1 hlr.2) ?_
  rintro x u1 ⟨rfl,e⟩
  subst e
  refine ⟨_,rfl,Keep.refl _ _,?_⟩
  refine aC (EN u1 (r:=r.View) (m:=m) (by omega) (by omega) (l * 8)) ?_
  rintro x u3 ⟨rfl,hn5'⟩
  refine aU.mk_ex (fV r.View.Number m (l * 8)) ⟨rfl,Keep.of_new hn5',?_⟩
  rintro b5 u4 hb5 hw5
  obtain ⟨hz5,hn6⟩:=aR hb5 hw5
  have hz5:Blk u4 b5 (fV r.View.Number m (l * 8)).cells TVb:=hz5
  clear hw5
  have hnn:=(hn0.new hn5').new hn6
  have hsn:=hnn.size
  refine ⟨Keep.of_new (hn5'.new hn6),Di (m:=1) (l2:=[fV r.View.Number m (l * 8)]) (Owns.new hnn hown) (fM hz5 rfl) rfl (by omega) λap cap' u5 ho hk hap=>?_⟩
  rw [←AM r.View.Number m hgl] at ho
  rw [w64 (x:=(i:Int)+1) (by omega) (by omega)]
  refine ⟨(Keep.of_new (hn5'.new hn6)).trans hk λ_ _ e=>e,bF ⟨j.lines.length - (i+1),by omega,i+1,ap,cap',_,rfl,by omega,rfl,(hnz.new hnn).trans hk λk hlt e=>by have:=hfr k e;omega,ho,λk hk'=>?_⟩⟩
  rcases hap k hk' with e | e
  ·exact hfr k e
  ·omega
 have hie:i=j.lines.length:=by omega
 subst hie
 rw [List.take_of_length_le (Nat.le_refl _)] at hown
 refine ph (j8 (bF ?_))
 refine cH (P:=prog) (fn:=fRF) (R:=sV w j r.View.Number gn ds) (λ_ _=>rfl) ?_
 rw [oq]
 refine aC (AP (w0:=w) hn0z hown.rd (λk hk=>Owns.lt hown hk) hg) ?_
 rintro x u1 ⟨hn4,hcase⟩
 have hn01:=hn0z.new hn4
 have miss:¬ vC j gn→fZ j gn ds=(6,[])→∀ w',New w w'→sV w j r.View.Number gn ds (.tuple #[.slice none 0 0,.int .i64 6,.slice none 0 0,.bool true]) w':=λhna e w' hn'=>⟨hn',.inr ⟨hna,none,0,by rw [e];rfl,by rw [e];exact .inl rfl⟩⟩
 by_cases hne:j.lines=[]
 ·have hl0:j.lines.length=0:=by rw [hne];rfl
  have hM:fZ j gn ds=if gn=0 then (0,[]) else (6,[]):=by unfold fZ;rw [if_neg (by omega),if_pos hne]
  have hna:¬ vC j gn:=λha=>ha.2.1 hne
  rcases hcase with ⟨_,rfl⟩ | ⟨e,_⟩ | ⟨e,_⟩ | ⟨e,_⟩
  case inr.inl=>exact absurd hne e
  case inr.inr.inl=>exact absurd hne e
  case inr.inr.inr=>exact absurd hne e
  refine ⟨_,_,_,_,_,rfl,eE rfl ?_⟩
  by_cases hg0:gn=0
  ·rw [if_pos hg0] at hM
   rw [decide_eq_true hg0]
   refine eE rfl ?_
   refine aC (yW (raw:=[]) (ds:=[]) rfl (.inl rfl) ⟨rfl,λi v x hv=>by simp at hv⟩ (by simp)) ?_
   rintro x u2 ⟨rfl,hn5⟩
   refine ⟨_,rfl,bQ (λe=>absurd rfl e) (λ_=>?_)⟩
   refine rf1 (R:=sV w j r.View.Number gn ds) (raw:=[]) (ds:=[]) (hn01.new hn5) h.rd hll h.few rfl (.inl rfl) ⟨rfl,λi v x hv=>by simp at hv⟩ hl0.symm (λd hd=>by cases hd) (λ_ _=>rfl) (λw' pa pc hn' hp=>?_) _
   have e:gR j.lines []=[]:=by unfold gR;simp
   rw [e] at hp ⊢
   exact ⟨hn',.inr ⟨hna,pa,pc,by rw [hM],by rw [hM];exact .inl rfl⟩⟩
  ·rw [if_neg hg0] at hM
   rw [decide_eq_false hg0]
   exact cM rfl (miss hna hM u1 hn01)
 ·have hM:fZ j gn ds=if fitF j.lines ds∧gn=1 then (if fR ds≠0 then (fR ds,[]) else (0,gR j.lines ds)) else (6,[]):=by unfold fZ;rw [if_neg (by omega),if_neg hne]
  rcases hcase with ⟨e,_⟩ | ⟨_,hg0,f,rfl⟩ | ⟨_,hg0,hfit,rfl⟩ | ⟨_,hg0,hfit,rfl⟩
  ·exact absurd e hne
  ·refine ⟨_,_,_,_,_,rfl,cM rfl ⟨hn01,.inl ⟨⟨hv,hne,hg0⟩,m,a,cap,hm,rfl,hown.rd.new hn4,λk hb=>⟨?_,?_⟩⟩⟩⟩
   ·have:=hfr k hb;omega
   ·have:=Owns.lt hown hb;have:=hn4.size;omega
  ·have hna:¬ vC j gn:=λha=>hg0 ha.2.2
   refine ⟨_,_,_,_,_,rfl,eE rfl ?_⟩
   by_cases hg1:gn=1
   ·rw [if_pos ⟨hfit,hg1⟩] at hM
    rw [decide_eq_true hg1]
    refine eE rfl ?_
    have hgt:=hg hg0
    have hlen:raw.length=j.lines.length:=by
     have:=hfit.1
     have:=hgt.ds.1
     rw [List.length_map] at *
     omega
    refine aC (yW hgt.len (hgt.rd.new hn01) (hgt.ds.new hn01) hgt.few) ?_
    rintro x u2 ⟨rfl,hn5⟩
    refine ⟨_,rfl,bQ (λhf=>?_) (λhf=>?_)⟩
    ·rw [if_pos hf] at hM
     exact ⟨hn01.new hn5,.inr ⟨hna,none,0,by rw [hM];rfl,by rw [hM];exact .inl rfl⟩⟩
    ·rw [if_neg (by omega)] at hM
     refine rf1 (R:=sV w j r.View.Number gn ds) (hn01.new hn5) h.rd hll h.few hgt.len hgt.rd hgt.ds hlen (yZ hfit (by omega)) (λ_ _=>rfl) (λw' pa pc hn' hp=>?_) _
     exact ⟨hn',.inr ⟨hna,pa,pc,by rw [hM],by rw [hM];exact hp⟩⟩
   ·rw [if_neg λe=>hg1 e.2] at hM
    rw [decide_eq_false hg1]
    exact cM rfl (miss hna hM u1 hn01)
  ·have hna:¬ vC j gn:=λha=>hg0 ha.2.2
   rw [if_neg λe=>hfit e.1] at hM
   exact ⟨_,_,_,_,_,rfl,eE rfl (cM rfl (miss hna hM u1 hn01))⟩
end Go.Proofs.YtafopfaomkklpaaGreat
