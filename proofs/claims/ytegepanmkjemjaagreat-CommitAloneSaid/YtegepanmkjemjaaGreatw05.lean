import Derived.Test.YtegepanmkjemjaaGreatw04
import Derived.OwnWalkIn
import Derived.TacticsInMore
import Derived.WalkKit
import Derived.Shelf.Abstract
set_option linter.unusedVariables false
namespace Go.Proofs.YtegepanmkjemjaaGreat
open Go.Proofs.Tryz
open Go.Eng Go.RowKit Go.Shelf
abbrev TSP:TypeId:=212
theorem zo (ps:List (Int×Int)) (p:Int×Int):(tX (ps++[p])).flatten=(tX ps).flatten++[.int .i64 p.1,.int .i64 p.2]:=by simp [tX]
def PcI (w:World) (b2 B:Nat) (pre:List (Int×Int)) (u:World):Prop:=
 ∃ a cap,Blk u b2 [.slice a pre.length cap] TSP∧Owns u TPc 2 a pre.length cap (tX pre).flatten∧(∀ k,isB a k→w.heap.size≤k∧k≠b2)∧Go.Eng.New w u∧B≤u.heap.size
theorem Aw {W W':World} {row:Option Nat} {B k:Nat} {cs:List Value} {T:TypeId} (hr:∀ r,row=some r→B≤r∧∃ o:Obj,W.heap[r]?=some o∧o.isCells=false) (hb:Blk W k cs T):some k≠row:=by
 intro h
 obtain ⟨_,o,ho,hc⟩:=hr k h.symm
 rw [show W.heap[k]?=_ from hb] at ho
 cases ho
 simp [Obj.isCells] at hc
theorem Ej {w:World} {b2 B:Nat} (hB:w.heap.size≤B):OwnFrom B (PcI w b2 B):=by
 rintro pre W W' row ⟨a,cap,hb,ho,ha,hn,hs⟩ hg hr
 have hk:=ly hg
 refine ⟨a,cap,hk.blk hb (Aw (W':=W') hr hb),?_,ha,hn.trans hk (λk hk' e=>?_),Nat.le_trans hs hg.size⟩
 ·refine ⟨ho.1,?_⟩
  rcases ho.2 with h | ⟨g,cur,he,hg2,rest⟩
  ·exact .inl h
  ·exact .inr ⟨g,cur,he,hk.blk hg2 (Aw (W':=W') hr hg2),rest⟩
 ·have:=(hr k e.symm).1
  omega
def vT (v:Value) (b1 b2 b4 Bn:Nat) (x:Int×Int):List Value:=
 [v,.pointer (some ⟨b1,0,none⟩),.slice none 0 0,.pointer (some ⟨b2,0,none⟩),.pointer (some ⟨b4,0,none⟩),v,.func (.func 191) #[] #[.pointer (some ⟨Bn,0,none⟩)],.agg #[.int .i64 x.1,.int .i64 x.2],undef,undef,undef,undef,undef]
theorem rO {M:Nat→Prop} {B:Nat} {W W':World} (h:Keep M W W') (hM:∀ k,M k→∃ cs T,Blk W k cs T):KeepsFrom B W W':=
 ⟨h.size,λk o _ hk ho=>by
  refine (h.block k (Array.getElem?_eq_some_iff.1 hk).1 (λhm=>?_)).trans hk
  obtain ⟨cs,T,hb⟩:=hM k hm
  rw [show W.heap[k]?=_ from hb] at hk
  cases hk
  simp [Obj.isCells] at ho⟩
theorem Ax {N:List Value→World→Prop} {K:Act→World→Prop} {Q:Exit→Act→World→Prop} (h:∀ env w,N env w→K (act env) w):∀ e a w,xC (seqQ N (λ_ _ _=>False)) e a w→Exit.then K Q e a w:=by
 intro e a w h0
 obtain ⟨he,env,rfl,hq⟩:=kK h0
 cases e with
 |normal=>exact h _ _ hq
 |panic c=>exact absurd rfl (he.1 c)
 |outgrown=>exact absurd rfl he.2
 | _=>exact hq.elim
set_option maxRecDepth 100000 in
theorem xI (w w3:World) (v:aL) (b1 b2 Bn:Nat) (ha0:0≤v.At) (ha1:v.At≤1000000) (hc0:1≤v.count) (hc1:v.count≤1000000)
  (hb2:Blk w3 b2 [.slice none 0 0] TSP) (hBn:Blk w3 Bn v.cells TV) (hsz:w3.heap.size=Bn+1) (hn:Go.Eng.New w w3) (hle:w.heap.size≤b2) (Q:Exit→Act→World→Prop)
  (hQ:∀ D W,w3.heap.size≤D→PcI w b2 w3.heap.size v.pieces W→W.heap[D]?=some (.deferred (some []))→Q .normal { tmps:=(vT v.val b1 b2 0 Bn (0,0)).toArray.setIfInBounds 4 undef |>.setIfInBounds 7 undef,defers:=[{ target:=.collected D,args:=#[] }] } W) :
  (Code.rangeFunc (.tmp 6) #[7] (sub (aD f116) [1,1,0,1,0,0]) (.block 1 (sub (aD f116) [1,1,0,1,0,1,0]))).wpIn Fence.wide 3 prog Q
   {tmps:=(vT v.val b1 b2 0 Bn (0,0)).toArray.setIfInBounds 4 undef |>.setIfInBounds 7 undef,defers:=[] } w3:=by
 have hw3:w.heap.size≤w3.heap.size:=hn.size
 obtain ⟨inf,hi,hz,hsi,hby⟩:=j8 (T:=TPc) (z:=.agg #[.int .i64 0,.int .i64 0]) (n:=2) (m:=16) (by kernel_rfl)
 have hplen:v.pieces.length≤1000000:=by have:=jO v.count.toNat v.At v.count;unfold aL.pieces;omega
 refine wpIn_rangeFunc_ownH rfl (by omega) (gf:=191) (lb:=#[.pointer (some ⟨Bn,0,none⟩)]) rfl trivial (enters_of Tryz.func191 (by kernel_rfl) rfl)
  (encs:=encP) (Kp:=Below w.heap.size) (S:=λys=>ys=v.pieces) (Sp:=λpre=>pre <+: v.pieces) (N:=v.pieces.length) (w0:=w3)
  (λl J Jx W hW hJ hJx hY h0=>zm 2 l Bn w.heap.size v J Jx ha0 ha1 hc0 hc1 W hJ hY (λu hu=>?_) (by have:=hW.size;omega) h0)
  belowK_t (belowK_b (by omega)) (Below.refl _ _) (λ_=>rfl) (PcI w b2 w3.heap.size) (λ_ _ _=>False) (Ej hw3) (λ_ _ _ _ _ hs _ _=>hs)
  ⟨none,0,hb2,Owns.nil _ _ _,(λk hk=>by obtain ⟨o,ho⟩:=hk;cases ho),hn,Nat.le_refl _⟩
  (λx a' W=>∃ b4,a'=act (vT v.val b1 b2 b4 Bn x)∧Blk W b4 [.int .i64 x.1,.int .i64 x.2] TPc) ?own ?assign ?body ?done ?stop
 ·have h2:=hsz▸hW
  have h3:Blk u Bn v.cells TV:=by
   show u.heap[Bn]?=_
   rw [hu.block Bn (by omega),hW.block Bn (by omega)]
   exact hBn
  exact vbox h3
 case own=>
  rintro x a' _ W W' row ⟨b4,ha,hb⟩ hg hr
  exact ⟨b4,ha,(ly hg).blk hb (Aw (W':=W') hr hb)⟩
 case assign=>
  intro l pre x W K hI hK
  suffices hs:∀ a:Act,a=act ((vT v.val b1 b2 0 Bn x).set 4 undef)→Code.wpIn (Fence.wide.inRound l) (3 - 1 - 1) prog (sub (aD f116) [1,1,0,1,0,0]) (Exit.then K (λ_ _ _=>False)) a W from hs _ (by kernel_rfl)
  rintro _ rfl
  refine wpIn_mono (Av (by kernel_rfl) l _ (Q:=seqQ (λenv u=>K (act env) u) (λ_ _ _=>False)) (env:=(vT v.val b1 b2 0 Bn x).set 4 undef) ?_) (Ax λ_ _ h=>h)
  refine Eq.mpr (GN v.val (.slice none 0 0) (.pointer (some ⟨b1,0,none⟩)) v.val (.func (.func 191) #[] #[.pointer (some ⟨Bn,0,none⟩)]) b2 x W _) ?_
  rintro b4 w1 hb4 hw1
  obtain ⟨hz1,hn1⟩:=aN hb4 hw1
  refine ⟨bZ hz1 (by simp) (by intro u hu;rcases List.mem_cons.1 hu with rfl | hu;rfl;simp at hu;subst hu;rfl),?_⟩
  rintro w2 hw2
  have hz2:Blk w2 b4 [.int .i64 x.1,.int .i64 x.2] TPc:=by
   rw [hw2];exact hz1.puts
  have hk:Go.Eng.New W w2:=by
   rw [hw2]
   refine hn1.trans (cT _ _ _ _ _) (λk hk e=>?_)
   omega
  obtain ⟨a,cap,hbI,hoI,haI,hnI,hsI⟩:=hI
  refine hK _ _ (rO hk (λk h=>h.elim)) (hk.below hnI.size (λ_ _ h=>h)) ⟨a,cap,New.blk hk hbI,Owns.new hk hoI,haI,hnI.new hk,Nat.le_trans hsI hk.size⟩ ⟨b4,rfl,hz2⟩
 case body=>
  rintro l pre x a' W hl _ hI ⟨b4,rfl,hb4⟩ hlt
  refine wpIn_block ?_
  refine wpIn_mono (Av (by kernel_rfl) l _ (Q:=seqQ (λenv u=>KeepsFrom w3.heap.size W u∧Below w.heap.size W u∧PcI w b2 w3.heap.size (pre++[x]) u) (λ_ _ _=>False)) (env:=vT v.val b1 b2 b4 Bn x) ?_) ?_
  ·refine Eq.mpr (GO v.val (.slice none 0 0) (.pointer (some ⟨b1,0,none⟩)) v.val (.func (.func 191) #[] #[.pointer (some ⟨Bn,0,none⟩)]) (.agg #[.int .i64 x.1,.int .i64 x.2]) b2 b4 W _) ?_
   obtain ⟨a,cap,hbI,hoI,haI,hnI,hsI⟩:=hI
   refine ⟨a,pre.length,cap,hbI.cell rfl,x.1,x.2,aK hb4 (by simp),?_⟩
   rintro b5 w5 hb5 hw5
   obtain ⟨hz5,hn5⟩:=aN hb5 hw5
   have hown:=Owns.new hn5 hoI
   rw [←hsi] at hown
   obtain ⟨ap,cap',w7,hrun,hown7,hk7,hap⟩:=Owns.append (P:=prog) (t:=TSP) (ty:=TSP) Tryz.underlying212 hi hz (by rw [hsi];rfl) (by omega) hown
    (s:=some ⟨b5,0,none⟩) (m:=1) (c:=1) (news:=[.int .i64 x.1,.int .i64 x.2]) (by rw [hsi];rfl) (fG hz5 (by simp)) (by intro u hu;rcases List.mem_cons.1 hu with rfl | hu;rfl;simp at hu;subst hu;rfl) (by omega) (by rw [hby];omega)
   rw [hsi] at hown7
   have hnb:¬ isB a b2:=λh=>(haI b2 h).2 rfl
   have hb7:Blk w7 b2 [.slice a pre.length cap] TSP:=hk7.blk (New.blk hn5 hbI) hnb
   refine ⟨ap,pre.length+1,cap',w7,hrun,⟨_,hb7.cell rfl⟩,hb7.frozen,?_⟩
   rintro w8 hw8
   have hk8:Keep (λk=>k=b2) w7 w8:=by rw [hw8];exact aR _ _ _ _
   have hb8:Blk w8 b2 [.slice ap (pre.length+1) cap'] TSP:=by rw [hw8];exact hb7.setCell _
   have hb2lt:b2<W.heap.size:=hbI.lt
   have hapb:∀ k,isB ap k→w.heap.size≤k∧k≠b2:=by
    intro k hk
    rcases hap with e | e
    ·exact haI k (e▸hk)
    ·obtain ⟨o,ho⟩:=hk
     rw [e] at ho
     simp at ho
     have:=hn5.size
     omega
   have hkk:Keep (λk=>isB a k∨k=b2) W w8:=(((Keep.of_new hn5).trans hk7 (λ_ _ h=>.inl h)).trans hk8 (λ_ _ h=>.inr h))
   refine ⟨rO hkk (λk hk=>?_),hkk.below hnI.size (λk hk hm=>?_),ap,cap',?_,?_,hapb,?_,Nat.le_trans hsI hkk.size⟩
   ·rcases hk with hk | rfl
    ·rcases hoI.2 with ⟨he,_⟩ | ⟨g,cur,he,hg,_⟩
     ·obtain ⟨o,ho⟩:=hk;rw [he] at ho;cases ho
     ·obtain ⟨o,ho⟩:=hk
      rw [he] at ho
      simp at ho
      exact ⟨cur,_,ho.1▸hg⟩
    ·exact ⟨_,_,hbI⟩
   ·rcases hm with hm | rfl
    ·have:=(haI k hm).1;omega
    ·omega
   ·simpa using hb8
   ·rw [zo]
    have:=Owns.keep hk8 hown7 (λk hk=>(hapb k hk).2)
    simpa using this
   ·refine hnI.trans hkk (λk hk hm=>?_)
    rcases hm with hm | rfl
    ·have:=(haI k hm).1;omega
    ·omega
  ·intro e a w h0
   obtain ⟨he,env,rfl,hq⟩:=kK h0
   cases e with
   |normal=>exact hq
   |panic c=>exact absurd rfl (he.1 c)
   |outgrown=>exact absurd rfl he.2
   | _=>exact hq.elim
 case done=>
  rintro D ys W hD rfl hI hK
  exact hQ D W hD hI hK
 case stop=>
  rintro D c pre W _ _ h _
  exact h.elim
abbrev Ay (v:Value) (b1 b2 Bn:Nat):Array Value:=(vT v b1 b2 0 Bn (0,0)).toArray.setIfInBounds 4 undef |>.setIfInBounds 7 undef
set_option maxRecDepth 100000 in
theorem xJ (v:Value) (b1 b2 Bn D:Nat) (R:Ending→World→Prop) (W:World) (a:Option Addr) (n cap:Nat) (hb:Blk W b2 [.slice a n cap] TSP) (hK:W.heap[D]?=some (.deferred (some []))) (hR:R (.returned (.slice a n cap)) (W.putObj D (.deferred none))) :
  (sub (aD f116) [1,1,1]).wpIn Fence.wide 3 prog (bodyPostM Fence.wide 3 prog f116 R) { tmps:=Ay v b1 b2 Bn,defers:=[{ target:=.collected D,args:=#[] }] } W:=by
 have hc:W.cell? ⟨b2,0,none⟩=some (.slice a n cap):=hb.cell rfl
 simp only [aD,sub,f116,Ay,vT]
 gi_wp2
 refine ⟨by simp,.inl ⟨_,_,rfl,run_takeDeferred hK,?_⟩⟩
 exact ⟨_,results_tmp (t:=2) rfl _ _ _,hR⟩
theorem Cr (w:World) (v:aL) (ha0:0≤v.At) (ha1:v.At≤1000000) (hc0:1≤v.count) (hc1:v.count≤1000000):Does 116 [v.val] w λx w'=>
  ∃ a cap,x=.slice a v.pieces.length cap∧Owns w' TPc 2 a v.pieces.length cap (tX v.pieces).flatten∧Go.Eng.New w w'∧(∀ k,isB a k→w.heap.size≤k):=by
 refine (callsIn_wide (n:=3)).1 ?_
 refine callsIn_of_wp_marks (c:=.seq (sub (aD f116) [0]) (.seq (sub (aD f116) [1,0]) (.seq (.seq (sub (aD f116) [1,1,0,0]) (.block 0 (.rangeFunc (.tmp 6) #[7] (sub (aD f116) [1,1,0,1,0,0]) (.block 1 (sub (aD f116) [1,1,0,1,0,1,0]))))) (sub (aD f116) [1,1,1])))) Tryz.func116 (by kernel_rfl) trivial ?_ rfl
 suffices hs:∀ a:Act,a=act [v.val,undef,undef,undef,undef,undef,undef,undef,undef,undef,undef,undef,undef]→Code.wpIn Fence.wide 3 prog _ _ a w from hs _ (by kernel_rfl)
 rintro _ rfl
 refine wpIn_wide.2 ?_
 refine Ei mix (N:=λenv u=>∃ b1,env=[v.val,.pointer (some ⟨b1,0,none⟩),.slice none 0 0,undef,undef,undef,undef,undef,undef,undef,undef,undef,undef]∧b1=w.heap.size∧Blk u b1 v.cells TV∧Go.Eng.New w u∧u.heap.size=b1+1) ?_ ?_
 ·rw [P_r0]
  rintro b1 w1 hb hw
  obtain ⟨hz,hn⟩:=aN hb hw
  exact ⟨b1,rfl,hb,hz,hn,by rw [hw,hb];simp⟩
 rintro _ w1 ⟨b1,rfl,hb1,hz1,hn1,hs1⟩
 refine Ei mix (N:=λenv u=>∃ b2,env=[v.val,.pointer (some ⟨b1,0,none⟩),.slice none 0 0,.pointer (some ⟨b2,0,none⟩),undef,undef,undef,undef,undef,undef,undef,undef,undef]∧b2=w1.heap.size∧Blk u b2 [.slice none 0 0] TSP∧Blk u b1 v.cells TV∧Go.Eng.New w u) ?_ ?_
 ·rw [P_r1]
  rintro b2 w2 hb hw
  obtain ⟨hz,hn⟩:=aN hb hw
  exact ⟨b2,rfl,hb,hz,New.blk hn hz1,hn1.new hn⟩
 rintro _ w2 ⟨b2,rfl,hb2,hz2,hz12,hn2⟩
 refine wp_seq ?_
 refine Ei mix (N:=λenv u=>∃ Bn,env=[v.val,.pointer (some ⟨b1,0,none⟩),.slice none 0 0,.pointer (some ⟨b2,0,none⟩),undef,v.val,.func (.func 191) #[] #[.pointer (some ⟨Bn,0,none⟩)],undef,undef,undef,undef,undef,undef]∧Blk u b2 [.slice none 0 0] TSP∧Blk u Bn v.cells TV∧u.heap.size=Bn+1∧Go.Eng.New w u) ?_ ?_
 ·rw [P_r2]
  refine ng (v:=v) (vbox hz12) ?_
  refine aE (Cq _ v) ?_
  rintro r w3 ⟨rfl,hbx,hn3,hs3⟩
  exact ⟨_,rfl,w2.heap.size,rfl,New.blk hn3 hz2,hbx,hs3,hn2.new hn3⟩
 rintro _ w3 ⟨Bn,rfl,hz3,hbx,hs3,hn3⟩
 refine (wpIn_wide (n:=3)).1 (wpIn_block ?_)
 refine xI w w3 v b1 b2 Bn ha0 ha1 hc0 hc1 hz3 hbx hs3 hn3 (by rw [hb2];exact hn1.size) _ ?_
 rintro D W hD ⟨a,cap,hb,ho,ha,hn,hs⟩ hK
 refine (wpIn_wide (n:=3)).1 (xJ v.val b1 b2 Bn D _ W a _ cap hb hK ?_)
 have hkD:Go.Eng.New w (W.putObj D (.deferred none)):=by
  refine hn.trans (ly (grownBy_putObj' W D _)) (λk hk e=>?_)
  simp at e
  have:=hn3.size
  omega
 have hblk:∀ k cs T,Blk W k cs T→Blk (W.putObj D (.deferred none)) k cs T:=by
  intro k cs T hb
  refine (ly (grownBy_putObj' W D (.deferred none))).blk hb (λe=>?_)
  simp at e
  subst e
  rw [show W.heap[k]?=_ from hb] at hK
  cases hK
 refine ⟨_,rfl,a,cap,rfl,?_,hkD,λk hk=>(ha k hk).1⟩
 refine ⟨ho.1,?_⟩
 rcases ho.2 with h | ⟨g,cur,he,hg,rest⟩
 ·exact .inl h
 ·exact .inr ⟨g,cur,he,hblk _ _ _ hg,rest⟩
theorem Cs (w:World) (v:aL) (ha0:0≤v.At) (ha1:v.At≤1000000) (hc0:1≤v.count) (hc1:v.count≤1000000):Does 116 [v.val] w λx w'=>
  ∃ a cap,x=.slice a v.pieces.length cap∧Rd w' a (tX v.pieces).flatten∧Go.Eng.New w w'∧(∀ k,isB a k→w.heap.size≤k):=
 Calls.mono (Cr w v ha0 ha1 hc0 hc1) λe w' ⟨x,he,a,cap,hx,ho,hn,hk⟩=>⟨x,he,a,cap,hx,Owns.rd ho,hn,hk⟩
end Go.Proofs.YtegepanmkjemjaaGreat
