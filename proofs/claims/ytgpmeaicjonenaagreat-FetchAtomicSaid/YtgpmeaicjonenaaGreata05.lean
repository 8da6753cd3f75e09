import Derived.Test.YtgpmeaicjonenaaGreata04
import Derived.OwnWalkIn
import Derived.TacticsInMore
import Derived.WalkKit
import Derived.Shelf.Abstract
set_option linter.unusedVariables false
namespace Go.Proofs.YtgpmeaicjonenaaGreat
open Go.Proofs.Tryz
open Go.Eng Go.RowKit
theorem Do {P:Program} (hm:P.follows .mixedOrders=true) {a b:Code} {env:List Value} {w:World} {Q:Exit→Act→World→Prop} {N:List Value→World→Prop} (h:W P a env (seqQ N (λ_ _ _=>False)) w) (hN:∀ env w,N env w→b.wp P Q (act env) w):(Code.seq a b).wp P Q (act env) w:=by
 refine wp_seq (wp_mono (mO hm a env _ w h) λe a' w' hq0=>?_)
 obtain ⟨he,env',ha,hq⟩:=ku hq0
 subst ha
 clear hq0
 cases e with
 |normal=>exact hN env' w' hq
 |panic c=>exact absurd rfl (he.1 c)
 |outgrown=>exact absurd rfl he.2
 | _=>exact hq.elim
theorem BG (w:World) (v:aJ):Does 148 [v.val] w λr w'=>r=.func (.func 200) #[] #[.pointer (some ⟨w.heap.size,0,none⟩)]∧Blk w' w.heap.size v.cells TV∧Go.Eng.New w w'∧w'.heap.size=w.heap.size+1:=by
 refine does Tryz.func148 ?_
 refine Eq.mpr (sO v.Kind v.Node v.At v.N v.Old v.New v.Words v.Wl v.Wc v.Key v.Boot w _) ?_
 rintro b1 w1 hb1 hw1
 obtain ⟨hz,hn⟩:=aO hb1 hw1
 refine ⟨by rw [hb1],hb1▸hz,hn,by rw [hw1];simp⟩
theorem P_r0 (v:aJ) (w:World) (N:List Value→World→Prop):W prog (sub (aD f106) [0]) [v.val,undef,undef,undef,undef,undef,undef,undef,undef,undef,undef,undef,undef] (seqQ N (λ_ _ _=>False)) w =
  (∀ b1 w1,b1=w.heap.size→w1=w.alloc (.cells v.cells.toArray 173)→N [v.val,.pointer (some ⟨b1,0,none⟩),.slice none 0 0,undef,undef,undef,undef,undef,undef,undef,undef,undef,undef] w1):=by kernel_rfl
theorem P_r1 (v x:Value) (b:Nat) (w:World) (N:List Value→World→Prop):W prog (sub (aD f106) [1,0]) [v,.pointer (some ⟨b,0,none⟩),x,undef,undef,undef,undef,undef,undef,undef,undef,undef,undef] (seqQ N (λ_ _ _=>False)) w =
  (∀ b1 w1,b1=w.heap.size→w1=w.alloc (.cells #[.slice none 0 0] 198)→N [v,.pointer (some ⟨b,0,none⟩),x,.pointer (some ⟨b1,0,none⟩),undef,undef,undef,undef,undef,undef,undef,undef,undef] w1):=by kernel_rfl
def wG (o:Oper):Bool:=match o.op with | .defer _=>false | _=>true
def plain:Code→Bool
 | .region _ ops false=>ops.toList.all wG
 | _=>false
theorem yy {P:Program} {o:Oper} {a:Act} {next next':Act→World→Prop} {Q:Exit→Act→World→Prop} (r n:Nat) (hn:∀ a w,next a w→next' a w):∀ {x:Result Next},o.uponIn Fence.wide 0 P a next Q x→o.uponIn (Fence.wide.inRound r) n P a next' Q x
 | .ok (.value v) w',h=>hn _ _ h
 | .ok .skip w',h=>hn _ _ h
 | .ok (.defer d) w',h=>hn _ _ h
 | .ok (.enter f args) w',h=>by
  refine ⟨λhc=>by simp [Fence.wide] at hc,trivial,λcs _=>?_⟩
  obtain ⟨e,w2,fr,hr,hs,hx⟩:=h.2.2 cs (room_wide _)
  refine ⟨e,w2,fr,?_,hs,hx⟩
  cases e with
  |returned v=>exact hn _ _ hr
  |panicked c=>exact hr
  |outgrown=>exact hr
 | .ok (.row row args) w',h=>by
  refine ⟨λhc=>by simp [Fence.wide] at hc,λc cs _=>?_⟩
  obtain ⟨v,w2,hr,hs⟩:=h.2 c cs (room_wide _)
  exact ⟨v,w2,hn _ _ hr,hs⟩
 | .ok (.round l f tmps assign body) w',h=>by
  refine ⟨λhc=>by simp [Fence.wide] at hc,trivial,λc cs _=>?_⟩
  obtain ⟨e,w2,hr,hs⟩:=h.2.2 c cs (room_wide _)
  refine ⟨e,w2,?_,hs⟩
  cases e with
  |returned v=>exact hn _ _ hr
  |panicked c=>exact hr
  |outgrown=>exact hr
 | .halt (.panic v) w',h=>h
 | .halt (.stuck s) w',h=>by cases h
theorem tp {P:Program} {ops:Array Oper} {Q:Exit→Act→World→Prop} (r n:Nat):∀ (l:List Oper) (a:Act) (w:World),(∀ o ∈ l,wG o=true)→wpListIn Fence.wide 0 P ops Q l a w→wpListIn (Fence.wide.inRound r) n P ops Q l a w
 | [],_,_,_,h=>h
 |o::l,a,w,hd,h=>by
  have ih:=λa w=>tp (P:=P) (ops:=ops) (Q:=Q) r n l a w λo ho=>hd o (List.mem_cons_of_mem _ ho)
  unfold wpListIn at h ⊢
  split at h
  ·rename_i hw
   rw [if_pos hw]
   refine ⟨λ_ _=>trivial,?_⟩
   have h2:=h.2
   rw [show Fence.wide.round=none from rfl,Oper.semAt_none] at h2
   rw [show (Fence.wide.inRound r).round=some r from rfl,Oper.semAt_some _ _ _ (λc hc=>by have:=hd o List.mem_cons_self;simp [wG,hc] at this)]
   exact yy r n ih h2
  ·rename_i hw
   rw [if_neg hw]
   exact ⟨λ_ _=>trivial,ih _ _ h.2⟩
theorem zC {P:Program} {c:Code} (hp:plain c=true) {env:List Value} {Q:Exit→List Value→World→Prop} {w:World} (r n:Nat) (h:W P c env Q w):c.wpIn (Fence.wide.inRound r) n P (wB Q) (act env) w:=by
 cases c with
 |region id ops d=>
  cases d with
  |true=>simp [plain] at hp
  |false=>
   unfold W at h
   refine wpIn_region_list (tp r n _ _ _ (λo ho=>?_) (mN (all:=ops.toList) ops.toList env w (Q .normal) (λenv w hk=>dO hk ⟨λ_=>by simp,by simp⟩) h))
   simp only [plain,List.all_eq_true] at hp
   exact hp o ho
 | _=>simp [plain] at hp
theorem P_r2 (v x:Value) (b b2:Nat) (w:World) (N:List Value→World→Prop):W prog (sub (aD f106) [1,1,0,0]) [v,.pointer (some ⟨b,0,none⟩),x,.pointer (some ⟨b2,0,none⟩),undef,undef,undef,undef,undef,undef,undef,undef,undef] (seqQ N (λ_ _ _=>False)) w =
  (∃ (Kind:Int) (Node:Int) (At:Int) (N_:Int) (Old:Int) (New:Int) (Words:Option Addr) (Words_len:Nat) (Words_cap:Nat) (Key:Int) (Boot:Int),aC w ⟨b,0,none⟩ 0 [(.int .i64 Kind),(.int .i64 Node),(.int .i64 At),(.int .i64 N_),(.int .u64 Old),(.int .u64 New),(.slice Words Words_len Words_cap),(.int .u64 Key),(.int .i64 Boot)]∧
   Calls prog 148 #[(.agg #[(.int .i64 Kind),(.int .i64 Node),(.int .i64 At),(.int .i64 N_),(.int .u64 Old),(.int .u64 New),(.slice Words Words_len Words_cap),(.int .u64 Key),(.int .i64 Boot)])] w λe w3=>∃ r,e=.returned r∧
    N [v,.pointer (some ⟨b,0,none⟩),x,.pointer (some ⟨b2,0,none⟩),undef,(.agg #[(.int .i64 Kind),(.int .i64 Node),(.int .i64 At),(.int .i64 N_),(.int .u64 Old),(.int .u64 New),(.slice Words Words_len Words_cap),(.int .u64 Key),(.int .i64 Boot)]),r,undef,undef,undef,undef,undef,undef] w3):=by kernel_rfl
theorem FC (v x y z r:Value) (b2:Nat) (p:Int×Int) (w:World) (N:List Value→World→Prop):W prog (sub (aD f106) [1,1,0,1,0,0]) [v,y,x,.pointer (some ⟨b2,0,none⟩),undef,z,r,.agg #[.int .i64 p.1,.int .i64 p.2],undef,undef,undef,undef,undef] (seqQ N (λ_ _ _=>False)) w =
  (∀ b1 w1,b1=w.heap.size→w1=w.alloc (.cells #[.int .i64 0,.int .i64 0] TPc)→wrAt w1 ⟨b1,0,none⟩ 0 [.int .i64 p.1,.int .i64 p.2]∧∀ w2,w2=puts w1 ⟨b1,0,none⟩ 0 [.int .i64 p.1,.int .i64 p.2]→
   N [v,y,x,.pointer (some ⟨b2,0,none⟩),.pointer (some ⟨b1,0,none⟩),z,r,.agg #[.int .i64 p.1,.int .i64 p.2],undef,undef,undef,undef,undef] w2):=by kernel_rfl
theorem FD (v x y z r t:Value) (b2 b4:Nat) (w:World) (N:List Value→World→Prop):W prog (sub (aD f106) [1,1,0,1,0,1,0]) [v,y,x,.pointer (some ⟨b2,0,none⟩),.pointer (some ⟨b4,0,none⟩),z,r,t,undef,undef,undef,undef,undef] (seqQ N (λ_ _ _=>False)) w =
  (∃ (a:Option Addr) (n c:Nat),w.cell? ⟨b2,0,none⟩=some (.slice a n c)∧∃ (k1 k2:Int),aC w ⟨b4,0,none⟩ 0 [.int .i64 k1,.int .i64 k2]∧∀ b1 w1,b1=w.heap.size→w1=w.alloc (.cells #[.int .i64 k1,.int .i64 k2] TPc)→
   ∃ (ap:Option Addr) (ap_len ap_cap:Nat),∃ w2,(Builtin.append_ #[198,198] 198 #[(.slice a n c),(.slice (some ⟨b1,0,none⟩) 1 1)]).run prog w1=.ok (.slice ap ap_len ap_cap) w2∧
    (∃ u,w2.cell? ⟨b2,0,none⟩=some u)∧w2.frozen? ⟨b2,0,none⟩=false∧∀ w3,w3=w2.setCell ⟨b2,0,none⟩ (.slice ap ap_len ap_cap)→
    N [v,y,x,.pointer (some ⟨b2,0,none⟩),.pointer (some ⟨b4,0,none⟩),z,r,t,.slice a n c,.agg #[.int .i64 k1,.int .i64 k2],.slice (some ⟨b1,0,none⟩) 1 1,.slice ap ap_len ap_cap,undef] w3):=by kernel_rfl
end Go.Proofs.YtgpmeaicjonenaaGreat
namespace Go.Proofs.YtgpmeaicjonenaaGreat
open Go.Proofs.Tryz
open Go.Eng Go.RowKit Go.Shelf
abbrev TSP:TypeId:=198
theorem yz (ps:List (Int×Int)) (p:Int×Int):(sP (ps++[p])).flatten=(sP ps).flatten++[.int .i64 p.1,.int .i64 p.2]:=by simp [sP]
def PcI (w:World) (b2 B:Nat) (pre:List (Int×Int)) (u:World):Prop:=
 ∃ a cap,Blk u b2 [.slice a pre.length cap] TSP∧Owns u TPc 2 a pre.length cap (sP pre).flatten∧(∀ k,isB a k→w.heap.size≤k∧k≠b2)∧Go.Eng.New w u∧B≤u.heap.size
theorem zD {W W':World} {row:Option Nat} {B k:Nat} {cs:List Value} {T:TypeId} (hr:∀ r,row=some r→B≤r∧∃ o:Obj,W.heap[r]?=some o∧o.isCells=false) (hb:Blk W k cs T):some k≠row:=by
 intro h
 obtain ⟨_,o,ho,hc⟩:=hr k h.symm
 rw [show W.heap[k]?=_ from hb] at ho
 cases ho
 simp [Obj.isCells] at hc
theorem Dp {w:World} {b2 B:Nat} (hB:w.heap.size≤B):OwnFrom B (PcI w b2 B):=by
 rintro pre W W' row ⟨a,cap,hb,ho,ha,hn,hs⟩ hg hr
 have hk:=kU hg
 refine ⟨a,cap,hk.blk hb (zD (W':=W') hr hb),?_,ha,hn.trans hk (λk hk' e=>?_),Nat.le_trans hs hg.size⟩
 ·refine ⟨ho.1,?_⟩
  rcases ho.2 with h | ⟨g,cur,he,hg2,rest⟩
  ·exact .inl h
  ·exact .inr ⟨g,cur,he,hk.blk hg2 (zD (W':=W') hr hg2),rest⟩
 ·have:=(hr k e.symm).1
  omega
def vd (v:Value) (b1 b2 b4 Bn:Nat) (x:Int×Int):List Value:=
 [v,.pointer (some ⟨b1,0,none⟩),.slice none 0 0,.pointer (some ⟨b2,0,none⟩),.pointer (some ⟨b4,0,none⟩),v,.func (.func 200) #[] #[.pointer (some ⟨Bn,0,none⟩)],.agg #[.int .i64 x.1,.int .i64 x.2],undef,undef,undef,undef,undef]
theorem qP {M:Nat→Prop} {B:Nat} {W W':World} (h:Keep M W W') (hM:∀ k,M k→∃ cs T,Blk W k cs T):KeepsFrom B W W':=
 ⟨h.size,λk o _ hk ho=>by
  refine (h.block k (Array.getElem?_eq_some_iff.1 hk).1 (λhm=>?_)).trans hk
  obtain ⟨cs,T,hb⟩:=hM k hm
  rw [show W.heap[k]?=_ from hb] at hk
  cases hk
  simp [Obj.isCells] at ho⟩
theorem zE {N:List Value→World→Prop} {K:Act→World→Prop} {Q:Exit→Act→World→Prop} (h:∀ env w,N env w→K (act env) w):∀ e a w,wB (seqQ N (λ_ _ _=>False)) e a w→Exit.then K Q e a w:=by
 intro e a w h0
 obtain ⟨he,env,rfl,hq⟩:=ku h0
 cases e with
 |normal=>exact h _ _ hq
 |panic c=>exact absurd rfl (he.1 c)
 |outgrown=>exact absurd rfl he.2
 | _=>exact hq.elim
set_option maxRecDepth 100000 in
theorem wH (w w3:World) (v:aJ) (b1 b2 Bn:Nat) (ha0:0≤v.At) (ha1:v.At≤1000000) (hc0:1≤v.count) (hc1:v.count≤1000000)
  (hb2:Blk w3 b2 [.slice none 0 0] TSP) (hBn:Blk w3 Bn v.cells TV) (hsz:w3.heap.size=Bn+1) (hn:Go.Eng.New w w3) (hle:w.heap.size≤b2) (Q:Exit→Act→World→Prop)
  (hQ:∀ D W,w3.heap.size≤D→PcI w b2 w3.heap.size v.pieces W→W.heap[D]?=some (.deferred (some []))→Q .normal { tmps:=(vd v.val b1 b2 0 Bn (0,0)).toArray.setIfInBounds 4 undef |>.setIfInBounds 7 undef,defers:=[{ target:=.collected D,args:=#[] }] } W) :
  (Code.rangeFunc (.tmp 6) #[7] (sub (aD f106) [1,1,0,1,0,0]) (.block 1 (sub (aD f106) [1,1,0,1,0,1,0]))).wpIn Fence.wide 3 prog Q
   {tmps:=(vd v.val b1 b2 0 Bn (0,0)).toArray.setIfInBounds 4 undef |>.setIfInBounds 7 undef,defers:=[] } w3:=by
 have hw3:w.heap.size≤w3.heap.size:=hn.size
 obtain ⟨inf,hi,hz,hsi,hby⟩:=iF (T:=TPc) (z:=.agg #[.int .i64 0,.int .i64 0]) (n:=2) (m:=16) (by kernel_rfl)
 have hplen:v.pieces.length≤1000000:=by have:=jD v.count.toNat v.At v.count;unfold aJ.pieces;omega
 refine wpIn_rangeFunc_ownH rfl (by omega) (gf:=200) (lb:=#[.pointer (some ⟨Bn,0,none⟩)]) rfl trivial (enters_of Tryz.func200 (by kernel_rfl) rfl)
  (encs:=encP) (Kp:=Below w.heap.size) (S:=λys=>ys=v.pieces) (Sp:=λpre=>pre <+: v.pieces) (N:=v.pieces.length) (w0:=w3)
  (λl J Jx W hW hJ hJx hY h0=>yx 2 l Bn w.heap.size v J Jx ha0 ha1 hc0 hc1 W hJ hY (λu hu=>?_) (by have:=hW.size;omega) h0)
  belowK_t (belowK_b (by omega)) (Below.refl _ _) (λ_=>rfl) (PcI w b2 w3.heap.size) (λ_ _ _=>False) (Dp hw3) (λ_ _ _ _ _ hs _ _=>hs)
  ⟨none,0,hb2,Owns.nil _ _ _,(λk hk=>by obtain ⟨o,ho⟩:=hk;cases ho),hn,Nat.le_refl _⟩
  (λx a' W=>∃ b4,a'=act (vd v.val b1 b2 b4 Bn x)∧Blk W b4 [.int .i64 x.1,.int .i64 x.2] TPc) ?own ?assign ?body ?done ?stop
 ·have h2:=hsz▸hW
  have h3:Blk u Bn v.cells TV:=by
   show u.heap[Bn]?=_
   rw [hu.block Bn (by omega),hW.block Bn (by omega)]
   exact hBn
  exact vbox h3
 case own=>
  rintro x a' _ W W' row ⟨b4,ha,hb⟩ hg hr
  exact ⟨b4,ha,(kU hg).blk hb (zD (W':=W') hr hb)⟩
 case assign=>
  intro l pre x W K hI hK
  suffices hs:∀ a:Act,a=act ((vd v.val b1 b2 0 Bn x).set 4 undef)→Code.wpIn (Fence.wide.inRound l) (3 - 1 - 1) prog (sub (aD f106) [1,1,0,1,0,0]) (Exit.then K (λ_ _ _=>False)) a W from hs _ (by kernel_rfl)
  rintro _ rfl
  refine wpIn_mono (zC (by kernel_rfl) l _ (Q:=seqQ (λenv u=>K (act env) u) (λ_ _ _=>False)) (env:=(vd v.val b1 b2 0 Bn x).set 4 undef) ?_) (zE λ_ _ h=>h)
  refine Eq.mpr (FC v.val (.slice none 0 0) (.pointer (some ⟨b1,0,none⟩)) v.val (.func (.func 200) #[] #[.pointer (some ⟨Bn,0,none⟩)]) b2 x W _) ?_
  rintro b4 w1 hb4 hw1
  obtain ⟨hz1,hn1⟩:=aO hb4 hw1
  refine ⟨cK hz1 (by simp) (by intro u hu;rcases List.mem_cons.1 hu with rfl | hu;rfl;simp at hu;subst hu;rfl),?_⟩
  rintro w2 hw2
  have hz2:Blk w2 b4 [.int .i64 x.1,.int .i64 x.2] TPc:=by
   rw [hw2];exact hz1.puts
  have hk:Go.Eng.New W w2:=by
   rw [hw2]
   refine hn1.trans (dD _ _ _ _ _) (λk hk e=>?_)
   omega
  obtain ⟨a,cap,hbI,hoI,haI,hnI,hsI⟩:=hI
  refine hK _ _ (qP hk (λk h=>h.elim)) (hk.below hnI.size (λ_ _ h=>h)) ⟨a,cap,New.blk hk hbI,Owns.new hk hoI,haI,hnI.new hk,Nat.le_trans hsI hk.size⟩ ⟨b4,rfl,hz2⟩
 case body=>
  rintro l pre x a' W hl _ hI ⟨b4,rfl,hb4⟩ hlt
  refine wpIn_block ?_
  refine wpIn_mono (zC (by kernel_rfl) l _ (Q:=seqQ (λenv u=>KeepsFrom w3.heap.size W u∧Below w.heap.size W u∧PcI w b2 w3.heap.size (pre++[x]) u) (λ_ _ _=>False)) (env:=vd v.val b1 b2 b4 Bn x) ?_) ?_
  ·refine Eq.mpr (FD v.val (.slice none 0 0) (.pointer (some ⟨b1,0,none⟩)) v.val (.func (.func 200) #[] #[.pointer (some ⟨Bn,0,none⟩)]) (.agg #[.int .i64 x.1,.int .i64 x.2]) b2 b4 W _) ?_
   obtain ⟨a,cap,hbI,hoI,haI,hnI,hsI⟩:=hI
   refine ⟨a,pre.length,cap,hbI.cell rfl,x.1,x.2,aI hb4 (by simp),?_⟩
   rintro b5 w5 hb5 hw5
   obtain ⟨hz5,hn5⟩:=aO hb5 hw5
   have hown:=Owns.new hn5 hoI
   rw [←hsi] at hown
   obtain ⟨ap,cap',w7,hrun,hown7,hk7,hap⟩:=Owns.append (P:=prog) (t:=TSP) (ty:=TSP) Tryz.underlying198 hi hz (by rw [hsi];rfl) (by omega) hown
    (s:=some ⟨b5,0,none⟩) (m:=1) (c:=1) (news:=[.int .i64 x.1,.int .i64 x.2]) (by rw [hsi];rfl) (eQ hz5 (by simp)) (by intro u hu;rcases List.mem_cons.1 hu with rfl | hu;rfl;simp at hu;subst hu;rfl) (by omega) (by rw [hby];omega)
   rw [hsi] at hown7
   have hnb:¬ isB a b2:=λh=>(haI b2 h).2 rfl
   have hb7:Blk w7 b2 [.slice a pre.length cap] TSP:=hk7.blk (New.blk hn5 hbI) hnb
   refine ⟨ap,pre.length+1,cap',w7,hrun,⟨_,hb7.cell rfl⟩,hb7.frozen,?_⟩
   rintro w8 hw8
   have hk8:Keep (λk=>k=b2) w7 w8:=by rw [hw8];exact aR _ _ _ _
   have hb8:Blk w8 b2 [.slice ap (pre.length+1) cap'] TSP:=by rw [hw8];exact hb7.setCell _
   have hb2lt:b2<W.heap.size:=hbI.lt
   have hapb:∀ k,isB ap k→w.heap.size≤k∧k≠b2:=by
    intro k hk
    rcases hap with e | e
    ·exact haI k (e▸hk)
    ·obtain ⟨o,ho⟩:=hk
     rw [e] at ho
     simp at ho
     have:=hn5.size
     omega
   have hkk:Keep (λk=>isB a k∨k=b2) W w8:=(((Keep.of_new hn5).trans hk7 (λ_ _ h=>.inl h)).trans hk8 (λ_ _ h=>.inr h))
   refine ⟨qP hkk (λk hk=>?_),hkk.below hnI.size (λk hk hm=>?_),ap,cap',?_,?_,hapb,?_,Nat.le_trans hsI hkk.size⟩
   ·rcases hk with hk | rfl
    ·rcases hoI.2 with ⟨he,_⟩ | ⟨g,cur,he,hg,_⟩
     ·obtain ⟨o,ho⟩:=hk;rw [he] at ho;cases ho
     ·obtain ⟨o,ho⟩:=hk
      rw [he] at ho
      simp at ho
      exact ⟨cur,_,ho.1▸hg⟩
    ·exact ⟨_,_,hbI⟩
   ·rcases hm with hm | rfl
    ·have:=(haI k hm).1;omega
    ·omega
   ·simpa using hb8
   ·rw [yz]
    have:=Owns.keep hk8 hown7 (λk hk=>(hapb k hk).2)
    simpa using this
   ·refine hnI.trans hkk (λk hk hm=>?_)
    rcases hm with hm | rfl
    ·have:=(haI k hm).1;omega
    ·omega
  ·intro e a w h0
   obtain ⟨he,env,rfl,hq⟩:=ku h0
   cases e with
   |normal=>exact hq
   |panic c=>exact absurd rfl (he.1 c)
   |outgrown=>exact absurd rfl he.2
   | _=>exact hq.elim
 case done=>
  rintro D ys W hD rfl hI hK
  exact hQ D W hD hI hK
 case stop=>
  rintro D c pre W _ _ h _
  exact h.elim
abbrev zF (v:Value) (b1 b2 Bn:Nat):Array Value:=(vd v b1 b2 0 Bn (0,0)).toArray.setIfInBounds 4 undef |>.setIfInBounds 7 undef
set_option maxRecDepth 100000 in
theorem wI (v:Value) (b1 b2 Bn D:Nat) (R:Ending→World→Prop) (W:World) (a:Option Addr) (n cap:Nat) (hb:Blk W b2 [.slice a n cap] TSP) (hK:W.heap[D]?=some (.deferred (some []))) (hR:R (.returned (.slice a n cap)) (W.putObj D (.deferred none))) :
  (sub (aD f106) [1,1,1]).wpIn Fence.wide 3 prog (bodyPostM Fence.wide 3 prog f106 R) { tmps:=zF v b1 b2 Bn,defers:=[{ target:=.collected D,args:=#[] }] } W:=by
 have hc:W.cell? ⟨b2,0,none⟩=some (.slice a n cap):=hb.cell rfl
 simp only [aD,sub,f106,zF,vd]
 gi_wp2
 refine ⟨by simp,.inl ⟨_,_,rfl,run_takeDeferred hK,?_⟩⟩
 exact ⟨_,results_tmp (t:=2) rfl _ _ _,hR⟩
theorem BH (w:World) (v:aJ) (ha0:0≤v.At) (ha1:v.At≤1000000) (hc0:1≤v.count) (hc1:v.count≤1000000):Does 106 [v.val] w λx w'=>
  ∃ a cap,x=.slice a v.pieces.length cap∧Owns w' TPc 2 a v.pieces.length cap (sP v.pieces).flatten∧Go.Eng.New w w'∧(∀ k,isB a k→w.heap.size≤k):=by
 refine (callsIn_wide (n:=3)).1 ?_
 refine callsIn_of_wp_marks (c:=.seq (sub (aD f106) [0]) (.seq (sub (aD f106) [1,0]) (.seq (.seq (sub (aD f106) [1,1,0,0]) (.block 0 (.rangeFunc (.tmp 6) #[7] (sub (aD f106) [1,1,0,1,0,0]) (.block 1 (sub (aD f106) [1,1,0,1,0,1,0]))))) (sub (aD f106) [1,1,1])))) Tryz.func106 (by kernel_rfl) trivial ?_ rfl
 suffices hs:∀ a:Act,a=act [v.val,undef,undef,undef,undef,undef,undef,undef,undef,undef,undef,undef,undef]→Code.wpIn Fence.wide 3 prog _ _ a w from hs _ (by kernel_rfl)
 rintro _ rfl
 refine wpIn_wide.2 ?_
 refine Do mix (N:=λenv u=>∃ b1,env=[v.val,.pointer (some ⟨b1,0,none⟩),.slice none 0 0,undef,undef,undef,undef,undef,undef,undef,undef,undef,undef]∧b1=w.heap.size∧Blk u b1 v.cells TV∧Go.Eng.New w u∧u.heap.size=b1+1) ?_ ?_
 ·rw [P_r0]
  rintro b1 w1 hb hw
  obtain ⟨hz,hn⟩:=aO hb hw
  exact ⟨b1,rfl,hb,hz,hn,by rw [hw,hb];simp⟩
 rintro _ w1 ⟨b1,rfl,hb1,hz1,hn1,hs1⟩
 refine Do mix (N:=λenv u=>∃ b2,env=[v.val,.pointer (some ⟨b1,0,none⟩),.slice none 0 0,.pointer (some ⟨b2,0,none⟩),undef,undef,undef,undef,undef,undef,undef,undef,undef]∧b2=w1.heap.size∧Blk u b2 [.slice none 0 0] TSP∧Blk u b1 v.cells TV∧Go.Eng.New w u) ?_ ?_
 ·rw [P_r1]
  rintro b2 w2 hb hw
  obtain ⟨hz,hn⟩:=aO hb hw
  exact ⟨b2,rfl,hb,hz,New.blk hn hz1,hn1.new hn⟩
 rintro _ w2 ⟨b2,rfl,hb2,hz2,hz12,hn2⟩
 refine wp_seq ?_
 refine Do mix (N:=λenv u=>∃ Bn,env=[v.val,.pointer (some ⟨b1,0,none⟩),.slice none 0 0,.pointer (some ⟨b2,0,none⟩),undef,v.val,.func (.func 200) #[] #[.pointer (some ⟨Bn,0,none⟩)],undef,undef,undef,undef,undef,undef]∧Blk u b2 [.slice none 0 0] TSP∧Blk u Bn v.cells TV∧u.heap.size=Bn+1∧Go.Eng.New w u) ?_ ?_
 ·rw [P_r2]
  refine mv (v:=v) (vbox hz12) ?_
  refine aF (BG _ v) ?_
  rintro r w3 ⟨rfl,hbx,hn3,hs3⟩
  exact ⟨_,rfl,w2.heap.size,rfl,New.blk hn3 hz2,hbx,hs3,hn2.new hn3⟩
 rintro _ w3 ⟨Bn,rfl,hz3,hbx,hs3,hn3⟩
 refine (wpIn_wide (n:=3)).1 (wpIn_block ?_)
 refine wH w w3 v b1 b2 Bn ha0 ha1 hc0 hc1 hz3 hbx hs3 hn3 (by rw [hb2];exact hn1.size) _ ?_
 rintro D W hD ⟨a,cap,hb,ho,ha,hn,hs⟩ hK
 refine (wpIn_wide (n:=3)).1 (wI v.val b1 b2 Bn D _ W a _ cap hb hK ?_)
 have hkD:Go.Eng.New w (W.putObj D (.deferred none)):=by
  refine hn.trans (kU (grownBy_putObj' W D _)) (λk hk e=>?_)
  simp at e
  have:=hn3.size
  omega
 have hblk:∀ k cs T,Blk W k cs T→Blk (W.putObj D (.deferred none)) k cs T:=by
  intro k cs T hb
  refine (kU (grownBy_putObj' W D (.deferred none))).blk hb (λe=>?_)
  simp at e
  subst e
  rw [show W.heap[k]?=_ from hb] at hK
  cases hK
 refine ⟨_,rfl,a,cap,rfl,?_,hkD,λk hk=>(ha k hk).1⟩
 refine ⟨ho.1,?_⟩
 rcases ho.2 with h | ⟨g,cur,he,hg,rest⟩
 ·exact .inl h
 ·exact .inr ⟨g,cur,he,hblk _ _ _ hg,rest⟩
theorem BI (w:World) (v:aJ) (ha0:0≤v.At) (ha1:v.At≤1000000) (hc0:1≤v.count) (hc1:v.count≤1000000):Does 106 [v.val] w λx w'=>
  ∃ a cap,x=.slice a v.pieces.length cap∧Rd w' a (sP v.pieces).flatten∧Go.Eng.New w w'∧(∀ k,isB a k→w.heap.size≤k):=
 Calls.mono (BH w v ha0 ha1 hc0 hc1) λe w' ⟨x,he,a,cap,hx,ho,hn,hk⟩=>⟨x,he,a,cap,hx,Owns.rd ho,hn,hk⟩
end Go.Proofs.YtgpmeaicjonenaaGreat
