import Derived.Test.YtmkljjbioomepaaGreatb04
import Derived.OwnWalkIn
import Derived.TacticsInMore
import Derived.WalkKit
import Derived.Shelf.Abstract
set_option linter.all false
set_option maxHeartbeats 4000000
set_option maxRecDepth 100000
namespace Go.Proofs.YtmkljjbioomepaaGreat
open Go.Proofs.Tryz Go.bu
variable {B:Nat}
section
open Go.RowKit Go.Shelf
abbrev oj:TypeId:=181
theorem IU (ch:List (Int×Int)) (p:Int×Int):(nQ (ch++[p])).flatten=(nQ ch).flatten++[.int .i64 p.1,.int .i64 p.2]:=by simp [nQ]
def wu (w:ak) (aA B:Nat) (pre:List (Int×Int)) (u:ak):Prop:=
 ∃ a cap,av u aA [.slice a pre.length cap] oj/\a0 u qu 2 a pre.length cap (nQ pre).flatten/\(∀ k,aL a k->w.heap.size<=k/\k≠aA)/\Go.bu.ai w u/\B<=u.heap.size
theorem tv {W W':ak} {row:Option Nat} {k:Nat} {cs:ax} {T:TypeId} (d:∀ r,row=some r->B<=r/\∃ o:Obj,W.heap[r]?=some o/\o.isCells=false) (b:av W k cs T):some k≠row:=by intro h;obtain ⟨_,o,a,c⟩:=d k h.symm;rw [show W.heap[k]?=_ from b] at a;cases a;simp [Obj.isCells] at c
theorem Ml {w:ak} {aA:Nat} (q:w.heap.size<=B):OwnFrom B (wu w aA B):=by
 rintro pre W W' row ⟨a,cap,f,j,l,o,p⟩ i d;have c:=sn i;refine ⟨a,cap,c.aj f (tv (W':=W') d f),?_,l,o.trans c (λk n e=>?_),lq p i.size⟩
 ·refine ⟨j.1,?_⟩;rcases j.2 with h | ⟨g,cur,he,b,rest⟩
  ·exact .inl h
  ·exact .inr ⟨g,cur,he,c.aj b (tv (W':=W') d b),rest⟩
 ·have:=(d k e.symm).1;omega
def oY (v:a2) (b1 aA b a:Nat) (x:Int×Int):ax:=
 [v,.pointer (some ⟨b1,0,none⟩),.slice none 0 0,.pointer (some ⟨aA,0,none⟩),.pointer (some ⟨b,0,none⟩),v,.func (.func 186) #[] #[.pointer (some ⟨a,0,none⟩)],.agg #[.int .i64 x.1,.int .i64 x.2],undef,undef,undef,undef,undef]
theorem AB {M:a3} {W W':ak} (h:ao M W W') (b:∀ k,M k->∃ cs T,av W k cs T):KeepsFrom B W W':=
 ⟨h.size,λk o _ a d=>by refine (h.block k (u9.1 a).1 (λhm=>?_)).trans a;obtain ⟨cs,T,c⟩:=b k hm;rw [show W.heap[k]?=_ from c] at a;cases a;simp [Obj.isCells] at d⟩
theorem Je {N:ax->aE} {K:Act->aE} {Q:Exit->Act->aE} (h:∀ env w,N env w->K (act env) w):∀ e a w,qe (aU N (λ_ _ _=>False)) e a w->Exit.then K Q e a w:=by
 intro e a w d;obtain ⟨he,env,rfl,b⟩:=qU d;cases e with
 |normal=>exact h _ _ b
 |panic c=>exact absurd rfl (he.1 c)
 |outgrown=>exact absurd rfl he.2
 | _=>exact b.elim
theorem Ip (w j:ak) (v:aG) (b1 aA d:Nat) (V5:0<=v.bX) (V6:v.bX<=1000000) (Wb:1<=v.count) (Wc:v.count<=1000000)
  (V8:av j aA [.slice none 0 0] oj) (V3:av j d v.cells cz) (Wi:j.heap.size=d+1) (Wr:Go.bu.ai w j) (hle:w.heap.size<=aA) (Q:Exit->Act->aE)
  (dH:∀ D W,j.heap.size<=D->wu w aA j.heap.size v.pieces W->W.heap[D]?=some (.deferred (some []))->Q .normal { tmps:=(oY v.val b1 aA 0 d (0,0)).toArray.setIfInBounds 4 undef |>.setIfInBounds 7 undef,defers:=[{ target:=.collected D,args:=#[] }] } W) :
  (Code.rangeFunc (.tmp 6) #[7] (sub (bp f98) [1,1,0,1,0,0]) (.block 1 (sub (bp f98) [1,1,0,1,0,1,0]))).wpIn Fence.wide 3 prog Q
   {tmps:=(oY v.val b1 aA 0 d (0,0)).toArray.setIfInBounds 4 undef |>.setIfInBounds 7 undef,defers:=[] } j:=by
 have Wk:w.heap.size<=j.heap.size:=Wr.size;obtain ⟨inf,WC,au,F,Wa⟩:=fO (T:=qu) (z:=.agg #[.int .i64 0,.int .i64 0]) (n:=2) (m:=16) (by kernel_rfl);have Wg:v.pieces.length<=1000000:=by have:=xz v.count.toNat v.bX v.count;unfold aG.pieces;omega
 refine wpIn_rangeFunc_ownH rfl (by omega) (gf:=186) (lb:=#[.pointer (some ⟨d,0,none⟩)]) rfl trivial (enters_of Tryz.func186 (by kernel_rfl) rfl)
  (encs:=Fh) (Kp:=Below w.heap.size) (S:=λys=>ys=v.pieces) (Sp:=λpre=>pre <+: v.pieces) (N:=v.pieces.length) (w0:=j)
  (λl a6 Wu W eW Wy Wz WA V2=>IS 2 l d w.heap.size v a6 Wu V5 V6 Wb Wc W Wy WA (λu hu=>?_) (by have:=eW.size;omega) V2)
  belowK_t (belowK_b (by omega)) (Below.refl _ _) (λ_=>rfl) (wu w aA j.heap.size) (λ_ _ _=>False) (Ml Wk) (λ_ _ _ _ _ Wh _ _=>Wh)
  ⟨none,0,V8,a0.nil _ _ _,(λk b=>by obtain ⟨o,r⟩:=b;cases r),Wr,cQ _⟩
  (λx Z W=>∃ A,Z=act (oY v.val b1 aA A d x)/\av W A [.int .i64 x.1,.int .i64 x.2] qu) ?own ?assign ?body ?done ?stop
 ·have WF:=Wi▸eW;have Ww:av u d v.cells cz:=by show u.heap[d]?=_;rw [hu.block d (by omega),eW.block d (by omega)];exact V3
  exact g4 Ww
 case own=>rintro x Z _ W W' row ⟨A,WB,Wq⟩ Wd WE;exact ⟨A,WB,(sn Wd).aj Wq (tv (W':=W') WE Wq)⟩
 case assign=>
  intro l pre x W K M V4;suffices Wh:∀ a:Act,a=act ((oY v.val b1 aA 0 d x).set 4 undef)->Code.wpIn (Fence.wide.inRound l) (3 - 1 - 1) prog (sub (bp f98) [1,1,0,1,0,0]) (Exit.then K (λ_ _ _=>False)) a W from Wh _ (by kernel_rfl)
  rintro _ rfl;refine wpIn_mono (Dq (by kernel_rfl) l _ (Q:=aU (λenv u=>K (act env) u) (λ_ _ _=>False)) (env:=(oY v.val b1 aA 0 d x).set 4 undef) ?_) (Je λ_ _ h=>h);refine Eq.mpr (Pz v.val (.slice none 0 0) (.pointer (some ⟨b1,0,none⟩)) v.val (.func (.func 186) #[] #[.pointer (some ⟨d,0,none⟩)]) aA x W _) ?_;rintro A w1 I Wj;obtain ⟨Y,We⟩:=bl I Wj;refine ⟨gg Y (by simp) (by intro u hu;rcases e6.1 hu with rfl | hu;rfl;simp at hu;subst hu;rfl),?_⟩;rintro Wt V;have Wm:av Wt A [.int .i64 x.1,.int .i64 x.2] qu:=by rw [V];exact Y.cr
  have b:Go.bu.ai W Wt:=by rw [V];refine We.trans (h0 _ _ _ _ _) (λk b e=>?_);omega
  obtain ⟨a,cap,i,E,f,q,L⟩:=M;refine V4 _ _ (AB b (λk h=>h.elim)) (b.below q.size (λ_ _ h=>h)) ⟨a,cap,ai.aj b i,a0.new b E,f,q.new b,lq L b.size⟩ ⟨A,rfl,Wm⟩
 case body=>
  rintro l pre x Z W WG _ M ⟨A,rfl,I⟩ WD;refine wpIn_block ?_;refine wpIn_mono (Dq (by kernel_rfl) l _ (Q:=aU (λenv u=>KeepsFrom j.heap.size W u/\Below w.heap.size W u/\wu w aA j.heap.size (pre++[x]) u) (λ_ _ _=>False)) (env:=oY v.val b1 aA A d x) ?_) ?_
  ·refine Eq.mpr (PA v.val (.slice none 0 0) (.pointer (some ⟨b1,0,none⟩)) v.val (.func (.func 186) #[] #[.pointer (some ⟨d,0,none⟩)]) (.agg #[.int .i64 x.1,.int .i64 x.2]) aA A W _) ?_;obtain ⟨a,cap,i,E,f,q,L⟩:=M;refine ⟨a,pre.length,cap,i.cell rfl,x.1,x.2,bJ I (by simp),?_⟩;rintro Wv WH V_ Wl;obtain ⟨Wn,C⟩:=bl V_ Wl;have H:=a0.new C E;rw [<-F] at H;obtain ⟨ap,p,Wo,U,y,O,V7⟩:=a0.append (P:=prog) (t:=oj) (ty:=oj) Tryz.underlying181 WC au (by rw [F];rfl) (by omega) H
    (s:=some ⟨Wv,0,none⟩) (m:=1) (c:=1) (news:=[.int .i64 x.1,.int .i64 x.2]) (by rw [F];rfl) (fm Wn (by simp)) (by intro u hu;rcases e6.1 hu with rfl | hu;rfl;simp at hu;subst hu;rfl) (by omega) (by rw [Wa];omega)
   rw [F] at y;have Wf:¬ aL a aA:=λh=>(f aA h).2 rfl
   have J:av Wo aA [.slice a pre.length cap] oj:=O.aj (ai.aj C i) Wf;refine ⟨ap,pre.length+1,p,Wo,U,⟨_,J.cell rfl⟩,J.frozen,?_⟩;rintro Wp X;have R:ao (λk=>k=aA) Wo Wp:=by rw [X];exact eY _ _ _ _
   have V':av Wp aA [.slice ap (pre.length+1) p] oj:=by rw [X];exact J.setCell _
   have V9:aA<W.heap.size:=i.lt;have G:∀ k,aL ap k->w.heap.size<=k/\k≠aA:=by
    intro k b;rcases V7 with e | e
    ·exact f k (e▸b)
    ·obtain ⟨o,r⟩:=b;rw [e] at r;simp at r;have:=C.size;omega
   have B:ao (λk=>aL a k\/k=aA) W Wp:=(((ao.b4 C).trans O (λ_ _ h=>.inl h)).trans R (λ_ _ h=>.inr h));refine ⟨AB B (λk b=>?_),B.below q.size (λk b hm=>?_),ap,p,?_,?_,G,?_,lq L B.size⟩
   ·rcases b with b | rfl
    ·rcases E.2 with ⟨he,_⟩ | ⟨g,cur,he,Wd,_⟩
     ·obtain ⟨o,r⟩:=b;rw [he] at r;cases r
     ·obtain ⟨o,r⟩:=b;rw [he] at r;simp at r;exact ⟨cur,_,r.1▸Wd⟩
    ·exact ⟨_,_,i⟩
   ·rcases hm with hm | rfl
    ·have:=(f k hm).1;omega
    ·omega
   ·simpa using V'
   ·rw [IU];have:=a0.az R y (λk b=>(G k b).2);simpa using this
   ·refine q.trans B (λk b hm=>?_);rcases hm with hm | rfl
    ·have:=(f k hm).1;omega
    ·omega
  ·intro e a w V2;obtain ⟨he,env,rfl,Ws⟩:=qU V2;cases e with
   |normal=>exact Ws
   |panic c=>exact absurd rfl (he.1 c)
   |outgrown=>exact absurd rfl he.2
   | _=>exact Ws.elim
 case done=>rintro D ys W Wx rfl M V4;exact dH D W Wx M V4
 case stop=>rintro D c pre W _ _ h _;exact h.elim
abbrev Dm (v:a2) (b1 aA a:Nat):Array a2:=(oY v b1 aA 0 a (0,0)).toArray.setIfInBounds 4 undef |>.setIfInBounds 7 undef
theorem Iq (v:a2) (b1 aA b D:Nat) (R:Ending->aE) (W:ak) (a:an) (n cap:Nat) (e:av W aA [.slice a n cap] oj) (c:W.heap[D]?=some (.deferred (some []))) (d:R (.returned (.slice a n cap)) (W.putObj D (.deferred none))) :
  (sub (bp f98) [1,1,1]).wpIn Fence.wide 3 prog (bodyPostM Fence.wide 3 prog f98 R) { tmps:=Dm v b1 aA b,defers:=[{ target:=.collected D,args:=#[] }] } W:=by
 have f:W.cell? ⟨aA,0,none⟩=some (.slice a n cap):=e.cell rfl;simp only [bp,sub,f98,Dm,oY]
 gi_wp2
 refine ⟨by simp,.inl ⟨_,_,rfl,run_takeDeferred c,?_⟩⟩;exact ⟨_,results_tmp (t:=2) rfl _ _ _,d⟩
theorem Lj (w:ak) (v:aG) (t:0<=v.bX) (y:v.bX<=1000000) (A:1<=v.count) (B:v.count<=1000000):a9 98 [v.val] w λx w'=>
  ∃ a cap,x=.slice a v.pieces.length cap/\a0 w' qu 2 a v.pieces.length cap (nQ v.pieces).flatten/\Go.bu.ai w w'/\(∀ k,aL a k->w.heap.size<=k):=by
 refine (callsIn_wide (n:=3)).1 ?_;refine callsIn_of_wp_marks (c:=.seq (sub (bp f98) [0]) (.seq (sub (bp f98) [1,0]) (.seq (.seq (sub (bp f98) [1,1,0,0]) (.block 0 (.rangeFunc (.tmp 6) #[7] (sub (bp f98) [1,1,0,1,0,0]) (.block 1 (sub (bp f98) [1,1,0,1,0,1,0]))))) (sub (bp f98) [1,1,1])))) Tryz.func98 (by kernel_rfl) trivial ?_ rfl;suffices K:∀ a:Act,a=act [v.val,undef,undef,undef,undef,undef,undef,undef,undef,undef,undef,undef,undef]->Code.wpIn Fence.wide 3 prog _ _ a w from K _ (by kernel_rfl)
 rintro _ rfl;refine wpIn_wide.2 ?_;refine zu mix (N:=λenv u=>∃ b1,env=[v.val,.pointer (some ⟨b1,0,none⟩),.slice none 0 0,undef,undef,undef,undef,undef,undef,undef,undef,undef,undef]/\b1=w.heap.size/\av u b1 v.cells cz/\Go.bu.ai w u/\u.heap.size=b1+1) ?_ ?_
 ·rw [Pn];rintro b1 w1 b hw;obtain ⟨au,l⟩:=bl b hw;exact ⟨b1,rfl,b,au,l,by rw [hw,b];simp⟩
 rintro _ w1 ⟨b1,rfl,P,F,p,R⟩;refine zu mix (N:=λenv u=>∃ aA,env=[v.val,.pointer (some ⟨b1,0,none⟩),.slice none 0 0,.pointer (some ⟨aA,0,none⟩),undef,undef,undef,undef,undef,undef,undef,undef,undef]/\aA=w1.heap.size/\av u aA [.slice none 0 0] oj/\av u b1 v.cells cz/\Go.bu.ai w u) ?_ ?_
 ·rw [Po];rintro aA L b hw;obtain ⟨au,l⟩:=bl b hw;exact ⟨aA,rfl,b,au,ai.aj l F,p.new l⟩
 rintro _ L ⟨aA,rfl,z,G,q,E⟩;refine wp_seq ?_;refine zu mix (N:=λenv u=>∃ j,env=[v.val,.pointer (some ⟨b1,0,none⟩),.slice none 0 0,.pointer (some ⟨aA,0,none⟩),undef,v.val,.func (.func 186) #[] #[.pointer (some ⟨j,0,none⟩)],undef,undef,undef,undef,undef,undef]/\av u aA [.slice none 0 0] oj/\av u j v.cells cz/\u.heap.size=j+1/\Go.bu.ai w u) ?_ ?_
 ·rw [Pp];refine iY (v:=v) (g4 q) ?_;refine aC (Li _ v) ?_;rintro r M ⟨rfl,f,d,i⟩;exact ⟨_,rfl,L.heap.size,rfl,ai.aj d G,f,i,E.new d⟩
 rintro _ M ⟨j,rfl,H,f,i,d⟩;refine (wpIn_wide (n:=3)).1 (wpIn_block ?_);refine Ip w M v b1 aA j t y A B H f i d (by rw [z];exact p.size) _ ?_;rintro D W S ⟨a,cap,b,J,O,l,K⟩ s;refine (wpIn_wide (n:=3)).1 (Iq v.val b1 aA j D _ W a _ cap b s ?_);have C:Go.bu.ai w (W.putObj D (.deferred none)):=by refine l.trans (sn (grownBy_putObj' W D _)) (λk I e=>?_);simp at e;have:=d.size;omega
 have o:∀ k cs T,av W k cs T->av (W.putObj D (.deferred none)) k cs T:=by
  intro k cs T b;refine (sn (grownBy_putObj' W D (.deferred none))).aj b (λe=>?_)
  simp at e;subst e;rw [show W.heap[k]?=_ from b] at s;cases s
 refine ⟨_,rfl,a,cap,rfl,?_,C,λk I=>(O k I).1⟩;refine ⟨J.1,?_⟩;rcases J.2 with h | ⟨g,cur,he,Q,rest⟩
 ·exact .inl h
 ·exact .inr ⟨g,cur,he,o _ _ _ Q,rest⟩
theorem Lk (w:ak) (v:aG) (b:0<=v.bX) (c:v.bX<=1000000) (d:1<=v.count) (f:v.count<=1000000):a9 98 [v.val] w λx w'=>
  ∃ a cap,x=.slice a v.pieces.length cap/\bh w' a (nQ v.pieces).flatten/\Go.bu.ai w w'/\(∀ k,aL a k->w.heap.size<=k):=
 Calls.mono (Lj w v b c d f) λe w' ⟨x,he,a,cap,j,i,h,g⟩=>⟨x,he,a,cap,j,a0.rd i,h,g⟩
end
end Go.Proofs.YtmkljjbioomepaaGreat
