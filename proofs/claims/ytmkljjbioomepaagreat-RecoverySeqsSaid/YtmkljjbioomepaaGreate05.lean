import Derived.Test.YtmkljjbioomepaaGreate04
import Derived.OwnWalkIn
import Derived.TacticsInMore
import Derived.WalkKit
import Derived.Shelf.Abstract
set_option linter.all false
set_option maxHeartbeats 4000000
set_option maxRecDepth 100000
namespace Go.Proofs.YtmkljjbioomepaaGreat
open Go.Proofs.Tryz Go.bn
variable {B:Nat}
section
open Go.RowKit Go.Shelf
abbrev nw:TypeId:=181
theorem Ib (cn:List (Int×Int)) (p:Int×Int):(m0 (cn++[p])).flatten=(m0 cn).flatten++[.int .i64 p.1,.int .i64 p.2]:=by simp [m0]
def uV (w:al) (az B:Nat) (pre:List (Int×Int)) (u:al):Prop:=
 ∃ a cap,av u az [.slice a pre.length cap] nw/\aY u pq 2 a pre.length cap (m0 pre).flatten/\(∀ k,aL a k->w.heap.size<=k/\k≠az)/\Go.bn.ai w u/\B<=u.heap.size
theorem sd {W W':al} {row:Option Nat} {k:Nat} {cs:aw} {T:TypeId} (d:∀ r,row=some r->B<=r/\∃ o:Obj,W.heap[r]?=some o/\o.isCells=false) (b:av W k cs T):some k≠row:=by intro h;obtain ⟨_,o,a,c⟩:=d k h.symm;rw [show W.heap[k]?=_ from b] at a;cases a;simp [Obj.isCells] at c
theorem LL {w:al} {az:Nat} (q:w.heap.size<=B):OwnFrom B (uV w az B):=by
 rintro pre W W' row ⟨a,cap,f,j,l,o,p⟩ i d;have c:=qY i;refine ⟨a,cap,c.ak f (sd (W':=W') d f),?_,l,o.trans c (λk n e=>?_),kq p i.size⟩
 ·refine ⟨j.1,?_⟩;rcases j.2 with h | ⟨g,cur,he,b,rest⟩
  ·exact .inl h
  ·exact .inr ⟨g,cur,he,c.ak b (sd (W':=W') d b),rest⟩
 ·have:=(d k e.symm).1;omega
def n5 (v:a0) (b1 az b a:Nat) (x:Int×Int):aw:=
 [v,.pointer (some ⟨b1,0,none⟩),.slice none 0 0,.pointer (some ⟨az,0,none⟩),.pointer (some ⟨b,0,none⟩),v,.func (.func 186) #[] #[.pointer (some ⟨a,0,none⟩)],.agg #[.int .i64 x.1,.int .i64 x.2],undef,undef,undef,undef,undef]
theorem zf {M:a2} {W W':al} (h:ao M W W') (b:∀ k,M k->∃ cs T,av W k cs T):KeepsFrom B W W':=
 ⟨h.size,λk o _ a d=>by refine (h.block k (tL.1 a).1 (λhm=>?_)).trans a;obtain ⟨cs,T,c⟩:=b k hm;rw [show W.heap[k]?=_ from c] at a;cases a;simp [Obj.isCells] at d⟩
theorem Iz {N:aw->aE} {K:Act->aE} {Q:Exit->Act->aE} (h:∀ env w,N env w->K (act env) w):∀ e a w,o7 (a1 N (λ_ _ _=>False)) e a w->Exit.then K Q e a w:=by
 intro e a w d;obtain ⟨he,env,rfl,b⟩:=pO d;cases e with
 |normal=>exact h _ _ b
 |panic c=>exact absurd rfl (he.1 c)
 |outgrown=>exact absurd rfl he.2
 | _=>exact b.elim
theorem G4 (w j:al) (v:aF) (b1 az d:Nat) (Ul:0<=v.bQ) (Um:v.bQ<=1000000) (Ut:1<=v.count) (Uu:v.count<=1000000)
  (Uo:av j az [.slice none 0 0] nw) (Uj:av j d v.cells cr) (UA:j.heap.size=d+1) (UJ:Go.bn.ai w j) (hle:w.heap.size<=az) (Q:Exit->Act->aE)
  (dp:∀ D W,j.heap.size<=D->uV w az j.heap.size v.pieces W->W.heap[D]?=some (.deferred (some []))->Q .normal { tmps:=(n5 v.val b1 az 0 d (0,0)).toArray.setIfInBounds 4 undef |>.setIfInBounds 7 undef,defers:=[{ target:=.collected D,args:=#[] }] } W) :
  (Code.rangeFunc (.tmp 6) #[7] (sub (bh f98) [1,1,0,1,0,0]) (.block 1 (sub (bh f98) [1,1,0,1,0,1,0]))).wpIn Fence.wide 3 prog Q
   {tmps:=(n5 v.val b1 az 0 d (0,0)).toArray.setIfInBounds 4 undef |>.setIfInBounds 7 undef,defers:=[] } j:=by
 have UC:w.heap.size<=j.heap.size:=UJ.size;obtain ⟨inf,UU,au,F,Us⟩:=fp (T:=pq) (z:=.agg #[.int .i64 0,.int .i64 0]) (n:=2) (m:=16) (by kernel_rfl);have Uy:v.pieces.length<=1000000:=by have:=pI v.count.toNat v.bQ v.count;unfold aF.pieces;omega
 refine wpIn_rangeFunc_ownH rfl (by omega) (gf:=186) (lb:=#[.pointer (some ⟨d,0,none⟩)]) rfl trivial (enters_of Tryz.func186 (by kernel_rfl) rfl)
  (encs:=DW) (Kp:=Below w.heap.size) (S:=λys=>ys=v.pieces) (Sp:=λpre=>pre <+: v.pieces) (N:=v.pieces.length) (w0:=j)
  (λl a8 UM W cB UQ UR US Ui=>Fd 2 l d w.heap.size v a8 UM Ul Um Ut Uu W UQ US (λu hu=>?_) (by have:=cB.size;omega) Ui)
  belowK_t (belowK_b (by omega)) (Below.refl _ _) (λ_=>rfl) (uV w az j.heap.size) (λ_ _ _=>False) (LL UC) (λ_ _ _ _ _ Uz _ _=>Uz)
  ⟨none,0,Uo,aY.nil _ _ _,(λk b=>by obtain ⟨o,r⟩:=b;cases r),UJ,dd _⟩
  (λx Z W=>∃ A,Z=act (n5 v.val b1 az A d x)/\av W A [.int .i64 x.1,.int .i64 x.2] pq) ?own ?assign ?body ?done ?stop
 ·have UX:=UA▸cB;have UO:av u d v.cells cr:=by show u.heap[d]?=_;rw [hu.block d (by omega),cB.block d (by omega)];exact Uj
  exact gF UO
 case own=>rintro x Z _ W W' row ⟨A,UT,UI⟩ Uv UW;exact ⟨A,UT,(qY Uv).ak UI (sd (W':=W') UW UI)⟩
 case assign=>
  intro l pre x W K M Uk;suffices Uz:∀ a:Act,a=act ((n5 v.val b1 az 0 d x).set 4 undef)->Code.wpIn (Fence.wide.inRound l) (3 - 1 - 1) prog (sub (bh f98) [1,1,0,1,0,0]) (Exit.then K (λ_ _ _=>False)) a W from Uz _ (by kernel_rfl)
  rintro _ rfl;refine wpIn_mono (BT (by kernel_rfl) l _ (Q:=a1 (λenv u=>K (act env) u) (λ_ _ _=>False)) (env:=(n5 v.val b1 az 0 d x).set 4 undef) ?_) (Iz λ_ _ h=>h);refine Eq.mpr (ND v.val (.slice none 0 0) (.pointer (some ⟨b1,0,none⟩)) v.val (.func (.func 186) #[] #[.pointer (some ⟨d,0,none⟩)]) az x W _) ?_;rintro A w1 I UB;obtain ⟨Y,Uw⟩:=bk I UB;refine ⟨fI Y (by simp) (by intro u hu;rcases dy.1 hu with rfl | hu;rfl;simp at hu;subst hu;rfl),?_⟩;rintro UL V;have UE:av UL A [.int .i64 x.1,.int .i64 x.2] pq:=by rw [V];exact Y.cl
  have b:Go.bn.ai W UL:=by rw [V];refine Uw.trans (ht _ _ _ _ _) (λk b e=>?_);omega
  obtain ⟨a,cap,i,E,f,q,L⟩:=M;refine Uk _ _ (zf b (λk h=>h.elim)) (b.below q.size (λ_ _ h=>h)) ⟨a,cap,ai.ak b i,aY.new b E,f,q.new b,kq L b.size⟩ ⟨A,rfl,UE⟩
 case body=>
  rintro l pre x Z W UY _ M ⟨A,rfl,I⟩ UV;refine wpIn_block ?_;refine wpIn_mono (BT (by kernel_rfl) l _ (Q:=a1 (λenv u=>KeepsFrom j.heap.size W u/\Below w.heap.size W u/\uV w az j.heap.size (pre++[x]) u) (λ_ _ _=>False)) (env:=n5 v.val b1 az A d x) ?_) ?_
  ·refine Eq.mpr (NF v.val (.slice none 0 0) (.pointer (some ⟨b1,0,none⟩)) v.val (.func (.func 186) #[] #[.pointer (some ⟨d,0,none⟩)]) (.agg #[.int .i64 x.1,.int .i64 x.2]) az A W _) ?_;obtain ⟨a,cap,i,E,f,q,L⟩:=M;refine ⟨a,pre.length,cap,i.cell rfl,x.1,x.2,bI I (by simp),?_⟩;rintro UN UZ Uq UD;obtain ⟨UF,C⟩:=bk Uq UD;have H:=aY.new C E;rw [<-F] at H;obtain ⟨ap,p,UG,U,y,O,Un⟩:=aY.append (P:=prog) (t:=nw) (ty:=nw) Tryz.underlying181 UU au (by rw [F];rfl) (by omega) H
    (s:=some ⟨UN,0,none⟩) (m:=1) (c:=1) (news:=[.int .i64 x.1,.int .i64 x.2]) (by rw [F];rfl) (e9 UF (by simp)) (by intro u hu;rcases dy.1 hu with rfl | hu;rfl;simp at hu;subst hu;rfl) (by omega) (by rw [Us];omega)
   rw [F] at y;have Ux:¬ aL a az:=λh=>(f az h).2 rfl
   have J:av UG az [.slice a pre.length cap] nw:=O.ak (ai.ak C i) Ux;refine ⟨ap,pre.length+1,p,UG,U,⟨_,J.cell rfl⟩,J.frozen,?_⟩;rintro UH X;have R:ao (λk=>k=az) UG UH:=by rw [X];exact eA _ _ _ _
   have Ur:av UH az [.slice ap (pre.length+1) p] nw:=by rw [X];exact J.setCell _
   have Up:az<W.heap.size:=i.lt;have G:∀ k,aL ap k->w.heap.size<=k/\k≠az:=by
    intro k b;rcases Un with e | e
    ·exact f k (e▸b)
    ·obtain ⟨o,r⟩:=b;rw [e] at r;simp at r;have:=C.size;omega
   have B:ao (λk=>aL a k\/k=az) W UH:=(((ao.bZ C).trans O (λ_ _ h=>.inl h)).trans R (λ_ _ h=>.inr h));refine ⟨zf B (λk b=>?_),B.below q.size (λk b hm=>?_),ap,p,?_,?_,G,?_,kq L B.size⟩
   ·rcases b with b | rfl
    ·rcases E.2 with ⟨he,_⟩ | ⟨g,cur,he,Uv,_⟩
     ·obtain ⟨o,r⟩:=b;rw [he] at r;cases r
     ·obtain ⟨o,r⟩:=b;rw [he] at r;simp at r;exact ⟨cur,_,r.1▸Uv⟩
    ·exact ⟨_,_,i⟩
   ·rcases hm with hm | rfl
    ·have:=(f k hm).1;omega
    ·omega
   ·simpa using Ur
   ·rw [Ib];have:=aY.ax R y (λk b=>(G k b).2);simpa using this
   ·refine q.trans B (λk b hm=>?_);rcases hm with hm | rfl
    ·have:=(f k hm).1;omega
    ·omega
  ·intro e a w Ui;obtain ⟨he,env,rfl,UK⟩:=pO Ui;cases e with
   |normal=>exact UK
   |panic c=>exact absurd rfl (he.1 c)
   |outgrown=>exact absurd rfl he.2
   | _=>exact UK.elim
 case done=>rintro D ys W UP rfl M Uk;exact dp D W UP M Uk
 case stop=>rintro D c pre W _ _ h _;exact h.elim
abbrev BU (v:a0) (b1 az a:Nat):Array a0:=(n5 v b1 az 0 a (0,0)).toArray.setIfInBounds 4 undef |>.setIfInBounds 7 undef
theorem G5 (v:a0) (b1 az b D:Nat) (R:Ending->aE) (W:al) (a:an) (n cap:Nat) (e:av W az [.slice a n cap] nw) (c:W.heap[D]?=some (.deferred (some []))) (d:R (.returned (.slice a n cap)) (W.putObj D (.deferred none))) :
  (sub (bh f98) [1,1,1]).wpIn Fence.wide 3 prog (bodyPostM Fence.wide 3 prog f98 R) { tmps:=BU v b1 az b,defers:=[{ target:=.collected D,args:=#[] }] } W:=by
 have f:W.cell? ⟨az,0,none⟩=some (.slice a n cap):=e.cell rfl;simp only [bh,sub,f98,BU,n5]
 gi_wp2
 refine ⟨by simp,.inl ⟨_,_,rfl,run_takeDeferred c,?_⟩⟩;exact ⟨_,results_tmp (t:=2) rfl _ _ _,d⟩
theorem Jw (w:al) (v:aF) (t:0<=v.bQ) (y:v.bQ<=1000000) (A:1<=v.count) (B:v.count<=1000000):ba 98 [v.val] w λx w'=>
  ∃ a cap,x=.slice a v.pieces.length cap/\aY w' pq 2 a v.pieces.length cap (m0 v.pieces).flatten/\Go.bn.ai w w'/\(∀ k,aL a k->w.heap.size<=k):=by
 refine (callsIn_wide (n:=3)).1 ?_;refine callsIn_of_wp_marks (c:=.seq (sub (bh f98) [0]) (.seq (sub (bh f98) [1,0]) (.seq (.seq (sub (bh f98) [1,1,0,0]) (.block 0 (.rangeFunc (.tmp 6) #[7] (sub (bh f98) [1,1,0,1,0,0]) (.block 1 (sub (bh f98) [1,1,0,1,0,1,0]))))) (sub (bh f98) [1,1,1])))) Tryz.func98 (by kernel_rfl) trivial ?_ rfl;suffices K:∀ a:Act,a=act [v.val,undef,undef,undef,undef,undef,undef,undef,undef,undef,undef,undef,undef]->Code.wpIn Fence.wide 3 prog _ _ a w from K _ (by kernel_rfl)
 rintro _ rfl;refine wpIn_wide.2 ?_;refine x_ mix (N:=λenv u=>∃ b1,env=[v.val,.pointer (some ⟨b1,0,none⟩),.slice none 0 0,undef,undef,undef,undef,undef,undef,undef,undef,undef,undef]/\b1=w.heap.size/\av u b1 v.cells cr/\Go.bn.ai w u/\u.heap.size=b1+1) ?_ ?_
 ·rw [N6];rintro b1 w1 b hw;obtain ⟨au,l⟩:=bk b hw;exact ⟨b1,rfl,b,au,l,by rw [hw,b];simp⟩
 rintro _ w1 ⟨b1,rfl,P,F,p,R⟩;refine x_ mix (N:=λenv u=>∃ az,env=[v.val,.pointer (some ⟨b1,0,none⟩),.slice none 0 0,.pointer (some ⟨az,0,none⟩),undef,undef,undef,undef,undef,undef,undef,undef,undef]/\az=w1.heap.size/\av u az [.slice none 0 0] nw/\av u b1 v.cells cr/\Go.bn.ai w u) ?_ ?_
 ·rw [N7];rintro az L b hw;obtain ⟨au,l⟩:=bk b hw;exact ⟨az,rfl,b,au,ai.ak l F,p.new l⟩
 rintro _ L ⟨az,rfl,z,G,q,E⟩;refine wp_seq ?_;refine x_ mix (N:=λenv u=>∃ j,env=[v.val,.pointer (some ⟨b1,0,none⟩),.slice none 0 0,.pointer (some ⟨az,0,none⟩),undef,v.val,.func (.func 186) #[] #[.pointer (some ⟨j,0,none⟩)],undef,undef,undef,undef,undef,undef]/\av u az [.slice none 0 0] nw/\av u j v.cells cr/\u.heap.size=j+1/\Go.bn.ai w u) ?_ ?_
 ·rw [N8];refine iy (v:=v) (gF q) ?_;refine aD (Jv _ v) ?_;rintro r M ⟨rfl,f,d,i⟩;exact ⟨_,rfl,L.heap.size,rfl,ai.ak d G,f,i,E.new d⟩
 rintro _ M ⟨j,rfl,H,f,i,d⟩;refine (wpIn_wide (n:=3)).1 (wpIn_block ?_);refine G4 w M v b1 az j t y A B H f i d (by rw [z];exact p.size) _ ?_;rintro D W S ⟨a,cap,b,J,O,l,K⟩ s;refine (wpIn_wide (n:=3)).1 (G5 v.val b1 az j D _ W a _ cap b s ?_);have C:Go.bn.ai w (W.putObj D (.deferred none)):=by refine l.trans (qY (grownBy_putObj' W D _)) (λk I e=>?_);simp at e;have:=d.size;omega
 have o:∀ k cs T,av W k cs T->av (W.putObj D (.deferred none)) k cs T:=by
  intro k cs T b;refine (qY (grownBy_putObj' W D (.deferred none))).ak b (λe=>?_)
  simp at e;subst e;rw [show W.heap[k]?=_ from b] at s;cases s
 refine ⟨_,rfl,a,cap,rfl,?_,C,λk I=>(O k I).1⟩;refine ⟨J.1,?_⟩;rcases J.2 with h | ⟨g,cur,he,Q,rest⟩
 ·exact .inl h
 ·exact .inr ⟨g,cur,he,o _ _ _ Q,rest⟩
theorem Jx (w:al) (v:aF) (b:0<=v.bQ) (c:v.bQ<=1000000) (d:1<=v.count) (f:v.count<=1000000):ba 98 [v.val] w λx w'=>
  ∃ a cap,x=.slice a v.pieces.length cap/\bg w' a (m0 v.pieces).flatten/\Go.bn.ai w w'/\(∀ k,aL a k->w.heap.size<=k):=
 Calls.mono (Jw w v b c d f) λe w' ⟨x,he,a,cap,j,i,h,g⟩=>⟨x,he,a,cap,j,aY.rd i,h,g⟩
end
end Go.Proofs.YtmkljjbioomepaaGreat
