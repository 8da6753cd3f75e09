import Derived.Test.YtmkljjbioomepaaGreatc04
import Derived.OwnWalkIn
import Derived.TacticsInMore
import Derived.WalkKit
import Derived.Shelf.Abstract
set_option linter.all false
set_option maxHeartbeats 4000000
set_option maxRecDepth 100000
namespace Go.Proofs.YtmkljjbioomepaaGreat
open Go.Proofs.Tryz Go.br
variable {B:Nat}
section
open Go.RowKit Go.Shelf
abbrev n9:TypeId:=181
theorem IT (b_:List (Int×Int)) (p:Int×Int):(nS (b_++[p])).flatten=(nS b_).flatten++[.int .i64 p.1,.int .i64 p.2]:=by simp [nS]
def vZ (w:ak) (aA B:Nat) (pre:List (Int×Int)) (u:ak):Prop:=
 ∃ a cap,av u aA [.slice a pre.length cap] n9/\a2 u qn 2 a pre.length cap (nS pre).flatten/\(∀ k,aK a k->w.heap.size<=k/\k≠aA)/\Go.br.ai w u/\B<=u.heap.size
theorem ta {W W':ak} {row:Option Nat} {k:Nat} {cs:ax} {T:TypeId} (d:∀ r,row=some r->B<=r/\∃ o:Obj,W.heap[r]?=some o/\o.isCells=false) (b:av W k cs T):some k≠row:=by intro h;obtain ⟨_,o,a,c⟩:=d k h.symm;rw [show W.heap[k]?=_ from b] at a;cases a;simp [Obj.isCells] at c
theorem Mh {w:ak} {aA:Nat} (q:w.heap.size<=B):OwnFrom B (vZ w aA B):=by
 rintro pre W W' row ⟨a,cap,f,j,l,o,p⟩ i d;have c:=r5 i;refine ⟨a,cap,c.aj f (ta (W':=W') d f),?_,l,o.trans c (λk n e=>?_),ll p i.size⟩
 ·refine ⟨j.1,?_⟩;rcases j.2 with h | ⟨g,cur,he,b,rest⟩
  ·exact .inl h
  ·exact .inr ⟨g,cur,he,c.aj b (ta (W':=W') d b),rest⟩
 ·have:=(d k e.symm).1;omega
def oR (v:a4) (b1 aA b a:Nat) (x:Int×Int):ax:=
 [v,.pointer (some ⟨b1,0,none⟩),.slice none 0 0,.pointer (some ⟨aA,0,none⟩),.pointer (some ⟨b,0,none⟩),v,.func (.func 186) #[] #[.pointer (some ⟨a,0,none⟩)],.agg #[.int .i64 x.1,.int .i64 x.2],undef,undef,undef,undef,undef]
theorem Ah {M:a5} {W W':ak} (h:ao M W W') (b:∀ k,M k->∃ cs T,av W k cs T):KeepsFrom B W W':=
 ⟨h.size,λk o _ a d=>by refine (h.block k (uQ.1 a).1 (λhm=>?_)).trans a;obtain ⟨cs,T,c⟩:=b k hm;rw [show W.heap[k]?=_ from c] at a;cases a;simp [Obj.isCells] at d⟩
theorem GE {N:ax->aE} {K:Act->aE} {Q:Exit->Act->aE} (h:∀ env w,N env w->K (act env) w):∀ e a w,qc (aV N (λ_ _ _=>False)) e a w->Exit.then K Q e a w:=by
 intro e a w d;obtain ⟨he,env,rfl,b⟩:=qL d;cases e with
 |normal=>exact h _ _ b
 |panic c=>exact absurd rfl (he.1 c)
 |outgrown=>exact absurd rfl he.2
 | _=>exact b.elim
theorem Do (w j:ak) (v:aG) (b1 aA d:Nat) (Vu:0<=v.bW) (Vv:v.bW<=1000000) (VC:1<=v.count) (VD:v.count<=1000000)
  (Vx:av j aA [.slice none 0 0] n9) (Vs:av j d v.cells cy) (VJ:j.heap.size=d+1) (VS:Go.br.ai w j) (hle:w.heap.size<=aA) (Q:Exit->Act->aE)
  (dG:∀ D W,j.heap.size<=D->vZ w aA j.heap.size v.pieces W->W.heap[D]?=some (.deferred (some []))->Q .normal { tmps:=(oR v.val b1 aA 0 d (0,0)).toArray.setIfInBounds 4 undef |>.setIfInBounds 7 undef,defers:=[{ target:=.collected D,args:=#[] }] } W) :
  (Code.rangeFunc (.tmp 6) #[7] (sub (bo f98) [1,1,0,1,0,0]) (.block 1 (sub (bo f98) [1,1,0,1,0,1,0]))).wpIn Fence.wide 3 prog Q
   {tmps:=(oR v.val b1 aA 0 d (0,0)).toArray.setIfInBounds 4 undef |>.setIfInBounds 7 undef,defers:=[] } j:=by
 have VL:w.heap.size<=j.heap.size:=VS.size;obtain ⟨inf,V3,au,F,VB⟩:=fL (T:=qn) (z:=.agg #[.int .i64 0,.int .i64 0]) (n:=2) (m:=16) (by kernel_rfl);have VH:v.pieces.length<=1000000:=by have:=ms v.count.toNat v.bW v.count;unfold aG.pieces;omega
 refine wpIn_rangeFunc_ownH rfl (by omega) (gf:=186) (lb:=#[.pointer (some ⟨d,0,none⟩)]) rfl trivial (enters_of Tryz.func186 (by kernel_rfl) rfl)
  (encs:=EU) (Kp:=Below w.heap.size) (S:=λys=>ys=v.pieces) (Sp:=λpre=>pre <+: v.pieces) (N:=v.pieces.length) (w0:=j)
  (λl a1 VV W eT VZ V0 V1 Vr=>IS 2 l d w.heap.size v a1 VV Vu Vv VC VD W VZ V1 (λu hu=>?_) (by have:=eT.size;omega) Vr)
  belowK_t (belowK_b (by omega)) (Below.refl _ _) (λ_=>rfl) (vZ w aA j.heap.size) (λ_ _ _=>False) (Mh VL) (λ_ _ _ _ _ VI _ _=>VI)
  ⟨none,0,Vx,a2.nil _ _ _,(λk b=>by obtain ⟨o,r⟩:=b;cases r),VS,cO _⟩
  (λx Z W=>∃ A,Z=act (oR v.val b1 aA A d x)/\av W A [.int .i64 x.1,.int .i64 x.2] qn) ?own ?assign ?body ?done ?stop
 ·have V6:=VJ▸eT;have VX:av u d v.cells cy:=by show u.heap[d]?=_;rw [hu.block d (by omega),eT.block d (by omega)];exact Vs
  exact g2 VX
 case own=>rintro x Z _ W W' row ⟨A,V2,VR⟩ VE V5;exact ⟨A,V2,(r5 VE).aj VR (ta (W':=W') V5 VR)⟩
 case assign=>
  intro l pre x W K M Vt;suffices VI:∀ a:Act,a=act ((oR v.val b1 aA 0 d x).set 4 undef)->Code.wpIn (Fence.wide.inRound l) (3 - 1 - 1) prog (sub (bo f98) [1,1,0,1,0,0]) (Exit.then K (λ_ _ _=>False)) a W from VI _ (by kernel_rfl)
  rintro _ rfl;refine wpIn_mono (C1 (by kernel_rfl) l _ (Q:=aV (λenv u=>K (act env) u) (λ_ _ _=>False)) (env:=(oR v.val b1 aA 0 d x).set 4 undef) ?_) (GE λ_ _ h=>h);refine Eq.mpr (N1 v.val (.slice none 0 0) (.pointer (some ⟨b1,0,none⟩)) v.val (.func (.func 186) #[] #[.pointer (some ⟨d,0,none⟩)]) aA x W _) ?_;rintro A w1 I VK;obtain ⟨Y,VF⟩:=bl I VK;refine ⟨f7 Y (by simp) (by intro u hu;rcases e9.1 hu with rfl | hu;rfl;simp at hu;subst hu;rfl),?_⟩;rintro VU V;have VN:av VU A [.int .i64 x.1,.int .i64 x.2] qn:=by rw [V];exact Y.ct
  have b:Go.br.ai W VU:=by rw [V];refine VF.trans (hT _ _ _ _ _) (λk b e=>?_);omega
  obtain ⟨a,cap,i,E,f,q,L⟩:=M;refine Vt _ _ (Ah b (λk h=>h.elim)) (b.below q.size (λ_ _ h=>h)) ⟨a,cap,ai.aj b i,a2.new b E,f,q.new b,ll L b.size⟩ ⟨A,rfl,VN⟩
 case body=>
  rintro l pre x Z W V7 _ M ⟨A,rfl,I⟩ V4;refine wpIn_block ?_;refine wpIn_mono (C1 (by kernel_rfl) l _ (Q:=aV (λenv u=>KeepsFrom j.heap.size W u/\Below w.heap.size W u/\vZ w aA j.heap.size (pre++[x]) u) (λ_ _ _=>False)) (env:=oR v.val b1 aA A d x) ?_) ?_
  ·refine Eq.mpr (N2 v.val (.slice none 0 0) (.pointer (some ⟨b1,0,none⟩)) v.val (.func (.func 186) #[] #[.pointer (some ⟨d,0,none⟩)]) (.agg #[.int .i64 x.1,.int .i64 x.2]) aA A W _) ?_;obtain ⟨a,cap,i,E,f,q,L⟩:=M;refine ⟨a,pre.length,cap,i.cell rfl,x.1,x.2,bK I (by simp),?_⟩;rintro VW V8 Vz VM;obtain ⟨VO,C⟩:=bl Vz VM;have H:=a2.new C E;rw [<-F] at H;obtain ⟨ap,p,VP,U,y,O,Vw⟩:=a2.append (P:=prog) (t:=n9) (ty:=n9) Tryz.underlying181 V3 au (by rw [F];rfl) (by omega) H
    (s:=some ⟨VW,0,none⟩) (m:=1) (c:=1) (news:=[.int .i64 x.1,.int .i64 x.2]) (by rw [F];rfl) (fk VO (by simp)) (by intro u hu;rcases e9.1 hu with rfl | hu;rfl;simp at hu;subst hu;rfl) (by omega) (by rw [VB];omega)
   rw [F] at y;have VG:¬ aK a aA:=λh=>(f aA h).2 rfl
   have J:av VP aA [.slice a pre.length cap] n9:=O.aj (ai.aj C i) VG;refine ⟨ap,pre.length+1,p,VP,U,⟨_,J.cell rfl⟩,J.frozen,?_⟩;rintro VQ X;have R:ao (λk=>k=aA) VP VQ:=by rw [X];exact eV _ _ _ _
   have VA:av VQ aA [.slice ap (pre.length+1) p] n9:=by rw [X];exact J.setCell _
   have Vy:aA<W.heap.size:=i.lt;have G:∀ k,aK ap k->w.heap.size<=k/\k≠aA:=by
    intro k b;rcases Vw with e | e
    ·exact f k (e▸b)
    ·obtain ⟨o,r⟩:=b;rw [e] at r;simp at r;have:=C.size;omega
   have B:ao (λk=>aK a k\/k=aA) W VQ:=(((ao.b3 C).trans O (λ_ _ h=>.inl h)).trans R (λ_ _ h=>.inr h));refine ⟨Ah B (λk b=>?_),B.below q.size (λk b hm=>?_),ap,p,?_,?_,G,?_,ll L B.size⟩
   ·rcases b with b | rfl
    ·rcases E.2 with ⟨he,_⟩ | ⟨g,cur,he,VE,_⟩
     ·obtain ⟨o,r⟩:=b;rw [he] at r;cases r
     ·obtain ⟨o,r⟩:=b;rw [he] at r;simp at r;exact ⟨cur,_,r.1▸VE⟩
    ·exact ⟨_,_,i⟩
   ·rcases hm with hm | rfl
    ·have:=(f k hm).1;omega
    ·omega
   ·simpa using VA
   ·rw [IT];have:=a2.az R y (λk b=>(G k b).2);simpa using this
   ·refine q.trans B (λk b hm=>?_);rcases hm with hm | rfl
    ·have:=(f k hm).1;omega
    ·omega
  ·intro e a w Vr;obtain ⟨he,env,rfl,VT⟩:=qL Vr;cases e with
   |normal=>exact VT
   |panic c=>exact absurd rfl (he.1 c)
   |outgrown=>exact absurd rfl he.2
   | _=>exact VT.elim
 case done=>rintro D ys W VY rfl M Vt;exact dG D W VY M Vt
 case stop=>rintro D c pre W _ _ h _;exact h.elim
abbrev C2 (v:a4) (b1 aA a:Nat):Array a4:=(oR v b1 aA 0 a (0,0)).toArray.setIfInBounds 4 undef |>.setIfInBounds 7 undef
theorem Ie (v:a4) (b1 aA b D:Nat) (R:Ending->aE) (W:ak) (a:al) (n cap:Nat) (e:av W aA [.slice a n cap] n9) (c:W.heap[D]?=some (.deferred (some []))) (d:R (.returned (.slice a n cap)) (W.putObj D (.deferred none))) :
  (sub (bo f98) [1,1,1]).wpIn Fence.wide 3 prog (bodyPostM Fence.wide 3 prog f98 R) { tmps:=C2 v b1 aA b,defers:=[{ target:=.collected D,args:=#[] }] } W:=by
 have f:W.cell? ⟨aA,0,none⟩=some (.slice a n cap):=e.cell rfl;simp only [bo,sub,f98,C2,oR]
 gi_wp2
 refine ⟨by simp,.inl ⟨_,_,rfl,run_takeDeferred c,?_⟩⟩;exact ⟨_,results_tmp (t:=2) rfl _ _ _,d⟩
theorem Kj (w:ak) (v:aG) (t:0<=v.bW) (y:v.bW<=1000000) (A:1<=v.count) (B:v.count<=1000000):a_ 98 [v.val] w λx w'=>
  ∃ a cap,x=.slice a v.pieces.length cap/\a2 w' qn 2 a v.pieces.length cap (nS v.pieces).flatten/\Go.br.ai w w'/\(∀ k,aK a k->w.heap.size<=k):=by
 refine (callsIn_wide (n:=3)).1 ?_;refine callsIn_of_wp_marks (c:=.seq (sub (bo f98) [0]) (.seq (sub (bo f98) [1,0]) (.seq (.seq (sub (bo f98) [1,1,0,0]) (.block 0 (.rangeFunc (.tmp 6) #[7] (sub (bo f98) [1,1,0,1,0,0]) (.block 1 (sub (bo f98) [1,1,0,1,0,1,0]))))) (sub (bo f98) [1,1,1])))) Tryz.func98 (by kernel_rfl) trivial ?_ rfl;suffices K:∀ a:Act,a=act [v.val,undef,undef,undef,undef,undef,undef,undef,undef,undef,undef,undef,undef]->Code.wpIn Fence.wide 3 prog _ _ a w from K _ (by kernel_rfl)
 rintro _ rfl;refine wpIn_wide.2 ?_;refine za mix (N:=λenv u=>∃ b1,env=[v.val,.pointer (some ⟨b1,0,none⟩),.slice none 0 0,undef,undef,undef,undef,undef,undef,undef,undef,undef,undef]/\b1=w.heap.size/\av u b1 v.cells cy/\Go.br.ai w u/\u.heap.size=b1+1) ?_ ?_
 ·rw [OT];rintro b1 w1 b hw;obtain ⟨au,l⟩:=bl b hw;exact ⟨b1,rfl,b,au,l,by rw [hw,b];simp⟩
 rintro _ w1 ⟨b1,rfl,P,F,p,R⟩;refine za mix (N:=λenv u=>∃ aA,env=[v.val,.pointer (some ⟨b1,0,none⟩),.slice none 0 0,.pointer (some ⟨aA,0,none⟩),undef,undef,undef,undef,undef,undef,undef,undef,undef]/\aA=w1.heap.size/\av u aA [.slice none 0 0] n9/\av u b1 v.cells cy/\Go.br.ai w u) ?_ ?_
 ·rw [OU];rintro aA L b hw;obtain ⟨au,l⟩:=bl b hw;exact ⟨aA,rfl,b,au,ai.aj l F,p.new l⟩
 rintro _ L ⟨aA,rfl,z,G,q,E⟩;refine wp_seq ?_;refine za mix (N:=λenv u=>∃ j,env=[v.val,.pointer (some ⟨b1,0,none⟩),.slice none 0 0,.pointer (some ⟨aA,0,none⟩),undef,v.val,.func (.func 186) #[] #[.pointer (some ⟨j,0,none⟩)],undef,undef,undef,undef,undef,undef]/\av u aA [.slice none 0 0] n9/\av u j v.cells cy/\u.heap.size=j+1/\Go.br.ai w u) ?_ ?_
 ·rw [OV];refine iT (v:=v) (g2 q) ?_;refine aC (Ki _ v) ?_;rintro r M ⟨rfl,f,d,i⟩;exact ⟨_,rfl,L.heap.size,rfl,ai.aj d G,f,i,E.new d⟩
 rintro _ M ⟨j,rfl,H,f,i,d⟩;refine (wpIn_wide (n:=3)).1 (wpIn_block ?_);refine Do w M v b1 aA j t y A B H f i d (by rw [z];exact p.size) _ ?_;rintro D W S ⟨a,cap,b,J,O,l,K⟩ s;refine (wpIn_wide (n:=3)).1 (Ie v.val b1 aA j D _ W a _ cap b s ?_);have C:Go.br.ai w (W.putObj D (.deferred none)):=by refine l.trans (r5 (grownBy_putObj' W D _)) (λk I e=>?_);simp at e;have:=d.size;omega
 have o:∀ k cs T,av W k cs T->av (W.putObj D (.deferred none)) k cs T:=by
  intro k cs T b;refine (r5 (grownBy_putObj' W D (.deferred none))).aj b (λe=>?_)
  simp at e;subst e;rw [show W.heap[k]?=_ from b] at s;cases s
 refine ⟨_,rfl,a,cap,rfl,?_,C,λk I=>(O k I).1⟩;refine ⟨J.1,?_⟩;rcases J.2 with h | ⟨g,cur,he,Q,rest⟩
 ·exact .inl h
 ·exact .inr ⟨g,cur,he,o _ _ _ Q,rest⟩
theorem IR (w:ak) (v:aG) (b:0<=v.bW) (c:v.bW<=1000000) (d:1<=v.count) (f:v.count<=1000000):a_ 98 [v.val] w λx w'=>
  ∃ a cap,x=.slice a v.pieces.length cap/\bh w' a (nS v.pieces).flatten/\Go.br.ai w w'/\(∀ k,aK a k->w.heap.size<=k):=
 Calls.mono (Kj w v b c d f) λe w' ⟨x,he,a,cap,j,i,h,g⟩=>⟨x,he,a,cap,j,a2.rd i,h,g⟩
end
end Go.Proofs.YtmkljjbioomepaaGreat
