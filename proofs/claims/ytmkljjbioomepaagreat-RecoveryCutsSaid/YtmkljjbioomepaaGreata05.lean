import Derived.Test.YtmkljjbioomepaaGreata04
import Derived.OwnWalkIn
import Derived.TacticsInMore
import Derived.WalkKit
import Derived.Shelf.Abstract
set_option linter.all false
set_option maxHeartbeats 4000000
set_option maxRecDepth 100000
namespace Go.Proofs.YtmkljjbioomepaaGreat
open Go.Proofs.Tryz Go.b8
variable {B:Nat}
section
open Go.RowKit Go.Shelf
abbrev zE:TypeId:=181
theorem ahY (dA:List (Int×Int)) (p:Int×Int):(y_ (dA++[p])).flatten=(y_ dA).flatten++[.int .i64 p.1,.int .i64 p.2]:=by simp [y_]
def No (w:av) (aP B:Nat) (pre:List (Int×Int)) (u:av):Prop:=
 ∃ a cap,aF u aP [.slice a pre.length cap] zE/\bu u Dk 2 a pre.length cap (y_ pre).flatten/\(∀ k,a7 a k->w.heap.size<=k/\k≠aP)/\Go.b8.ai w u/\B<=u.heap.size
theorem Iu {W W':av} {row:Option Nat} {k:Nat} {cs:aH} {T:TypeId} (aA:∀ r,row=some r->B<=r/\∃ o:Obj,W.heap[r]?=some o/\o.isCells=false) (ak:aF W k cs T):some k≠row:=by intro h;obtain ⟨_,o,aq,ab⟩:=aA k h.symm;rw [show W.heap[k]?=_ from ak] at aq;cases aq;simp [Obj.isCells] at ab
theorem alr {w:av} {aP:Nat} (hy:w.heap.size<=B):OwnFrom B (No w aP B):=by
 rintro pre W W' row ⟨a,cap,ak,aq,bc,aj,aX⟩ a' aA;have J:=Hi a';refine ⟨a,cap,J.an ak (Iu (W':=W') aA ak),?_,bc,aj.trans J (λk dQ e=>?_),ud aX a'.size⟩
 ·refine ⟨aq.1,?_⟩;rcases aq.2 with h | ⟨g,cur,he,uL,rest⟩
  ·exact .inl h
  ·exact .inr ⟨g,cur,he,J.an uL (Iu (W':=W') aA uL),rest⟩
 ·have:=(aA k e.symm).1;omega
def A6 (v:bx) (b1 aP ec iG:Nat) (x:Int×Int):aH:=
 [v,.pointer (some ⟨b1,0,none⟩),.slice none 0 0,.pointer (some ⟨aP,0,none⟩),.pointer (some ⟨ec,0,none⟩),v,.func (.func 186) #[] #[.pointer (some ⟨iG,0,none⟩)],.agg #[.int .i64 x.1,.int .i64 x.2],undef,undef,undef,undef,undef]
theorem VV {M:bB} {W W':av} (h:ay M W W') (c1:∀ k,M k->∃ cs T,aF W k cs T):KeepsFrom B W W':=
 ⟨h.size,λk o _ J aq=>by refine (h.block k (L_.1 J).1 (λhm=>?_)).trans J;obtain ⟨cs,T,ak⟩:=c1 k hm;rw [show W.heap[k]?=_ from ak] at J;cases J;simp [Obj.isCells] at aq⟩
theorem aiC {N:aH->aV} {K:Act->aV} {Q:Exit->Act->aV} (h:∀ env w,N env w->K (act env) w):∀ e a w,C8 (bk N (λ_ _ _=>False)) e a w->Exit.then K Q e a w:=by
 intro e a w aN;obtain ⟨he,env,rfl,aM⟩:=EJ aN;cases e with
 |normal=>exact h _ _ aM
 |panic c=>exact absurd rfl (he.1 c)
 |outgrown=>exact absurd rfl he.2
 | _=>exact aM.elim
theorem ahs (w aY:av) (v:a0) (b1 aP iG:Nat) (DU:0<=v.cY) (zT:v.cY<=1000000) (q6:1<=v.count) (eC:v.count<=1000000)
  (cv:aF aY aP [.slice none 0 0] zE) (Oe:aF aY iG v.cells d8) (cr:aY.heap.size=iG+1) (aj:Go.b8.ai w aY) (hle:w.heap.size<=aP) (Q:Exit->Act->aV)
  (gi:∀ D W,aY.heap.size<=D->No w aP aY.heap.size v.pieces W->W.heap[D]?=some (.deferred (some []))->Q .normal { tmps:=(A6 v.val b1 aP 0 iG (0,0)).toArray.setIfInBounds 4 undef |>.setIfInBounds 7 undef,defers:=[{ target:=.collected D,args:=#[] }] } W) :
  (Code.rangeFunc (.tmp 6) #[7] (sub (b6 f98) [1,1,0,1,0,0]) (.block 1 (sub (b6 f98) [1,1,0,1,0,1,0]))).wpIn Fence.wide 3 prog Q
   {tmps:=(A6 v.val b1 aP 0 iG (0,0)).toArray.setIfInBounds 4 undef |>.setIfInBounds 7 undef,defers:=[] } aY:=by
 have dY:w.heap.size<=aY.heap.size:=aj.size;obtain ⟨inf,aD,aE,j3,gm⟩:=j5 (T:=Dk) (z:=.agg #[.int .i64 0,.int .i64 0]) (n:=2) (m:=16) (by kernel_rfl);have G6:v.pieces.length<=1000000:=by have:=P0 v.count.toNat v.cY v.count;unfold a0.pieces;omega
 refine wpIn_rangeFunc_ownH rfl (by omega) (gf:=186) (lb:=#[.pointer (some ⟨iG,0,none⟩)]) rfl trivial (enters_of Tryz.func186 (by kernel_rfl) rfl)
  (encs:=aa7) (Kp:=Below w.heap.size) (S:=λys=>ys=v.pieces) (Sp:=λpre=>pre <+: v.pieces) (N:=v.pieces.length) (w0:=aY)
  (λl bG s3 W ig DQ ap0 DT aN=>ahW 2 l iG w.heap.size v bG s3 DU zT q6 eC W DQ DT (λu hu=>?_) (by have:=ig.size;omega) aN)
  belowK_t (belowK_b (by omega)) (Below.refl _ _) (λ_=>rfl) (No w aP aY.heap.size) (λ_ _ _=>False) (alr dY) (λ_ _ _ _ _ aX _ _=>aX)
  ⟨none,0,cv,bu.nil _ _ _,(λk J=>by obtain ⟨o,aq⟩:=J;cases aq),aj,eJ _⟩
  (λx cB W=>∃ ec,cB=act (A6 v.val b1 aP ec iG x)/\aF W ec [.int .i64 x.1,.int .i64 x.2] Dk) ?own ?assign ?body ?done ?stop
 ·have al:=cr▸ig;have aL:aF u iG v.cells d8:=by show u.heap[iG]?=_;rw [hu.block iG (by omega),ig.block iG (by omega)];exact Oe
  exact l4 aL
 case own=>rintro x cB _ W W' row ⟨ec,bc,ak⟩ a' aA;exact ⟨ec,bc,(Hi a').an ak (Iu (W':=W') aA ak)⟩
 case assign=>
  intro l pre x W K f_ f';suffices aX:∀ a:Act,a=act ((A6 v.val b1 aP 0 iG x).set 4 undef)->Code.wpIn (Fence.wide.inRound l) (3 - 1 - 1) prog (sub (b6 f98) [1,1,0,1,0,0]) (Exit.then K (λ_ _ _=>False)) a W from aX _ (by kernel_rfl)
  rintro _ rfl;refine wpIn_mono (YZ (by kernel_rfl) l _ (Q:=bk (λenv u=>K (act env) u) (λ_ _ _=>False)) (env:=(A6 v.val b1 aP 0 iG x).set 4 undef) ?_) (aiC λ_ _ h=>h);refine Eq.mpr (aoz v.val (.slice none 0 0) (.pointer (some ⟨b1,0,none⟩)) v.val (.func (.func 186) #[] #[.pointer (some ⟨iG,0,none⟩)]) aP x W _) ?_;rintro ec w1 iO br;obtain ⟨bm,a1⟩:=b4 iO br;refine ⟨kA bm (by simp) (by intro u hu;rcases iF.1 hu with rfl | hu;rfl;simp at hu;subst hu;rfl),?_⟩;rintro aS cG;have bP:aF aS ec [.int .i64 x.1,.int .i64 x.2] Dk:=by rw [cG];exact bm.dO
  have J:Go.b8.ai W aS:=by rw [cG];refine a1.trans (nI _ _ _ _ _) (λk J e=>?_);omega
  obtain ⟨a,cap,yj,B3,uG,Kv,US⟩:=f_;refine f' _ _ (VV J (λk h=>h.elim)) (J.below Kv.size (λ_ _ h=>h)) ⟨a,cap,ai.an J yj,bu.new J B3,uG,Kv.new J,ud US J.size⟩ ⟨ec,rfl,bP⟩
 case body=>
  rintro l pre x cB W au _ f_ ⟨ec,rfl,iO⟩ aK;refine wpIn_block ?_;refine wpIn_mono (YZ (by kernel_rfl) l _ (Q:=bk (λenv u=>KeepsFrom aY.heap.size W u/\Below w.heap.size W u/\No w aP aY.heap.size (pre++[x]) u) (λ_ _ _=>False)) (env:=A6 v.val b1 aP ec iG x) ?_) ?_
  ·refine Eq.mpr (aoA v.val (.slice none 0 0) (.pointer (some ⟨b1,0,none⟩)) v.val (.func (.func 186) #[] #[.pointer (some ⟨iG,0,none⟩)]) (.agg #[.int .i64 x.1,.int .i64 x.2]) aP ec W _) ?_;obtain ⟨a,cap,yj,B3,uG,Kv,US⟩:=f_;refine ⟨a,pre.length,cap,yj.cell rfl,x.1,x.2,cD iO (by simp),?_⟩;rintro jB cK ih eO;obtain ⟨dL,bH⟩:=b4 ih eO;have cV:=bu.new bH B3;rw [<-j3] at cV;obtain ⟨ap,bU,cR,fV,nP,eD,fC⟩:=bu.append (P:=prog) (t:=zE) (ty:=zE) Tryz.underlying181 aD aE (by rw [j3];rfl) (by omega) cV
    (s:=some ⟨jB,0,none⟩) (m:=1) (c:=1) (news:=[.int .i64 x.1,.int .i64 x.2]) (by rw [j3];rfl) (jk dL (by simp)) (by intro u hu;rcases iF.1 hu with rfl | hu;rfl;simp at hu;subst hu;rfl) (by omega) (by rw [gm];omega)
   rw [j3] at nP;have uS:¬ a7 a aP:=λh=>(uG aP h).2 rfl
   have jt:aF cR aP [.slice a pre.length cap] zE:=eD.an (ai.an bH yj) uS;refine ⟨ap,pre.length+1,bU,cR,fV,⟨_,jt.cell rfl⟩,jt.frozen,?_⟩;rintro e6 jn;have fe:ay (λk=>k=aP) cR e6:=by rw [jn];exact iu _ _ _ _
   have mf:aF e6 aP [.slice ap (pre.length+1) bU] zE:=by rw [jn];exact jt.setCell _
   have aDz:aP<W.heap.size:=yj.lt;have qv:∀ k,a7 ap k->w.heap.size<=k/\k≠aP:=by
    intro k J;rcases fC with e | e
    ·exact uG k (e▸J)
    ·obtain ⟨o,aq⟩:=J;rw [e] at aq;simp at aq;have:=bH.size;omega
   have fo:ay (λk=>a7 a k\/k=aP) W e6:=(((ay.db bH).trans eD (λ_ _ h=>.inl h)).trans fe (λ_ _ h=>.inr h));refine ⟨VV fo (λk J=>?_),fo.below Kv.size (λk J hm=>?_),ap,bU,?_,?_,qv,?_,ud US fo.size⟩
   ·rcases J with J | rfl
    ·rcases B3.2 with ⟨he,_⟩ | ⟨g,cur,he,a',_⟩
     ·obtain ⟨o,aq⟩:=J;rw [he] at aq;cases aq
     ·obtain ⟨o,aq⟩:=J;rw [he] at aq;simp at aq;exact ⟨cur,_,aq.1▸a'⟩
    ·exact ⟨_,_,yj⟩
   ·rcases hm with hm | rfl
    ·have:=(uG k hm).1;omega
    ·omega
   ·simpa using mf
   ·rw [ahY];have:=bu.aO fe nP (λk J=>(qv k J).2);simpa using this
   ·refine Kv.trans fo (λk J hm=>?_);rcases hm with hm | rfl
    ·have:=(uG k hm).1;omega
    ·omega
  ·intro e a w aN;obtain ⟨he,env,rfl,aM⟩:=EJ aN;cases e with
   |normal=>exact aM
   |panic c=>exact absurd rfl (he.1 c)
   |outgrown=>exact absurd rfl he.2
   | _=>exact aM.elim
 case done=>rintro D ys W fs rfl f_ f';exact gi D W fs f_ f'
 case stop=>rintro D c pre W _ _ h _;exact h.elim
abbrev Y0 (v:bx) (b1 aP iG:Nat):Array bx:=(A6 v b1 aP 0 iG (0,0)).toArray.setIfInBounds 4 undef |>.setIfInBounds 7 undef
theorem aht (v:bx) (b1 aP iG D:Nat) (R:Ending->aV) (W:av) (a:ax) (n cap:Nat) (ak:aF W aP [.slice a n cap] zE) (f':W.heap[D]?=some (.deferred (some []))) (cC:R (.returned (.slice a n cap)) (W.putObj D (.deferred none))) :
  (sub (b6 f98) [1,1,1]).wpIn Fence.wide 3 prog (bodyPostM Fence.wide 3 prog f98 R) { tmps:=Y0 v b1 aP iG,defers:=[{ target:=.collected D,args:=#[] }] } W:=by
 have ab:W.cell? ⟨aP,0,none⟩=some (.slice a n cap):=ak.cell rfl;simp only [b6,sub,f98,Y0,A6]
 gi_wp2
 refine ⟨by simp,.inl ⟨_,_,rfl,run_takeDeferred f',?_⟩⟩;exact ⟨_,results_tmp (t:=2) rfl _ _ _,cC⟩
theorem ajt (w:av) (v:a0) (DU:0<=v.cY) (zT:v.cY<=1000000) (q6:1<=v.count) (eC:v.count<=1000000):bK 98 [v.val] w λx w'=>
  ∃ a cap,x=.slice a v.pieces.length cap/\bu w' Dk 2 a v.pieces.length cap (y_ v.pieces).flatten/\Go.b8.ai w w'/\(∀ k,a7 a k->w.heap.size<=k):=by
 refine (callsIn_wide (n:=3)).1 ?_;refine callsIn_of_wp_marks (c:=.seq (sub (b6 f98) [0]) (.seq (sub (b6 f98) [1,0]) (.seq (.seq (sub (b6 f98) [1,1,0,0]) (.block 0 (.rangeFunc (.tmp 6) #[7] (sub (b6 f98) [1,1,0,1,0,0]) (.block 1 (sub (b6 f98) [1,1,0,1,0,1,0]))))) (sub (b6 f98) [1,1,1])))) Tryz.func98 (by kernel_rfl) trivial ?_ rfl;suffices aX:∀ a:Act,a=act [v.val,undef,undef,undef,undef,undef,undef,undef,undef,undef,undef,undef,undef]->Code.wpIn Fence.wide 3 prog _ _ a w from aX _ (by kernel_rfl)
 rintro _ rfl;refine wpIn_wide.2 ?_;refine R9 mix (N:=λenv u=>∃ b1,env=[v.val,.pointer (some ⟨b1,0,none⟩),.slice none 0 0,undef,undef,undef,undef,undef,undef,undef,undef,undef,undef]/\b1=w.heap.size/\aF u b1 v.cells d8/\Go.b8.ai w u/\u.heap.size=b1+1) ?_ ?_
 ·rw [aoo];rintro b1 w1 ak hw;obtain ⟨aE,aj⟩:=b4 ak hw;exact ⟨b1,rfl,ak,aE,aj,by rw [hw,ak];simp⟩
 rintro _ w1 ⟨b1,rfl,bA,bm,a1,fI⟩;refine R9 mix (N:=λenv u=>∃ aP,env=[v.val,.pointer (some ⟨b1,0,none⟩),.slice none 0 0,.pointer (some ⟨aP,0,none⟩),undef,undef,undef,undef,undef,undef,undef,undef,undef]/\aP=w1.heap.size/\aF u aP [.slice none 0 0] zE/\aF u b1 v.cells d8/\Go.b8.ai w u) ?_ ?_
 ·rw [aop];rintro aP aS ak hw;obtain ⟨aE,aj⟩:=b4 ak hw;exact ⟨aP,rfl,ak,aE,ai.an aj bm,a1.new aj⟩
 rintro _ aS ⟨aP,rfl,cv,bP,gM,a5⟩;refine wp_seq ?_;refine R9 mix (N:=λenv u=>∃ iG,env=[v.val,.pointer (some ⟨b1,0,none⟩),.slice none 0 0,.pointer (some ⟨aP,0,none⟩),undef,v.val,.func (.func 186) #[] #[.pointer (some ⟨iG,0,none⟩)],undef,undef,undef,undef,undef,undef]/\aF u aP [.slice none 0 0] zE/\aF u iG v.cells d8/\u.heap.size=iG+1/\Go.b8.ai w u) ?_ ?_
 ·rw [aoq];refine py (v:=v) (l4 gM) ?_;refine aR (ajs _ v) ?_;rintro r aY ⟨rfl,ph,bf,j2⟩;exact ⟨_,rfl,aS.heap.size,rfl,ai.an bf bP,ph,j2,a5.new bf⟩
 rintro _ aY ⟨iG,rfl,cx,ph,j2,bf⟩;refine (wpIn_wide (n:=3)).1 (wpIn_block ?_);refine ahs w aY v b1 aP iG DU zT q6 eC cx ph j2 bf (by rw [cv];exact a1.size) _ ?_;rintro D W fs ⟨a,cap,ak,aq,bc,aj,aX⟩ f';refine (wpIn_wide (n:=3)).1 (aht v.val b1 aP iG D _ W a _ cap ak f' ?_);have D8:Go.b8.ai w (W.putObj D (.deferred none)):=by refine aj.trans (Hi (grownBy_putObj' W D _)) (λk J e=>?_);simp at e;have:=bf.size;omega
 have aqz:∀ k cs T,aF W k cs T->aF (W.putObj D (.deferred none)) k cs T:=by
  intro k cs T ak;refine (Hi (grownBy_putObj' W D (.deferred none))).an ak (λe=>?_)
  simp at e;subst e;rw [show W.heap[k]?=_ from ak] at f';cases f'
 refine ⟨_,rfl,a,cap,rfl,?_,D8,λk J=>(bc k J).1⟩;refine ⟨aq.1,?_⟩;rcases aq.2 with h | ⟨g,cur,he,a',rest⟩
 ·exact .inl h
 ·exact .inr ⟨g,cur,he,aqz _ _ _ a',rest⟩
theorem akq (w:av) (v:a0) (DU:0<=v.cY) (zT:v.cY<=1000000) (q6:1<=v.count) (eC:v.count<=1000000):bK 98 [v.val] w λx w'=>
  ∃ a cap,x=.slice a v.pieces.length cap/\bW w' a (y_ v.pieces).flatten/\Go.b8.ai w w'/\(∀ k,a7 a k->w.heap.size<=k):=
 Calls.mono (ajt w v DU zT q6 eC) λe w' ⟨x,he,a,cap,ao,aq,aj,J⟩=>⟨x,he,a,cap,ao,bu.rd aq,aj,J⟩
end
end Go.Proofs.YtmkljjbioomepaaGreat
