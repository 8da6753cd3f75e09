import Derived.Test.YtmkljjbioomepaaGreatf03
import Derived.OwnWalkIn
import Derived.TacticsInMore
import Derived.WalkKit
import Derived.Shelf.Abstract
import Derived.Test.YtmkljjbioomepaaGreatProg
import Derived.Test.YtmkljjbioomepaaGreatf02
set_option linter.all false
set_option maxHeartbeats 4000000
set_option maxRecDepth 100000
namespace Go.Proofs.YtmkljjbioomepaaGreat
open Go.Proofs.Tryz Go.bd
variable {B:Nat}{N:au->aK}{P:c7}{Q:Exit->Act->aK}{env:au}{w:aj}
section
open Go.RowKit
theorem B_:∀ (f:Nat)(at_ left:Int),0<=at_->∀ p ∈ hC f at_ left,at_<=p.1/\1<=p.2/\p.2<=8/\p.1+p.2<=at_+left
 | 0,_,_,_,p,a=>by grind[hC]
 |f+1,at_,left,b,p,a=>by
  unfold hC at a;split at a
  ·grind
  ·rename_i c;rcases gw.1 a with rfl | a
   ·grind
   ·have:=B_ f _ _ (by grind) p a
    grind
theorem KO (f:Nat)(at_ left:Int)(h:1<=left)(a:1<=f):hC f at_ left≠[]:=by
 cases f with
 |zero=>omega
 |succ f=>unfold hC;grind
theorem yQ:∀ (f:Nat)(at_ left:Int),(hC f at_ left).length<=f
 | 0,_,_=>by simp[hC]
 |f+1,at_,left=>by
  unfold hC;split
  ·simp
  ·simp only[jB];have:=yQ f (at_+(if 8-at_ % 8<left then 8-at_ % 8 else left)) (left-(if 8-at_ % 8<left then 8-at_ % 8 else left));omega
def nf (cp:List (Int×Int)):List au:=cp.map λp=>[.int .i64 p.1,.int .i64 p.2]
theorem My (cp:List (Int×Int)):∀ r ∈ nf cp,r.length=2:=by
 grind[nf]
theorem Mz {cp:List (Int×Int)}{i:Nat}{p:Int×Int}(h:cp[i]?=some p):(nf cp)[i]?=some [.int .i64 p.1,.int .i64 p.2]:=by grind[nf]
abbrev qH:bU:=185
end
section
open Go.RowKit
theorem AY (hm:P.follows .mixedOrders=true){a b:Code}(h:W P a env (aM N (λ_ _ _=>False)) w)(i:∀ env w,N env w->b.wp P Q (act env) w):(Code.seq a b).wp P Q (act env) w:=by
 refine wp_seq (wp_mono (p5 hm a env _ w h) λe bS w' f=>?_);obtain⟨he,d,j,g⟩:=re f;subst j;clear f;cases e with
 |normal=>exact i d w' g
 |panic c=>grind
 |outgrown=>grind
 | _=>exact g.elim
theorem Ox (w:aj)(v:aI):a9 138 [v.val] w λr w'=>r=.func (.func 186) #[] #[.pointer (some ⟨w.heap.size,0,none⟩)]/\aq w' w.heap.size v.cells cK/\Go.bd.ai w w'/\w'.heap.size=w.heap.size+1:=by refine a' Tryz.func138 ?_;refine Eq.mpr (Ks v.Kind v.Node v.cI v.N v.Old v.ai v.Words v.dd v.c0 v.Key v.cB w _) ?_;rintro b1 w1 a b;obtain⟨ax,c⟩:=bo a b;refine⟨by rw[a],a▸ax,c,by simp_all⟩
theorem PS (v:aI)(w:aj)(N:au->aK):W prog (sub (ay f98) [0]) [v.val,undef,undef,undef,undef,undef,undef,undef,undef,undef,undef,undef,undef] (aM N (λ_ _ _=>False)) w =
  (∀ b1 w1,b1=w.heap.size->w1=w.alloc (.cells v.cells.toArray 158)->N [v.val,.pointer (some ⟨b1,0,none⟩),.slice none 0 0,undef,undef,undef,undef,undef,undef,undef,undef,undef,undef] w1):=by kernel_rfl
theorem PT (v x:bl)(b:Nat)(w:aj)(N:au->aK):W prog (sub (ay f98) [1,0]) [v,.pointer (some ⟨b,0,none⟩),x,undef,undef,undef,undef,undef,undef,undef,undef,undef,undef] (aM N (λ_ _ _=>False)) w =
  (∀ b1 w1,b1=w.heap.size->w1=w.alloc (.cells #[.slice none 0 0] 181)->N [v,.pointer (some ⟨b,0,none⟩),x,.pointer (some ⟨b1,0,none⟩),undef,undef,undef,undef,undef,undef,undef,undef,undef] w1):=by kernel_rfl
def Ax (o:Oper):Bool:=match o.op with |.defer _=>false | _=>true
def plain:Code->Bool
 |.region _ ops false=>ops.toList.all Ax
 | _=>false
theorem Me {o:Oper}{a:Act}{next next':Act->aK}(r n:Nat)(j:∀ a w,next a w->next' a w):∀ {x:Result Next},o.uponIn Fence.wide 0 P a next Q x->o.uponIn (Fence.wide.inRound r) n P a next' Q x
 |.ok (.value v) w',h=>j _ _ h
 |.ok .skip w',h=>j _ _ h
 |.ok (.defer d) w',h=>j _ _ h
 |.ok (.enter f args) w',h=>by
  refine⟨λb=>by simp[Fence.wide]at b,trivial,λcs _=>?_⟩;obtain⟨e,i,p,k,g,q⟩:=h.2.2 cs (room_wide _);refine⟨e,i,p,?_,g,q⟩
  grind
 |.ok (.row row args) w',h=>by refine⟨λb=>by simp[Fence.wide]at b,λc cs _=>?_⟩;obtain⟨v,i,k,g⟩:=h.2 c cs (room_wide _);exact⟨v,i,j _ _ k,g⟩
 |.ok (.round l f tmps assign body) w',h=>by
  refine⟨λb=>by simp[Fence.wide]at b,trivial,λc cs _=>?_⟩;obtain⟨e,i,k,g⟩:=h.2.2 c cs (room_wide _);refine⟨e,i,?_,g⟩
  grind
 |.halt (.panic v) w',h=>h
 |.halt (.stuck s) w',h=>by cases h
theorem CW {P:c7}{ops:Array Oper}{Q:Exit->Act->aK}(r n:Nat):∀ (l:e9) (a:Act) (w:aj),(∀ o ∈ l,Ax o=true)->wpListIn Fence.wide 0 P ops Q l a w->wpListIn (Fence.wide.inRound r) n P ops Q l a w
 | [],_,_,_,h=>h
 |o::l,a,w,d,h=>by
  have g:=λa w=>CW (P:=P) (ops:=ops) (Q:=Q) r n l a w λo e=>d o (gm _ e)
  unfold wpListIn at h ⊢;split at h
  ·rename_i hw;rw[bm hw];refine⟨λ_ _=>trivial,?_⟩;have b:=h.2;rw[show Fence.wide.round=none from rfl,Oper.semAt_none]at b;rw[show(Fence.wide.inRound r).round=some r from rfl,Oper.semAt_some _ _ _ (λc f=>by grind[List.mem_cons_self,Ax])]
   grind[Me]
  simp_all
theorem E3 {c:Code}(e:plain c=true){Q:Exit->au->aK}(r n:Nat)(h:W P c env Q w):c.wpIn (Fence.wide.inRound r) n P (qw Q) (act env) w:=by
 cases c with
 |region id ops d=>
  cases d with
  |true=>grind[plain]
  |false=>
   unfold W at h;refine wpIn_region_list (CW r n _ _ _ (λo b=>?_) (oU (all:=ops.toList) ops.toList env w (Q .normal) (λenv w a=>jm a ⟨λ_=>by simp,by simp⟩) h))
   grind[plain,List.all_eq_true]
 | _=>grind[plain]
theorem PU (v x:bl)(b az:Nat)(w:aj)(N:au->aK):W prog (sub (ay f98) [1,1,0,0]) [v,.pointer (some ⟨b,0,none⟩),x,.pointer (some ⟨az,0,none⟩),undef,undef,undef,undef,undef,undef,undef,undef,undef] (aM N (λ_ _ _=>False)) w =
  (∃ (Kind:Int) (Node:Int) (f:Int) (g:Int) (Old:Int) (ai:Int) (Words:an) (c:Nat) (a:Nat) (Key:Int) (d:Int),b6 w ⟨b,0,none⟩ 0 [(.int .i64 Kind),(.int .i64 Node),(.int .i64 f),(.int .i64 g),(.int .u64 Old),(.int .u64 ai),(.slice Words c a),(.int .u64 Key),(.int .i64 d)]/\
   Calls prog 138 #[(.agg #[(.int .i64 Kind),(.int .i64 Node),(.int .i64 f),(.int .i64 g),(.int .u64 Old),(.int .u64 ai),(.slice Words c a),(.int .u64 Key),(.int .i64 d)])] w λe h=>∃ r,e=.returned r/\
    N [v,.pointer (some ⟨b,0,none⟩),x,.pointer (some ⟨az,0,none⟩),undef,(.agg #[(.int .i64 Kind),(.int .i64 Node),(.int .i64 f),(.int .i64 g),(.int .u64 Old),(.int .u64 ai),(.slice Words c a),(.int .u64 Key),(.int .i64 d)]),r,undef,undef,undef,undef,undef,undef] h):=by kernel_rfl
theorem Tf (v x y z r:bl)(az:Nat)(p:Int×Int)(w:aj)(N:au->aK):W prog (sub (ay f98) [1,1,0,1,0,0]) [v,y,x,.pointer (some ⟨az,0,none⟩),undef,z,r,.agg #[.int .i64 p.1,.int .i64 p.2],undef,undef,undef,undef,undef] (aM N (λ_ _ _=>False)) w =
  (∀ b1 w1,b1=w.heap.size->w1=w.alloc (.cells #[.int .i64 0,.int .i64 0] qH)->dT w1 ⟨b1,0,none⟩ 0 [.int .i64 p.1,.int .i64 p.2]/\∀ a,a=cv w1 ⟨b1,0,none⟩ 0 [.int .i64 p.1,.int .i64 p.2]->
   N [v,y,x,.pointer (some ⟨az,0,none⟩),.pointer (some ⟨b1,0,none⟩),z,r,.agg #[.int .i64 p.1,.int .i64 p.2],undef,undef,undef,undef,undef] a):=by kernel_rfl
theorem Tg (v x y z r t:bl)(az f:Nat)(w:aj)(N:au->aK):W prog (sub (ay f98) [1,1,0,1,0,1,0]) [v,y,x,.pointer (some ⟨az,0,none⟩),.pointer (some ⟨f,0,none⟩),z,r,t,undef,undef,undef,undef,undef] (aM N (λ_ _ _=>False)) w =
  (∃ (a:an) (n c:Nat),w.cell? ⟨az,0,none⟩=some (.slice a n c)/\∃ (g h:Int),b6 w ⟨f,0,none⟩ 0 [.int .i64 g,.int .i64 h]/\∀ b1 w1,b1=w.heap.size->w1=w.alloc (.cells #[.int .i64 g,.int .i64 h] qH)->
   ∃ (ap:an) (d b:Nat),∃ e,(Builtin.append_ #[181,181] 181 #[(.slice a n c),(.slice (some ⟨b1,0,none⟩) 1 1)]).run prog w1=.ok (.slice ap d b) e/\
    (∃ u,e.cell? ⟨az,0,none⟩=some u)/\e.frozen? ⟨az,0,none⟩=false/\∀ i,i=e.setCell ⟨az,0,none⟩ (.slice ap d b)->
    N [v,y,x,.pointer (some ⟨az,0,none⟩),.pointer (some ⟨f,0,none⟩),z,r,t,.slice a n c,.agg #[.int .i64 g,.int .i64 h],.slice (some ⟨b1,0,none⟩) 1 1,.slice ap d b,undef] i):=by kernel_rfl
end
section
open Go.RowKit Go.Shelf
abbrev ov:bU:=181
theorem Mf (cp:List (Int×Int))(p:Int×Int):(nf (cp++[p])).flatten=(nf cp).flatten++[.int .i64 p.1,.int .i64 p.2]:=by simp[nf]
def xq (w:aj)(az B:Nat)(pre:List (Int×Int))(u:aj):Prop:=
 ∃ a cap,aq u az [.slice a pre.length cap] ov/\aZ u qH 2 a pre.length cap (nf pre).flatten/\(∀ k,aP a k->w.heap.size<=k/\k≠az)/\Go.bd.ai w u/\B<=u.heap.size
theorem uf {W W':aj}{row:Option Nat}{k:Nat}{cs:au}{T:bU}(d:∀ r,row=some r->B<=r/\∃ o:Obj,W.heap[r]?=some o/\o.isCells=false)(b:aq W k cs T):some k≠row:=by intro h;obtain⟨_,o,a,c⟩:=d k h.symm;rw[show W.heap[k]?=_ from b]at a;cases a;simp[Obj.isCells]at c
theorem PE {az:Nat}(q:w.heap.size<=B):OwnFrom B (xq w az B):=by
 rintro pre W W' row ⟨a,cap,d,i,l,o,p⟩ f j;have c:=sU f;refine⟨a,cap,c.ak d (uf (W':=W') j d),?_,l,o.trans c (λk n e=>?_),m2 p f.size⟩
 ·refine⟨i.1,?_⟩;rcases i.2 with h | ⟨g,cur,he,b,rest⟩
  ·grind
  ·exact .inr ⟨g,cur,he,c.ak b (uf (W':=W') j b),rest⟩
 grind
def o_ (v:bl)(b1 az b a:Nat)(x:Int×Int):au:=
 [v,.pointer (some ⟨b1,0,none⟩),.slice none 0 0,.pointer (some ⟨az,0,none⟩),.pointer (some ⟨b,0,none⟩),v,.func (.func 186) #[] #[.pointer (some ⟨a,0,none⟩)],.agg #[.int .i64 x.1,.int .i64 x.2],undef,undef,undef,undef,undef]
theorem Cb {M:a6}{W W':aj}(h:ao M W W')(b:∀ k,M k->∃ cs T,aq W k cs T):KeepsFrom B W W':=
 ⟨h.size,λk o _ a d=>by refine(h.block k (Ci.1 a).1 (λhm=>?_)).trans a;obtain⟨cs,T,c⟩:=b k hm;rw[show W.heap[k]?=_ from c]at a;cases a;simp[Obj.isCells]at d⟩
theorem MB {K:Act->aK}(h:∀ env w,N env w->K (act env) w):∀ e a w,qw (aM N (λ_ _ _=>False)) e a w->Exit.then K Q e a w:=by
 intro e a w d;obtain⟨he,env,rfl,b⟩:=re d;cases e with
 |normal=>exact h _ _ b
 |panic c=>grind
 |outgrown=>grind
 | _=>exact b.elim
theorem Lt (w f:aj)(v:aI)(b1 az d:Nat)(ad:0<=v.cI)(ae:v.cI<=1000000)(aE:1<=v.count)(aL:v.count<=1000000)
  (ag:aq f az [.slice none 0 0] ov) (Z:aq f d v.cells cK) (a1:f.heap.size=d+1) (bm:Go.bd.ai w f) (hle:w.heap.size<=az) (Q:Exit->Act->aK)
  (c4:∀ D W,f.heap.size<=D->xq w az f.heap.size v.pieces W->W.heap[D]?=some (.deferred (some []))->Q .normal {tmps:=(o_ v.val b1 az 0 d (0,0)).toArray.setIfInBounds 4 undef |>.setIfInBounds 7 undef,defers:=[{target:=.collected D,args:=#[]}]} W) :
  (Code.rangeFunc (.tmp 6) #[7] (sub (ay f98) [1,1,0,1,0,0]) (.block 1 (sub (ay f98) [1,1,0,1,0,1,0]))).wpIn Fence.wide 3 prog Q
   {tmps:=(o_ v.val b1 az 0 d (0,0)).toArray.setIfInBounds 4 undef |>.setIfInBounds 7 undef,defers:=[]} f:=by
 have a5:w.heap.size<=f.heap.size:=bm.size;obtain⟨inf,bV,ax,J,bR⟩:=ft (T:=qH) (z:=.agg #[.int .i64 0,.int .i64 0]) (n:=2) (m:=16) (by kernel_rfl);have aV:v.pieces.length<=1000000:=by grind[yQ,aI.pieces]
 refine wpIn_rangeFunc_ownH rfl (by omega) (gf:=186) (lb:=#[.pointer (some ⟨d,0,none⟩)]) rfl trivial (enters_of Tryz.func186 (by kernel_rfl) rfl)
  (encs:=G6) (Kp:=Below w.heap.size) (S:=λys=>ys=v.pieces) (Sp:=λpre=>pre <+: v.pieces) (N:=v.pieces.length) (w0:=f)
  (λl bs bx W eT bH bK bN Y=>Md 2 l d w.heap.size v bs bx ad ae aE aL W bH bN (λu hu=>?_) (by have:=eT.size;omega) Y)
  belowK_t (belowK_b (by omega)) (Below.refl _ _) (λ_=>rfl) (xq w az f.heap.size) (λ_ _ _=>False) (PE a5) (λ_ _ _ _ _ aW _ _=>aW)
  ⟨none,0,ag,aZ.nil _ _ _,(λk b=>by obtain⟨o,L⟩:=b;cases L),bm,dr _⟩
  (λx bS W=>∃ r,bS=act (o_ v.val b1 az r d x)/\aq W r [.int .i64 x.1,.int .i64 x.2] qH) ?own ?assign ?body ?done ?stop
 ·have bY:=a1▸eT;have bG:aq u d v.cells cK:=by show u.heap[d]?=_;rw[hu.block d (by omega),eT.block d (by omega)];exact Z
  exact g8 bG
 case own=>rintro x bS _ W W' row ⟨r,bO,bh⟩ bk bX;exact⟨r,bO,(sU bk).ak bh (uf (W':=W') bX bh)⟩
 case assign=>
  intro l pre x W K ab bL;suffices aW:∀ a:Act,a=act ((o_ v.val b1 az 0 d x).set 4 undef)->Code.wpIn (Fence.wide.inRound l) (3-1-1) prog (sub (ay f98) [1,1,0,1,0,0]) (Exit.then K (λ_ _ _=>False)) a W from aW _ (by kernel_rfl)
  rintro _ rfl;refine wpIn_mono (E3 (by kernel_rfl) l _ (Q:=aM (λenv u=>K (act env) u) (λ_ _ _=>False)) (env:=(o_ v.val b1 az 0 d x).set 4 undef) ?_) (MB λ_ _ h=>h);refine Eq.mpr (Tf v.val (.slice none 0 0) (.pointer (some ⟨b1,0,none⟩)) v.val (.func (.func 186) #[] #[.pointer (some ⟨d,0,none⟩)]) az x W _) ?_;rintro r w1 G a4;obtain⟨X,aR⟩:=bo G a4;refine⟨fU X (by simp) (by intro u hu;rcases gw.1 hu with rfl | hu;rfl;simp at hu;subst hu;rfl),?_⟩;rintro br U;have a8:aq br r [.int .i64 x.1,.int .i64 x.2] qH:=by rw[U];exact X.cv
  have b:Go.bd.ai W br:=by rw[U];refine aR.trans (hD _ _ _ _ _) (λk b e=>?_);omega
  obtain⟨a,cap,j,B,F,p,I⟩:=ab;refine bL _ _ (Cb b (λk h=>h.elim)) (b.below p.size (λ_ _ h=>h)) ⟨a,cap,ai.ak b j,aZ.new b B,F,p.new b,m2 I b.size⟩ ⟨r,rfl,a8⟩
 case body=>
  rintro l pre x bS W b4 _ ab ⟨r,rfl,G⟩ bW;refine wpIn_block ?_;refine wpIn_mono (E3 (by kernel_rfl) l _ (Q:=aM (λenv u=>KeepsFrom f.heap.size W u/\Below w.heap.size W u/\xq w az f.heap.size (pre++[x]) u) (λ_ _ _=>False)) (env:=o_ v.val b1 az r d x) ?_) ?_
  ·refine Eq.mpr (Tg v.val (.slice none 0 0) (.pointer (some ⟨b1,0,none⟩)) v.val (.func (.func 186) #[] #[.pointer (some ⟨d,0,none⟩)]) (.agg #[.int .i64 x.1,.int .i64 x.2]) az r W _) ?_;obtain ⟨a,cap,j,B,F,p,I⟩:=ab;refine ⟨a,pre.length,cap,j.cell rfl,x.1,x.2,bJ G (by simp),?_⟩;rintro bD b5 aB a7;obtain ⟨a9,A⟩:=bo aB a7;have E:=aZ.new A B;rw [<-J] at E;obtain ⟨ap,i,a',R,q,M,af⟩:=aZ.append (P:=prog) (t:=ov) (ty:=ov) Tryz.underlying181 bV ax (by rw [J];rfl) (by omega) E
    (s:=some ⟨bD,0,none⟩) (m:=1) (c:=1) (news:=[.int .i64 x.1,.int .i64 x.2]) (by grind) (e6 a9 (by simp)) (by intro u hu;rcases gw.1 hu with rfl | hu;rfl;simp at hu;subst hu;rfl) (by omega) (by grind)
   rw[J]at q;have aT:¬ aP a az:=λh=>(F az h).2 rfl
   have H:aq a' az [.slice a pre.length cap] ov:=M.ak (ai.ak A j) aT;refine⟨ap,pre.length+1,i,a',R,⟨_,H.cell rfl⟩,H.frozen,?_⟩;rintro bb V;have O:ao (λk=>k=az) a' bb:=by rw[V];exact eY _ _ _ _
   have bQ:aq bb az [.slice ap (pre.length+1) i] ov:=by rw[V];exact H.setCell _
   have ah:az<W.heap.size:=j.lt;have C:∀ k,aP ap k->w.heap.size<=k/\k≠az:=by
    intro k b;rcases af with e | e
    ·grind
    ·obtain⟨o,L⟩:=b;rw[e]at L;simp at L;have:=A.size;omega
   have y:ao (λk=>aP a k\/k=az) W bb:=(((ao.b7 A).trans M (λ_ _ h=>.inl h)).trans O (λ_ _ h=>.inr h));refine⟨Cb y (λk b=>?_),y.below p.size (λk b hm=>?_),ap,i,?_,?_,C,?_,m2 I y.size⟩
   ·rcases b with b | rfl
    ·rcases B.2 with⟨he,_⟩ | ⟨g,cur,he,bk,_⟩
     ·obtain⟨o,L⟩:=b;grind
     ·obtain⟨o,L⟩:=b
      grind
    grind
   ·grind
   ·grind
   ·rw[Mf];have:=aZ.aC O q (λk b=>(C k b).2)
    grind
   ·refine p.trans y (λk b hm=>?_)
    grind
  ·intro e a w Y;obtain⟨he,env,rfl,bq⟩:=re Y;cases e with
   |normal=>exact bq
   |panic c=>grind
   |outgrown=>grind
   | _=>exact bq.elim
 case done=>
  grind
 grind
abbrev E4 (v:bl)(b1 az a:Nat):en:=(o_ v b1 az 0 a (0,0)).toArray.setIfInBounds 4 undef |>.setIfInBounds 7 undef
theorem Lu (v:bl)(b1 az b D:Nat)(R:Ending->aK)(W:aj)(a:an)(n cap:Nat)(e:aq W az [.slice a n cap] ov)(c:W.heap[D]?=some (.deferred (some [])))(d:R (.returned (.slice a n cap)) (W.putObj D (.deferred none))) :
  (sub (ay f98) [1,1,1]).wpIn Fence.wide 3 prog (bodyPostM Fence.wide 3 prog f98 R) {tmps:=E4 v b1 az b,defers:=[{target:=.collected D,args:=#[]}]} W:=by
 have f:W.cell? ⟨az,0,none⟩=some (.slice a n cap):=e.cell rfl;simp only[ay,sub,f98,E4,o_]
 gi_wp2
 refine⟨by simp,.inl ⟨_,_,rfl,run_takeDeferred c,?_⟩⟩;exact⟨_,results_tmp (t:=2) rfl _ _ _,d⟩
theorem Oy (w:aj)(v:aI)(q:0<=v.cI)(s:v.cI<=1000000)(t:1<=v.count)(y:v.count<=1000000):a9 98 [v.val] w λx w'=>
  ∃ a cap,x=.slice a v.pieces.length cap/\aZ w' qH 2 a v.pieces.length cap (nf v.pieces).flatten/\Go.bd.ai w w'/\(∀ k,aP a k->w.heap.size<=k):=by
 refine(callsIn_wide (n:=3)).1 ?_;refine callsIn_of_wp_marks (c:=.seq (sub (ay f98) [0]) (.seq (sub (ay f98) [1,0]) (.seq (.seq (sub (ay f98) [1,1,0,0]) (.block 0 (.rangeFunc (.tmp 6) #[7] (sub (ay f98) [1,1,0,1,0,0]) (.block 1 (sub (ay f98) [1,1,0,1,0,1,0]))))) (sub (ay f98) [1,1,1])))) Tryz.func98 (by kernel_rfl) trivial ?_ rfl;suffices J:∀ a:Act,a=act [v.val,undef,undef,undef,undef,undef,undef,undef,undef,undef,undef,undef,undef]->Code.wpIn Fence.wide 3 prog _ _ a w from J _ (by kernel_rfl)
 rintro _ rfl;refine wpIn_wide.2 ?_;refine AY mix (N:=λenv u=>∃ b1,env=[v.val,.pointer (some ⟨b1,0,none⟩),.slice none 0 0,undef,undef,undef,undef,undef,undef,undef,undef,undef,undef]/\b1=w.heap.size/\aq u b1 v.cells cK/\Go.bd.ai w u/\u.heap.size=b1+1) ?_ ?_
 ·rw[PS];rintro b1 w1 d hw;obtain⟨ax,l⟩:=bo d hw
  simp_all
 rintro _ w1 ⟨b1,rfl,O,C,A,Q⟩;refine AY mix (N:=λenv u=>∃ az,env=[v.val,.pointer (some ⟨b1,0,none⟩),.slice none 0 0,.pointer (some ⟨az,0,none⟩),undef,undef,undef,undef,undef,undef,undef,undef,undef]/\az=w1.heap.size/\aq u az [.slice none 0 0] ov/\aq u b1 v.cells cK/\Go.bd.ai w u) ?_ ?_
 ·rw[PT];rintro az K d hw;obtain⟨ax,l⟩:=bo d hw;exact⟨az,rfl,d,ax,ai.ak l C,A.new l⟩
 rintro _ K ⟨az,rfl,P,E,o,B⟩;refine wp_seq ?_;refine AY mix (N:=λenv u=>∃ j,env=[v.val,.pointer (some ⟨b1,0,none⟩),.slice none 0 0,.pointer (some ⟨az,0,none⟩),undef,v.val,.func (.func 186) #[] #[.pointer (some ⟨j,0,none⟩)],undef,undef,undef,undef,undef,undef]/\aq u az [.slice none 0 0] ov/\aq u j v.cells cK/\u.heap.size=j+1/\Go.bd.ai w u) ?_ ?_
 ·rw[PU];refine i' (v:=v) (g8 o) ?_;refine aE (Ox _ v) ?_;rintro r L ⟨rfl,f,b,i⟩;exact⟨_,rfl,K.heap.size,rfl,ai.ak b E,f,i,B.new b⟩
 rintro _ L ⟨j,rfl,F,f,i,b⟩;refine(wpIn_wide (n:=3)).1 (wpIn_block ?_);refine Lt w L v b1 az j q s t y F f i b (by grind) _ ?_;rintro D W R ⟨a,cap,d,I,M,l,J⟩ p;refine(wpIn_wide (n:=3)).1 (Lu v.val b1 az j D _ W a _ cap d p ?_);have z:Go.bd.ai w (W.putObj D (.deferred none)):=by refine l.trans (sU (grownBy_putObj' W D _)) (λk H e=>?_);simp at e;have:=b.size;omega
 have G:∀ k cs T,aq W k cs T->aq (W.putObj D (.deferred none)) k cs T:=by
  intro k cs T d;refine(sU (grownBy_putObj' W D (.deferred none))).ak d (λe=>?_)
  simp at e;subst e;rw[show W.heap[k]?=_ from d]at p;cases p
 refine⟨_,rfl,a,cap,rfl,?_,z,λk H=>(M k H).1⟩;refine⟨I.1,?_⟩;rcases I.2 with h | ⟨g,cur,he,S,rest⟩
 ·grind
 grind
theorem Oz (w:aj)(v:aI)(b:0<=v.cI)(c:v.cI<=1000000)(d:1<=v.count)(f:v.count<=1000000):a9 98 [v.val] w λx w'=>
  ∃ a cap,x=.slice a v.pieces.length cap/\bh w' a (nf v.pieces).flatten/\Go.bd.ai w w'/\(∀ k,aP a k->w.heap.size<=k):=
 Calls.mono (Oy w v b c d f) λe w' ⟨x,he,a,cap,j,i,h,g⟩=>⟨x,he,a,cap,j,aZ.rd i,h,g⟩
end
section
open IntKind
variable (w:aj)(R:bg){a b c d:Nat}{i k l:Int}{s t:an}{A:aw}{j:al}{F:Bool}
theorem JD:bc prog f20 [bb a,ab i,ab k] R w=(lY 39 #[bb a,ab i] w λe h=>cond (Option.isNone e) (R (.tuple #[ag 0,ad false]) h) (rf 40 #[.pointer e,ab k,ab 1] h λb c d f g=>cond (f != 0) (R (.tuple #[ag 0,ad false]) g) (cond ((c:Int) != 1) (R (.tuple #[ag 0,ad false]) g) (bk b c 0 1 λj=>dp g j λx=>R (.tuple #[ag x,ad true]) g)))):=by kernel_rfl
theorem ZW:bc prog f23 [ab i,ab k,ab l] R w=(BZ 46 #[ab i,ab k,ab l] w λa b d=>cond (b != 0) (R (.tuple #[.pointer none,ad false]) d) (cond (Option.isNone a) (R (.tuple #[.pointer none,ad false]) d) (cx 47 #[.pointer a] d λc e=>cond (c != 0) (R (.tuple #[.pointer none,ad false]) e) (R (.tuple #[.pointer a,ad true]) e)))):=by kernel_rfl
theorem JE:bc prog f35 [bb a,af s b c,ab i] R w=(eV 36 #[bb a] w λt d f j=>cond ((d:Int) == 0) (R (ad false) j) (cond (i<(b:Nat)) (bk s b i 1 λz=>bN j z λx=>cx 12 #[ab x,ab (d:Nat)] j λg u=>bk t d g 3 λq=>Ii u q λh e k=>c6 37 #[bb a,.agg #[ab h,ab e,ab k]] u λl y=>R (ad l) y) (bk t d 0 3 λr=>Ii j r λm n o=>c6 37 #[bb a,.agg #[ab m,ab n,ab o]] j λp v=>R (ad p) v))):=by kernel_rfl
theorem Zl:bc prog f40 [bb a,ab i,ab k] R w=(cx 72 #[bb a,ab i,ab k] w λe j=>cond (e != 0) (R (.tuple #[a4,ab e]) j) (bY j (ah a 0) λb c d=>g7 b c d i (i64.wrap (i+k)) (d:Nat) 1 λm n l=>eV 73 #[af m n l] j λf g h o=>R (.tuple #[af f g h,ab 0]) o)):=by kernel_rfl
theorem Xq:bc prog f45 [bb a] R w=(bY w (ah a 3) λd b c=>R (ab (b:Nat)) w):=by kernel_rfl
def yh (a:aw)(b c:Int)(j:al):al:=.pointer (some a)::ae j 0 5 (ab b::ab c::ae j 5 12 [])
def H4  (j:al):al:=ae j 0 20 []
theorem Zx:bc prog f47 [bb a] R w=(cx 38 #[bb a] w λb c=>cj prog (cN f47 [1,0,1,0,0]) (yh (ah a 0) b 0 (undef::ab 0::a1 2 (jp (ah a 0)::a1 12 []))) (aL 0 (aS f47 [1,1] R)) c):=by kernel_rfl
theorem W_ (d:al->aK):W prog (sb f47 [1,0,1,0,0]) (yh A i k j) (aM d (aL 0 (aS f47 [1,1] R))) w=(cond (k<i) (lY 39 #[.pointer (some A),ab k] w λa f=>cx 38 #[.pointer (some A)] f λb g=>cx 75 #[.pointer a,ab b] g λc e=>cond (c != 0) (R (ab c) e) (d (yh A i (i64.wrap (k+1)) [aB j 0,aB j 1,ab k,ab c,aB j 4,ad (k<i),ab k,jp A,ab k,.pointer a,jp A,ab b,ab c,ab c,ad ((c:Int) != 0),aB j 15,ab (i64.wrap (k+1))]) e)) (W prog (sb f47 [1,1]) (H4  (jp A::ae j 0 5 (ab i::ab k::ad (k<i)::ae j 6 11 []))) (bV f47 R) w)):=by kernel_rfl
theorem XX:W prog (sb f47 [1,1]) (H4  j) (bV f47 R) w=(R (ab 0) w):=by kernel_rfl
theorem XY:bc prog f67 [bb a] R w=(bN w (ah a 0) λb=>R (ab b) w):=by kernel_rfl
theorem YE:bc prog f68 [bb a] R w=(bN w (ah a 2) λb=>R (ab b) w):=by kernel_rfl
theorem YF:bc prog f70 [bb a,bb b] R w=(aR w #[ab 0,a4] 131 λu C=>bY C (ah a 3) λj e c=>cond ((e:Int) == 0) (a8 C (ah u 0) 0 [ab 0,a4] λE=>vx E (ah u 0) λd f g h=>E=E/\R (.tuple #[.agg #[ab d,af f g h],ad false]) E) (bY C (ah a 3) λi k l=>bk i k 0 9 λbK=>jt C bK λm n cL a5 o p q r s t v=>aR C #[ab 0,ab 0,ab 0,ab 0,ag 0,ag 0,a4,ag 0,ab 0] 158 λG bL=>a8 bL (ah G 0) 0 [ab m,ab n,ab cL,ab a5,ag o,ag p,af q r s,ag t,ab v] λQ=>jt Q (ah G 0) λx y z b7 ch ae ca a7 A br cb=>cx 96 #[bb a,.agg #[ab x,ab y,ab z,ab b7,ag ch,ag ae,af ca a7 A,ag br,ab cb],bb b] Q λS K=>cond (S != 0) (vy 97 #[bb a] K λbW=>a8 bW (ah u 0) 0 [ab S,a4] λH=>vx H (ah u 0) λcC cq bo bJ=>H=H/\R (.tuple #[.agg #[ab cC,af cq bo bJ],ad true]) H) (jt K (ah G 0) λiN b6 bG cm a9 bm bV bQ aL bO cD=>eV 98 #[.agg #[ab iN,ab b6,ab bG,ab cm,ag a9,ag bm,af bV bQ aL,ag bO,ab cD]] K λb9 P cK bR=>ck bR λbq B=>dS B (ah a 5) λaV bx J=>mK B (ah G 0) λaB aE aI a1 bD cf cy aq cl aM a'=>cA B (ah a 4) λU=>bk b9 P U 2 λb4=>Wz B b4 λW b5=>eV 99 #[.agg #[ab aB,ab aE,ab aI,ab a1,ag bD,ag cf,af cy aq cl,ag aM,ab a'],.agg #[ab W,ab b5],bb b] bq λV ao aP L=>B L/\da 94 (af aV bx J) (af V ao aP) L λO cu bH M=>B M/\cM M (ah a 5) (af O cu bH) λT=>bN T (ah a 4) λX=>cM T (ah a 4) (ab (i64.wrap (X+1))) λF=>bN F (ah a 4) λbs=>cond (bs<(P:Nat)) (a8 F (ah u 0) 0 [ab 0,a4] λD=>vx D (ah u 0) λbh cr cH Y=>D=D/\R (.tuple #[.agg #[ab bh,af cr cH Y],ad false]) D) (bY F (ah a 5) λcN cd b_=>a8 F (ah u 0) 0 [ab 0,af cN cd b_] λZ=>vy 97 #[bb a] Z λN=>vx N (ah u 0) λcG bX I cv=>a8 N (ah u 0) 0 [ab cG,af bX I cv] λbf=>vx bf (ah u 0) λcj aT aW aZ=>bf=bf/\R (.tuple #[.agg #[ab cj,af aT aW aZ],ad true]) bf)))):=by kernel_rfl
theorem t5:bc prog f71 [af s a b] R w=(cond (Option.isNone s) (R (a4) w) (aR w #[] 3 λh f=>da 22 (af (bs h) 0 0) (af s a b) f λg c d e=>R (af g c d) e)):=by kernel_rfl
theorem YU:bc prog f72 [bb a,ab i,ab k] R w=(cond (k<1) (R (ab 2) w) (cond (i<0) (R (ab 2) w) (bY w (ah a 0) λe b c=>cond (i>=(b:Nat)) (R (ab 2) w) (bY w (ah a 0) λd f g=>cond (k>(i64.wrap ((f:Nat)-i))) (R (ab 2) w) (js w (ah a 1) λh=>cond h (R (ab 4) w) (R (ab 0) w)))))):=by kernel_rfl
theorem U7:bc prog f73 [af s a b] R w=(cond (Option.isNone s) (R (a4) w) (aR w #[] 30 λh f=>da 94 (af (bs h) 0 0) (af s a b) f λg c d e=>R (af g c d) e)):=by kernel_rfl
theorem Kt:bc prog f74 [ab i] R w=(cond (i<1) (R (.tuple #[.pointer none,ab 2]) w) (cond (i>256) (R (.tuple #[.pointer none,ab 2]) w) (pM (i64.wrap (i*8)) (i64.wrap (i*8)) 8 (.cells (ju (Int.toNat (i64.wrap (i*8))) [ag 0]).toArray 30) w λc d=>aR d #[af (bs c) (Int.toNat (i64.wrap (i*8))) (Int.toNat (i64.wrap (i*8))),ad false] 137 λa b=>R (.tuple #[bb a,ab 0]) b))):=by kernel_rfl
def yE (d:aw)(e:an)(a b:Nat)(c:Int)(j:al):al:=.pointer (some d)::ae j 0 6 (af e a b::ae j 6 38 (ab c::ae j 44 24 []))
def IE (a:aw)(d:an)(b c:Nat)(j:al):al:=.pointer (some a)::ae j 0 6 (af d b c::ae j 6 63 [])
def yF (c:aw)(d:an)(a b:Nat)(e:Int)(j:al):al:=.pointer (some c)::ae j 0 6 (af d a b::ae j 6 1 (ab e::ae j 7 61 []))
def IF (a:aw)(d:an)(b c:Nat)(j:al):al:=.pointer (some a)::ae j 0 6 (af d b c::ae j 6 63 [])
theorem J8:bc prog f75 [bb a,ab i] R w=(g6 100 #[ab i] w λj b x=>cond (b != 0) (R (ab 1) x) (cx 82 #[bb a] x λc t=>cond (c<98) (R (ab 18) t) (c6 101 #[bb a] t λd u=>cond (!d) (R (ab 4) u) (cx 82 #[bb a] u λf y=>cx 102 #[ab f] y λg C=>pM g g 8 (.cells (ju (Int.toNat g) [ag 0]).toArray 30) C λs z=>g6 103 #[ab 0,ad true] z λh e B=>bk (bs s) (Int.toNat g) 0 1 λv=>cM B v (ag h) λD=>bk (bs s) (Int.toNat g) 1 1 λn=>cM D n (ag 1) λA=>cx 105 #[ab 0] A λk o=>g6 104 #[ag 1,ag 1,ag j] o λl m p=>bk (bs s) (Int.toNat g) k 1 λq=>cM p q (ag l) λr=>cj prog (cN f75 [1,1,1,1,1,1,1,0,1,0,0]) (yE (ah a 0) (bs s) (Int.toNat g) (Int.toNat g) 0 (ab i::a1 2 (ab 0::ag j::ab b::a1 2 (.tuple #[ag j,ab b]::ab i::.tuple #[ag j,ab b]::ag j::ab b::ad ((b:Int) != 0)::ab b::ad ((b:Int) != 0)::ad (c<98)::jp (ah a 0)::ab c::ad (c<98)::ad (!d)::jp (ah a 0)::ad d::ad (!d)::jp (ah a 0)::ab f::ab g::af (bs s) (Int.toNat g) (Int.toNat g)::.tuple #[ag h,ab e]::af (bs s) (Int.toNat g) (Int.toNat g)::.tuple #[ag h,ab e]::ag h::ab e::jp v::af (bs s) (Int.toNat g) (Int.toNat g)::jp n::.tuple #[ag l,ab m]::af (bs s) (Int.toNat g) (Int.toNat g)::ab k::ag j::.tuple #[ag l,ab m]::ag l::ab m::jp q::a1 24 [])))) (aL 1 (aS f75 [1,1,1,1,1,1,1,1] R)) r)))):=by kernel_rfl
theorem t6 (c:al->aK):W prog (sb f75 [1,1,1,1,1,1,1,0,1,0,0]) (yE A s a b i j) (aM c (aL 1 (aS f75 [1,1,1,1,1,1,1,1] R))) w=(cond (i<6) (cx 106 #[ab i] w λd f=>bk s a d 1 λe=>cM f e (ag 1) λg=>c (yE A s a b (i64.wrap (i+1)) (ae j 0 6 (ab i::ae j 7 37 (ad (i<6)::ab i::af s a b::ab i::ab d::jp e::ab (i64.wrap (i+1))::ae j 51 17 [])))) g) (W prog (sb f75 [1,1,1,1,1,1,1,1]) (IE A s a b (ae j 0 44 (ab i::ad (i<6)::ae j 45 23 []))) (bV f75 R) w)):=by kernel_rfl
theorem YV:W prog (sb f75 [1,1,1,1,1,1,1,1]) (IE A s a b j) (bV f75 R) w=(cj prog (cN f75 [1,1,1,1,1,1,1,1,0,1,0,0]) (yF A s a b 96 (ae j 0 7 (ae j 8 61 []))) (aL 3 (aS f75 [1,1,1,1,1,1,1,1,1] R)) w):=by kernel_rfl
theorem t7 (e:al->aK):W prog (sb f75 [1,1,1,1,1,1,1,1,0,1,0,0]) (yF A s a b i j) (aM e (aL 3 (aS f75 [1,1,1,1,1,1,1,1,1] R))) w=(cx 82 #[.pointer (some A)] w λc k=>cond (i<c) (cx 108 #[ab i] k λd n=>g6 107 #[ag 1,ab 0] n λf g m=>bk s a d 1 λh=>cM m h (ag f) λl=>e (yF A s a b (i64.wrap (i+1)) (ae j 0 51 [ab i,jp A,ab c,ad (i<c),ab i,ab (i64.wrap (i+1)),.tuple #[ag f,ab g],af s a b,ab i,ab d,.tuple #[ag f,ab g],ag f,ab g,jp h,aB j 65,aB j 66,aB j 67])) l) (W prog (sb f75 [1,1,1,1,1,1,1,1,1]) (IF A s a b (ae j 0 7 (ab i::ae j 7 44 (ab i::jp A::ab c::ad (i<c)::ae j 55 13 [])))) (bV f75 R) k)):=by kernel_rfl
theorem YW:W prog (sb f75 [1,1,1,1,1,1,1,1,1]) (IF A s a b j) (bV f75 R) w=(cx 109 #[.pointer (some A),ab 0,af s a b] w λd c=>R (ab d) c):=by kernel_rfl
theorem J9:bc prog f80 [ab i,ab k,ab l] R w=(cond (i<0) (R (.tuple #[.pointer none,ab 1]) w) (cond (i>=6) (R (.tuple #[.pointer none,ab 1]) w) (cond (k<0) (R (.tuple #[.pointer none,ab 2]) w) (cond (k>59) (R (.tuple #[.pointer none,ab 2]) w) (cond (l<0) (R (.tuple #[.pointer none,ab 2]) w) (cond (l>=5) (R (.tuple #[.pointer none,ab 2]) w) (aR w #[ab i,ab k,ab l,a4,ab 0,a4] 139 λa b=>R (.tuple #[bb a,ab 0]) b))))))):=by kernel_rfl
theorem YX:bc prog f82 [bb a] R w=(bY w (ah a 0) λd b c=>R (ab (i64.wrap (Int.tdiv (b:Nat) 8))) w):=by kernel_rfl
theorem TG:bc prog f89 [af s a b,ab i,ab k] R w=(g7 s a b i k (a:Nat) 1 λx y v=>cond (i == k) (R (af s a b) w) (∀ q,q=w.drew->g7 s a b 0 i (b:Nat) 1 λf g h=>g7 s a b k (a:Nat) (b:Nat) 1 λe j l=>da 106 (af f g h) (af e j l) q λt c d u=>g7 t c d (c:Nat) (a:Nat) (d:Nat) 1 λm n o=>∃ r,∃ p,(Builtin.clear_ #[106] 0 #[af m n o]).run prog u=.ok r p/\R (af t c d) p)):=by kernel_rfl
theorem KP (a b c d f g:Int)(h:an)(i k:Nat)(l m A B:Int)(w:aj)(R:bg):bc prog f94 [.agg #[ab a,ab b,ab c,ab d,ag f,ag g,af h i k,ag l,ab m],ab A,ab B] R w=(aR w #[ab a,ab b,ab c,ab d,ag f,ag g,af h i k,ag l,ab m] 158 λb1 w1=>jt w1 (ah b1 0) λn o E F p q r s t v x=>cx 130 #[.agg #[ab n,ab o,ab E,ab F,ag p,ag q,af r s t,ag v,ab x]] w1 λy e=>cond (y<1) (R (ab 1) e) (jt e (ah b1 0) λz aa P ac Q S T U V W X=>c6 131 #[.agg #[ab z,ab aa,ab P,ab ac,ag Q,ag S,af T U V,ag W,ab X],ab A,ab B] e λY j=>cond (!Y) (R (ab 2) j) (jt j (ah b1 0) λZ am ad ae ap ao aq aB aE aI aL=>Ij 132 #[.agg #[ab Z,ab am,ab ad,ab ae,ag ap,ag ao,af aq aB aE,ag aI,ab aL]] j λaM aP C=>jt C (ah b1 0) λG H b8 I J K L M N O aT=>cx 133 #[.agg #[ab G,ab H,ab b8,ab I,ag J,ag K,af L M N,ag O,ab aT]] C λaV u=>cond (aM<=aV) (jt u (ah b1 0) λaW aZ be a1 a4 a5 bi a7 a8 a9 a'=>cx 133 #[.agg #[ab aW,ab aZ,ab be,ab a1,ag a4,ag a5,af bi a7 a8,ag a9,ab a']] u λbb D=>cond (aP>bb) (R (ab 2) D) (R (ab 0) D)) (R (ab 0) u)))):=by kernel_rfl
theorem YG (j:Nat)(a b c d f g:Int)(h:an)(i k:Nat)(l m B:Int)(w:aj)(R:bg):bc prog f95 [bb j,.agg #[ab a,ab b,ab c,ab d,ag f,ag g,af h i k,ag l,ab m],ab B] R w=(aR w #[ab a,ab b,ab c,ab d,ag f,ag g,af h i k,ag l,ab m] 158 λb1 w1=>jt w1 (ah b1 0) λn o G H p q r s t v x=>cx 94 #[.agg #[ab n,ab o,ab G,ab H,ag p,ag q,af r s t,ag v,ab x],ab 5,ab B] w1 λy C=>cond (y != 0) (R (ab y) C) (ck C λu A=>cA A (ah b1 1) λz=>cA A (ah j 2) λaa=>cond (z != aa) (R (ab 1) u) (bY u (ah j 3) λaT ac aV=>cond ((ac:Int)>=1024) (R (ab 12) u) (ck u λaM e=>dS e (ah j 3) λP Q S=>mK e (ah b1 0) λT U V W X am Y Z ad ae ao=>WA 134 #[.agg #[ab T,ab U,ab V,ab W,ag X,ag am,af Y Z ad,ag ae,ab ao]] aM λaq aB aE aI aL I J b8 K L M D=>e D/\aR D #[ab aq,ab aB,ab aE,ab aI,ag aL,ag I,af J b8 K,ag L,ab M] 158 λaz E=>e E/\da 125 (af P Q S) (af (bs az) 1 1) E λap N O F=>e F/\cM F (ah j 3) (af ap N O) λaP=>R (ab 0) aP)))):=by kernel_rfl
theorem Xr (u:Nat)(a b c d f g:Int)(h:an)(i k:Nat)(l m:Int)(j:Nat)(w:aj)(R:bg):bc prog f96 [bb u,.agg #[ab a,ab b,ab c,ab d,ag f,ag g,af h i k,ag l,ab m],bb j] R w=(aR w #[ab a,ab b,ab c,ab d,ag f,ag g,af h i k,ag l,ab m] 158 λb1 w1=>c6 101 #[bb j] w1 λn C=>cond (!n) (R (ab 4) C) (ck C λY B=>mK B (ah b1 0) λo p G H q r s t v x y=>cx 82 #[bb j] Y λz D=>B D/\cx 94 #[.agg #[ab o,ab p,ab G,ab H,ag q,ag r,af s t v,ag x,ab y],ab 5,ab z] D λaa A=>cond (aa != 0) (R (ab 2) A) (bN A (ah u 0) λI=>iJ 135 #[bb j,ab (i64.wrap (24+I))] A λac Z=>ck Z λad e=>mK e (ah b1 0) λJ K L M N O P Q S am T=>cA e (ah u 1) λU=>iJ 135 #[bb j,ab 0] ad λap E=>e E/\iJ 135 #[bb j,ab 1] E λV F=>e F/\cx 136 #[.agg #[ab J,ab K,ab L,ab M,ag N,ag O,af P Q S,ag am,ab T],ab U,ag ac,ag ap,ag V] F λW X=>R (ab W) X))):=by kernel_rfl
theorem XF:bc prog f97 [bb a] R w=(bY w (ah a 3) λe b c=>g7 e b c 1 (b:Nat) (c:Nat) 9 λj k i=>eV 137 #[af j k i] w λd f g m=>cM m (ah a 3) (af d f g) λn=>cM n (ah a 4) (ab 0) λl=>cM l (ah a 5) (a4) λh=>R (.tuple #[]) h):=by kernel_rfl
theorem Zm (a b c d f g:Int)(h:an)(i k:Nat)(l m n o:Int)(j:Nat)(w:aj)(R:bg):bc prog f99 [.agg #[ab a,ab b,ab c,ab d,ag f,ag g,af h i k,ag l,ab m],.agg #[ab n,ab o],bb j] R w=(aR w #[ab a,ab b,ab c,ab d,ag f,ag g,af h i k,ag l,ab m] 158 λb1 w1=>aR w1 #[ab n,ab o] 185 λaz e=>bN e (ah b1 0) λp=>cond (p == 1) (bN e (ah az 0) λC=>bN e (ah az 1) λD=>rf 40 #[bb j,ab C,ab D] e λq r s t N=>R (af q r s) N) (cond (p == 2) (bN e (ah az 0) λv=>bN e (ah b1 2) λx=>ck e λO u=>cA u (ah az 0) λy=>dS u (ah b1 6) λz aa A=>cA u (ah az 1) λac=>g7 z aa A (i64.wrap (v-x)) (i64.wrap ((i64.wrap (v-x))+ac)) (A:Nat) 1 λU W V=>cx 109 #[bb j,ab y,af U W V] O λX B=>u B/\R (a4) B) (cond (p == 3) (bN e (ah b1 2) λE=>dp e (ah b1 4) λF=>dp e (ah b1 5) λG=>g6 139 #[bb j,ab E,ag F,ag G] e λH Y P=>aR P #[ag H] 30 λL Q=>R (af (bs L) 1 1) Q) (cond (p == 4) (bN e (ah b1 2) λI=>dp e (ah b1 5) λJ=>g6 140 #[bb j,ab I,ag J] e λK am S=>aR S #[ag K] 30 λM T=>R (af (bs M) 1 1) T) (R (a4) e))))):=by kernel_rfl
def x2 (c a b:Int)(j:al):al:=ae j 0 4 (ag c::ae j 4 7 (ab a::ab b::ae j 11 10 []))
def HI (a:Int)(j:al):al:=ae j 0 4 (ag a::ae j 4 19 [])
theorem YH:bc prog f100 [ab i] R w=(cond (i<1) (R (.tuple #[ag 0,ab 2]) w) (cond (i>5) (R (.tuple #[ag 0,ab 2]) w) (cj prog (cN f100 [1,1,1,0,1,0,0]) (x2 549755813888 i 0 (ab i::undef::ag 0::ab 0::undef::ab i::ad (i<1)::ad false::ab i::ad (i>5)::ad (i>5)::a1 10 [])) (aL 0 (aS f100 [1,1,1,1] R)) w))):=by kernel_rfl
theorem U8 (a:al->aK):W prog (sb f100 [1,1,1,0,1,0,0]) (x2 i k l j) (aM a (aL 0 (aS f100 [1,1,1,1] R))) w=(cond (l<k) (0<=(u64.wrap (i64.wrap (7*l)))/\a (x2 (iA .u64 i (hk .u64 7 (u64.wrap (i64.wrap (7*l))))) k (i64.wrap (l+1)) (ae j 0 4 (ab l::ae j 5 6 [ad (l<k),ab l,ag i,ab l,ab (i64.wrap (7*l)),ag (u64.wrap (i64.wrap (7*l))),ag (hk .u64 7 (u64.wrap (i64.wrap (7*l)))),ag (iA .u64 i (hk .u64 7 (u64.wrap (i64.wrap (7*l))))),ab (i64.wrap (l+1)),aB j 20]))) w) (W prog (sb f100 [1,1,1,1]) (HI i (ae j 0 11 (ab k::ab l::ad (l<k)::ae j 12 9 []))) (bV f100 R) w)):=by kernel_rfl
theorem Xa:W prog (sb f100 [1,1,1,1]) (HI i j) (bV f100 R) w=(R (.tuple #[ag i,ab 0]) w):=by kernel_rfl
theorem ZX:bc prog f101 [bb a] R w=(js w (ah a 1) λb=>R (ad (!b)) w):=by kernel_rfl
theorem Kg:bc prog f102 [ab i] R w=(cond (i<1) (R (ab 0) w) (cond (i>256) (R (ab 0) w) (R (ab (i64.wrap (i*8))) w))):=by kernel_rfl
theorem CN:bc prog f103 [ab i,ad F] R w=(c6 141 #[ab i,ab 0,ab 15] w λa b=>cond (!a) (R (.tuple #[ag 0,ab 2]) b) (cond F (R (.tuple #[ag (u64.wrap ((u64.wrap ((u64.wrap i)*2))+1)),ab 0]) b) (R (.tuple #[ag (u64.wrap ((u64.wrap i)*2)),ab 0]) b))):=by kernel_rfl
theorem JF:bc prog f104 [ag i,ag k,ag l] R w=(cond (i>=4096) (R (.tuple #[ag 0,ab 2]) w) (cond (k>=4096) (R (.tuple #[ag 0,ab 2]) w) (cond (l>=1099511627776) (R (.tuple #[ag 0,ab 2]) w) (R (.tuple #[ag (iA .u64 (iA .u64 (hk .u64 i 52) (hk .u64 k 40)) l),ab 0]) w)))):=by kernel_rfl
theorem Zy:bc prog f105 [ab i] R w=(Calls prog 142 #[ab 1,ab 16] w λe c=>∃ a,e=.returned a/\i_ prog a #[ab i] c λe d=>∃ b,e=.returned (ab b)/\R (ab b) d):=by kernel_rfl
theorem Je:bc prog f106 [ab i] R w=(Calls prog 142 #[ab 3,ab 6] w λe c=>∃ a,e=.returned a/\i_ prog a #[ab i] c λe d=>∃ b,e=.returned (ab b)/\R (ab b) d):=by kernel_rfl
theorem Do:bc prog f107 [ag i,ab k] R w=(c6 143 #[ag i,ag 1,ag 281474976710655] w λa d=>cond (!a) (R (.tuple #[ag 0,ab 2]) d) (c6 141 #[ab k,ab 0,ab 6] d λb c=>cond (!b) (R (.tuple #[ag 0,ab 1]) c) (R (.tuple #[ag (iA .u64 (hk .u64 i 8) (u64.wrap k)),ab 0]) c))):=by kernel_rfl
theorem Ku:bc prog f108 [ab i] R w=(cond (i<96) (R (ab (-1)) w) (cond (i>=256) (R (ab (-1)) w) (R (ab (i64.wrap (i*8))) w))):=by kernel_rfl
theorem YY:bc prog f109 [bb a,ab i,af s b c] R w=(cx 72 #[bb a,ab i,ab (b:Nat)] w λe h=>cond (e != 0) (R (ab e) h) (bY h (ah a 0) λd f g=>g7 d f g i (f:Nat) (g:Nat) 1 λl m k=>∃ r,∃ j,(Builtin.copy_ #[94,94] 3 #[af l m k,af s b c]).run prog h=.ok (ab r) j/\R (ab 0) j)):=by kernel_rfl
theorem Lv:bc prog f115 [af s a b] R w=(aR w #[af s a b,a4,ad false] 244 λc d=>R (bb c) d):=by kernel_rfl
theorem ZY:bc prog f116 [bb a,af s b c] R w=(cond ((b:Int) == 0) (R (.tuple #[a4,ad true]) w) (bY w (ah a 0) λj d f=>cond ((d:Int) == 0) (cM w (ah a 1) (af s b c) λbf=>R (.tuple #[a4,ad false]) bf) (bY w (ah a 0) λg h i=>bk g h 0 1 λH=>bY w H λx k l=>c6 149 #[af s b c,af x k l] w λm z=>cond (!m) (cM z (ah a 2) (ad true) λG=>R (.tuple #[a4,ad false]) G) (ck z λA u=>dS u (ah a 0) λn o p=>bk n o 0 1 λy=>dS u y λB q r=>dS u (ah a 0) λe t v=>g7 e t v 1 (t:Nat) (v:Nat) 1 λD E C=>cM A (ah a 0) (af D E C) λF=>R (.tuple #[af B q r,ad true]) F)))):=by kernel_rfl
theorem Zz:bc prog f118 [bb a] R w=(ck w λi h=>dS h (ah a 1) λe b c=>dS h (ah a 1) λd f g=>R (.tuple #[af e b c,ad ((f:Int)>0)]) i):=by kernel_rfl
theorem YZ:bc prog f119 [bb a] R w=(js w (ah a 2) λe=>cond e (R (ad true) w) (bY w (ah a 0) λb c d=>R (ad ((c:Int)>0)) w)):=by kernel_rfl
theorem Lw:bc prog f128 [ab i,ab k] R w=(c6 178 #[ab i] w λa d=>cond (!a) (R (.tuple #[ag 0,ab 2]) d) (c6 158 #[ab k] d λb c=>cond (!b) (R (.tuple #[ag 0,ab 1]) c) (R (.tuple #[ag (iA .u64 (hk .u64 (u64.wrap i) 8) (u64.wrap (i64.wrap (k+1)))),ab 0]) c))):=by kernel_rfl
theorem Kv (a b c d f g:Int)(h:an)(i k:Nat)(l m j e:Int)(w:aj)(R:bg):bc prog f131 [.agg #[ab a,ab b,ab c,ab d,ag f,ag g,af h i k,ag l,ab m],ab j,ab e] R w=(aR w #[ab a,ab b,ab c,ab d,ag f,ag g,af h i k,ag l,ab m] 158 λb1 w1=>cond (j<1) (R (ad false) w1) (cond (j>5) (R (ad false) w1) (cond (e<1) (R (ad false) w1) (cond (e>256) (R (ad false) w1) (bN w1 (ah b1 1) λn=>cond (n<0) (R (ad false) w1) (bN w1 (ah b1 1) λo=>cond (o>=j) (R (ad false) w1) (bN w1 (ah b1 2) λB=>cond (B<0) (R (ad false) w1) (bN w1 (ah b1 2) λp=>cond (p>=(i64.wrap (e*8))) (R (ad false) w1) (jt w1 (ah b1 0) λq r s C t v x y z aa D=>cx 130 #[.agg #[ab q,ab r,ab s,ab C,ag t,ag v,af x y z,ag aa,ab D]] w1 λac u=>cond (ac>1024) (R (ad false) u) (jt u (ah b1 0) λE F G H I J K L M am N=>Ij 132 #[.agg #[ab E,ab F,ab G,ab H,ag I,ag J,af K L M,ag am,ab N]] u λO ap A=>cond (ap<e) (R (ad (((i64.wrap (ap-O)):Int)<128)) A) (R (ad false) A))))))))))):=by kernel_rfl
theorem Fr (a b c d f g:Int)(h:an)(i k:Nat)(l m:Int)(w:aj)(R:bg):bc prog f132 [.agg #[ab a,ab b,ab c,ab d,ag f,ag g,af h i k,ag l,ab m]] R w=(aR w #[ab a,ab b,ab c,ab d,ag f,ag g,af h i k,ag l,ab m] 158 λb1 w1=>ck w1 λB e=>cA e (ah b1 2) λu=>cA e (ah b1 2) λn=>mK e (ah b1 0) λo p q A r s t v x y z=>cx 130 #[.agg #[ab o,ab p,ab q,ab A,ag r,ag s,af t v x,ag y,ab z]] B λaa j=>e j/\R (.tuple #[ab (i64.wrap (Int.tdiv u 8)),ab (i64.wrap (Int.tdiv (i64.wrap ((i64.wrap (n+aa))-1)) 8))]) j):=by kernel_rfl
theorem J_ (a b c d f g:Int)(h:an)(i k:Nat)(l m:Int)(w:aj)(R:bg):bc prog f133 [.agg #[ab a,ab b,ab c,ab d,ag f,ag g,af h i k,ag l,ab m]] R w=(aR w #[ab a,ab b,ab c,ab d,ag f,ag g,af h i k,ag l,ab m] 158 λb1 w1=>bN w1 (ah b1 0) λn=>cond (n == 1) (R (ab 3) w1) (R (ab 2) w1)):=by kernel_rfl
theorem ZZ (a b c d f g:Int)(h:an)(i k:Nat)(l m:Int)(w:aj)(R:bg):bc prog f134 [.agg #[ab a,ab b,ab c,ab d,ag f,ag g,af h i k,ag l,ab m]] R w=(aR w #[ab a,ab b,ab c,ab d,ag f,ag g,af h i k,ag l,ab m] 158 λb1 w1=>aR w1 #[ab 0,ab 0,ab 0,ab 0,ag 0,ag 0,a4,ag 0,ab 0] 158 λaz j=>bY j (ah b1 6) λn o p=>eV 73 #[af n o p] j λq r s O=>cM O (ah b1 6) (af q r s) λu=>jt u (ah b1 0) λt v A B x y z aa C ac D=>a8 u (ah az 0) 0 [ab t,ab v,ab A,ab B,ag x,ag y,af z aa C,ag ac,ab D] λe=>jt e (ah az 0) λE F G H I J K L am M N=>e=e/\R (.agg #[ab E,ab F,ab G,ab H,ag I,ag J,af K L am,ag M,ab N]) e):=by kernel_rfl
theorem JG:bc prog f135 [bb a,ab i] R w=(rf 40 #[bb a,ab i,ab 1] w λe b c d f=>cond (d != 0) (R (ag 0) f) (bk e b 0 1 λg=>dp f g λx=>R (ag x) f)):=by kernel_rfl
theorem KQ (a b c d f g:Int)(h:an)(i k:Nat)(l m j u A B:Int)(w:aj)(R:bg):bc prog f136 [.agg #[ab a,ab b,ab c,ab d,ag f,ag g,af h i k,ag l,ab m],ab j,ag u,ag A,ag B] R w=(aR w #[ab a,ab b,ab c,ab d,ag f,ag g,af h i k,ag l,ab m] 158 λb1 w1=>jt w1 (ah b1 0) λn o C D p q r s t v x=>cx 185 #[.agg #[ab n,ab o,ab C,ab D,ag p,ag q,af r s t,ag v,ab x]] w1 λy e=>cond (y == 1) (bN e (ah b1 0) λz=>cond (z == 1) (R (ab 0) e) (cond (j<0) (R (ab 5) e) (cond (((u64.wrap j):Int)<u) (R (ab 5) e) (cond (y == 1) (R (ab 0) e) (bN e (ah b1 8) λaa=>cond (aa<0) (R (ab 5) e) (bN e (ah b1 8) λE=>cond (((u64.wrap E):Int) != B) (R (ab 5) e) (dp e (ah b1 7) λac=>cond (ac != A) (R (ab 5) e) (R (ab 0) e)))))))) (cond (j<0) (R (ab 5) e) (cond (((u64.wrap j):Int)<u) (R (ab 5) e) (cond (y == 1) (R (ab 0) e) (bN e (ah b1 8) λF=>cond (F<0) (R (ab 5) e) (bN e (ah b1 8) λG=>cond (((u64.wrap G):Int) != B) (R (ab 5) e) (dp e (ah b1 7) λH=>cond (H != A) (R (ab 5) e) (R (ab 0) e)))))))):=by kernel_rfl
theorem Uw:bc prog f137 [af s a b] R w=(cond (Option.isNone s) (R (a4) w) (aR w #[] 158 λh f=>da 125 (af (bs h) 0 0) (af s a b) f λg c d e=>R (af g c d) e)):=by kernel_rfl
theorem ZA:bc prog f139 [bb a,ab i,ag k,ag l] R w=(cx 72 #[bb a,ab i,ab 1] w λm j=>cond (m != 0) (R (.tuple #[ag 0,ab m]) j) (bY j (ah a 0) λb c d=>bk b c i 1 λn=>dp j n λx=>cond (x == k) (bY j (ah a 0) λf g h=>bk f g i 1 λe=>cM j e (ag l) λo=>R (.tuple #[ag x,ab 0]) o) (R (.tuple #[ag x,ab 0]) j))):=by kernel_rfl
theorem ZB:bc prog f140 [bb a,ab i,ag k] R w=(cx 72 #[bb a,ab i,ab 1] w λj l=>cond (j != 0) (R (.tuple #[ag 0,ab j]) l) (bY l (ah a 0) λb c d=>bk b c i 1 λn=>dp l n λx=>bY l (ah a 0) λf g h=>bk f g i 1 λe=>dp l e λp=>bk f g i 1 λm=>cM l m (ag (u64.wrap (p+k))) λo=>R (.tuple #[ag x,ab 0]) o)):=by kernel_rfl
theorem IG:bc prog f141 [ab i,ab k,ab l] R w=(cond (i>=k) (R (ad (i<=l)) w) (R (ad false) w)):=by kernel_rfl
theorem JU:bc prog f142 [ab i,ab k] R w=(aR w #[ab i] 3 λc d=>aR d #[ab k] 3 λa b=>R (.func (.func 187) #[] #[bb a,bb c]) b):=by kernel_rfl
theorem Y0:bc prog f143 [ag i,ag k,ag l] R w=(cond (i>=k) (R (ad (i<=l)) w) (R (ad false) w)):=by kernel_rfl
def yR (s1:an)(a b:Nat)(c:an)(d f:Nat)(g h:Int)(j:al):al:=ae j 0 1 (af s1 a b::ae j 1 10 (af c d f::ab g::ab h::ae j 11 12 []))
def Ji  (j:al):al:=ae j 0 27 []
theorem Lx:bc prog f149 [af s a b,af t c d] R w=(cond ((a:Int) != (c:Nat)) (R (ad false) w) (cj prog (cN f149 [1,1,0,1,0,0]) (yR t c d s a b (a:Nat) 0 (af s a b::a1 2 (ad false::a1 2 (af s a b::cd a::af t c d::cd c::ad ((a:Int) != (c:Nat))::a1 12 [])))) (aL 0 (aS f149 [1,1,1] R)) w)):=by kernel_rfl
theorem ZC (I:al->aK):W prog (sb f149 [1,1,0,1,0,0]) (yR s a b t c d i k j) (aM I (aL 0 (aS f149 [1,1,1] R))) w=(cond (k<i) (bk t c k 9 λH=>jt w H λe h bf E l m n o p q r=>aR w #[ab 0,ab 0,ab 0,ab 0,ag 0,ag 0,a4,ag 0,ab 0] 158 λA J=>a8 J (ah A 0) 0 [ab e,ab h,ab bf,ab E,ag l,ag m,af n o p,ag q,ab r] λS=>ck S λT O=>mK O (ah A 0) λf g v x y z M Q K N F=>bk s a k 2 λC=>BY O C λu G P L=>c6 192 #[.agg #[ab f,ab g,ab v,ab x,ag y,ag z,af M Q K,ag N,ab F],.agg #[ab u,af G P L]] T λB D=>cond (!B) (R (ad false) D) (I (yR s a b t c d i (i64.wrap (k+1)) (ae j 0 4 (ab k::jp (ah A 0)::ae j 6 5 [ad (k<i),ab k,jp H,.agg #[ab e,ab h,ab bf,ab E,ag l,ag m,af n o p,ag q,ab r],.agg #[ab f,ab g,ab v,ab x,ag y,ag z,af M Q K,ag N,ab F],af s a b,ab k,jp C,.agg #[ab u,af G P L],ad B,ad (!B),ab (i64.wrap (k+1))]))) D)) (W prog (sb f149 [1,1,1]) (Ji  (aB j 0::af s a b::ae j 1 10 (af t c d::ab i::ab k::ad (k<i)::ae j 12 11 []))) (bV f149 R) w)):=by kernel_rfl
theorem JV:W prog (sb f149 [1,1,1]) (Ji  j) (bV f149 R) w=(R (ad true) w):=by kernel_rfl
theorem I0:bc prog f158 [ab i] R w=(c6 141 #[ab i,ab 0,ab 5] w λa b=>R (ad a) b):=by kernel_rfl
theorem JW:bc prog f169 [ab i,ab k] R w=(c6 207 #[ab k] w λa b=>cond a (cond (i>=96) (R (ad (i<k)) b) (R (ad false) b)) (R (ad false) b)):=by kernel_rfl
theorem JX:bc prog f170 [ag i] R w=(R (ad (((ee .u64 i 255):Int) == 0)) w):=by kernel_rfl
theorem JY:bc prog f177 [ag i] R w=(cond (((cD .u64 i 8):Int)<=59) (iJ 198 #[ab 8] w λa h=>g6 128 #[ab (i64.wrap (cD .u64 i 8)),ab (i64.wrap ((i64.wrap (ee .u64 i a))-1))] h λb c g=>cond (c != 0) (R (.tuple #[ab 0,ab 0,ad false]) g) (cond (b != i) (R (.tuple #[ab 0,ab 0,ad false]) g) (R (.tuple #[ab (i64.wrap (cD .u64 i 8)),ab (i64.wrap ((i64.wrap (ee .u64 i a))-1)),ad true]) g))) (g6 128 #[ab 0,ab 0] w λd f e=>cond (f != 0) (R (.tuple #[ab 0,ab 0,ad false]) e) (cond (d != i) (R (.tuple #[ab 0,ab 0,ad false]) e) (R (.tuple #[ab 0,ab 0,ad true]) e)))):=by kernel_rfl
theorem KR:bc prog f178 [ab i] R w=(c6 141 #[ab i,ab 1,ab 59] w λa b=>cond a (R (ad (((Int.tmod i 2):Int) == 1)) b) (R (ad false) b)):=by kernel_rfl
theorem KS (a b c d f g:Int)(h:an)(i k:Nat)(l m:Int)(w:aj)(R:bg):bc prog f185 [.agg #[ab a,ab b,ab c,ab d,ag f,ag g,af h i k,ag l,ab m]] R w=(aR w #[ab a,ab b,ab c,ab d,ag f,ag g,af h i k,ag l,ab m] 158 λb1 w1=>ck w1 λB e=>cA e (ah b1 2) λu=>mK e (ah b1 0) λn o p A q r s t v x y=>cx 133 #[.agg #[ab n,ab o,ab p,ab A,ag q,ag r,af s t v,ag x,ab y]] B λz j=>e j/\cond (((i64.wrap (Int.tdiv u 8)):Int)<=z) (R (ab 1) j) (R (ab 2) j)):=by kernel_rfl
theorem Z0:bc prog f187 [ab i,bb a,bb b] R w=(cond (i<0) (R (ab (-1)) w) (bN w (ah a 0) λx=>cond (i>=x) (R (ab (-1)) w) (bN w (ah b 0) λc=>R (ab (i64.wrap ((i64.wrap (c*8))+i))) w))):=by kernel_rfl
theorem K8 (a b c d f g:Int)(h:an)(i k:Nat)(l m n:Int)(o:an)(p q:Nat)(w:aj)(R:bg):bc prog f192 [.agg #[ab a,ab b,ab c,ab d,ag f,ag g,af h i k,ag l,ab m],.agg #[ab n,af o p q]] R w=(aR w #[ab a,ab b,ab c,ab d,ag f,ag g,af h i k,ag l,ab m] 158 λb1 w1=>aR w1 #[ab n,af o p q] 131 λaz e=>bN e (ah az 0) λr=>cond (r == 0) (ck e λJ j=>dS j (ah az 1) λs t v=>mK j (ah b1 0) λx y A B z aa C ac D E F=>cx 233 #[.agg #[ab x,ab y,ab A,ab B,ag z,ag aa,af C ac D,ag E,ab F]] J λG u=>j u/\R (ad ((t:Int) == G)) u) (cond (r == 4) (cond (r == 4) (bY e (ah az 1) λK H L=>R (ad ((H:Int) == 0)) e) (R (ad false) e)) (cond (r == 5) (bY e (ah az 1) λM I am=>R (ad ((I:Int) == 0)) e) (R (ad false) e)))):=by kernel_rfl
theorem K9 (a:Int)(b:an)(c d:Nat)(w:aj)(R:bg):bc prog f196 [.agg #[ab a,af b c d]] R w=(aR w #[ab a,af b c d] 131 λb1 w1=>bY w1 (ah b1 1) λf g h=>cond ((g:Int) == 0) (R (ag 0) w1) (bY w1 (ah b1 1) λi k l=>bk i k 0 1 λe=>dp w1 e λx=>R (ag x) w1)):=by kernel_rfl
theorem K_:bc prog f198 [ab i] R w=(0<=(u64.wrap i)/\R (ag (u64.wrap ((hk .u64 1 (u64.wrap i))-1))) w):=by kernel_rfl
theorem CD:bc prog f206 [ag i] R w=(g6 236 #[ag i] w λa b e=>c6 143 #[ag a,ag 1,ag 281474976710654] e λc d=>cond (!c) (R (.tuple #[ag 0,ab 2]) d) (R (.tuple #[ag (hk .u64 (u64.wrap (a+1)) 8),ab 0]) d)):=by kernel_rfl
theorem JH:bc prog f207 [ab i] R w=(cond (i>=98) (R (ad (i<=256)) w) (R (ad false) w)):=by kernel_rfl
theorem Kw:bc prog f209 [ab i] R w=(cx 238 #[ab i,ab 8] w λa b=>R (ab a) b):=by kernel_rfl
theorem Cc:bc prog f214 [ab i] R w=(c6 141 #[ab i,ab 1,ab 1073741823] w λa b=>cond (!a) (R (.tuple #[ag 0,ab 2]) b) (R (.tuple #[ag (iA .u64 (hk .u64 (u64.wrap i) 2) 2),ab 0]) b)):=by kernel_rfl
theorem Kx:bc prog f215 [ab i] R w=(cx 238 #[ab i,ab 0] w λa b=>R (ab a) b):=by kernel_rfl
theorem KC:bc prog f224 [ab i] R w=(cx 238 #[ab i,ab 1] w λa b=>R (ab a) b):=by kernel_rfl
theorem Kh:bc prog f225 [ab i] R w=(Calls prog 142 #[ab 4,ab 6] w λe c=>∃ a,e=.returned a/\i_ prog a #[ab i] c λe d=>∃ b,e=.returned (ab b)/\R (ab b) d):=by kernel_rfl
theorem JI:bc prog f230 [ag i] R w=(cond (((cD .u64 i 2):Int)<1073741824) (g6 214 #[ab (i64.wrap (cD .u64 i 2))] w λa b e=>cond (b != 0) (R (.tuple #[ab 0,ad false]) e) (cond (a != i) (R (.tuple #[ab 0,ad false]) e) (R (.tuple #[ab (i64.wrap (cD .u64 i 2)),ad true]) e))) (g6 214 #[ab 0] w λc d f=>cond (d != 0) (R (.tuple #[ab 0,ad false]) f) (cond (c != i) (R (.tuple #[ab 0,ad false]) f) (R (.tuple #[ab 0,ad true]) f)))):=by kernel_rfl
theorem Ki (a b c d f g:Int)(h:an)(i k:Nat)(l m:Int)(w:aj)(R:bg):bc prog f233 [.agg #[ab a,ab b,ab c,ab d,ag f,ag g,af h i k,ag l,ab m]] R w=(aR w #[ab a,ab b,ab c,ab d,ag f,ag g,af h i k,ag l,ab m] 158 λb1 w1=>bN w1 (ah b1 0) λn=>cond (n == 1) (bN w1 (ah b1 3) λe=>R (ab e) w1) (cond (n == 3) (cond (n == 3) (R (ab 1) w1) (R (ab 0) w1)) (cond (n == 4) (R (ab 1) w1) (R (ab 0) w1)))):=by kernel_rfl
theorem ZD:bc prog f236 [ag i] R w=(R (.tuple #[ag (cD .u64 i 8),ab (i64.wrap (ee .u64 i 255))]) w):=by kernel_rfl
theorem JJ:bc prog f238 [ab i,ab k] R w=(cond (i<0) (R (ab (-1)) w) (cond (i>=6) (R (ab (-1)) w) (R (ab (i64.wrap ((i64.wrap ((i64.wrap (6+(i64.wrap (i*15))))*8))+k))) w))):=by kernel_rfl
theorem K':bc prog f240 [ag i,ab k] R w=(c6 158 #[ab k] w λa d=>cond (!a) (R (.tuple #[ag 0,ab 1]) d) (c6 170 #[ag i] d λb c=>cond (!b) (R (.tuple #[ag 0,ab 3]) c) (R (.tuple #[ag (iA .u64 i (u64.wrap (i64.wrap (k+1)))),ab 0]) c))):=by kernel_rfl
def yJ (c:an)(a b:Nat)(d e:Int)(j:al):al:=ae j 0 5 (af c a b::ab d::ab e::ae j 5 9 [])
def I5  (j:al):al:=ae j 0 17 []
theorem KD:bc prog f242 [af s a b] R w=(cj prog (cN f242 [1,0,1,0,0]) (yJ s a b (a:Nat) 0 (af s a b::undef::ab 0::a1 11 [])) (aL 0 (aS f242 [1,1] R)) w):=by kernel_rfl
theorem Y2 (g:al->aK):W prog (sb f242 [1,0,1,0,0]) (yJ s a b i k j) (aM g (aL 0 (aS f242 [1,1] R))) w=(cond (k<i) (bk s a k 2 λh=>pU w h λr=>aR w #[ab 0,a4] 131 λe l=>a8 l (ah e 0) 0 r.cells λf=>bN f (ah e 0) λc=>cond (c != 0) (bN f (ah e 0) λd=>R (ab d) f) (g (yJ s a b i (i64.wrap (k+1)) (ae j 0 4 [jp (ah e 0),ad (k<i),jp h,r.val,jp (ah e 0),ab c,ad ((c:Int) != 0),aB j 11,aB j 12,ab (i64.wrap (k+1))])) f)) (W prog (sb f242 [1,1]) (I5  (ae j 0 5 (af s a b::ab i::ab k::ad (k<i)::ae j 6 8 []))) (bV f242 R) w)):=by kernel_rfl
theorem Z1:W prog (sb f242 [1,1]) (I5  j) (bV f242 R) w=(R (ab 0) w):=by kernel_rfl
theorem TP:bc prog f243 [af s a b] R w=(cond (Option.isNone s) (R (a4) w) (aR w #[] 116 λh f=>da 33 (af (bs h) 0 0) (af s a b) f λg c d e=>R (af g c d) e)):=by kernel_rfl
def xE (e:an)(a b:Nat)(s1:an)(c d:Nat)(f g:Int)(j:al):al:=af e a b::af s1 c d::ae j 0 10 (ab f::ab g::ae j 10 12 [])
def Hm  (j:al):al:=ae j 0 26 []
theorem U9:bc prog f255 [af s a b,af t c d] R w=(cond ((a:Int) != (c:Nat)) (R (ad false) w) (cj prog (cN f255 [1,1,0,1,0,0]) (xE s a b t c d (a:Nat) 0 (a1 2 (ad false::undef::af s a b::cd a::af t c d::cd c::ad ((a:Int) != (c:Nat))::af s a b::a1 12 []))) (aL 0 (aS f255 [1,1,1] R)) w)):=by kernel_rfl
theorem TQ (f:al->aK):W prog (sb f255 [1,1,0,1,0,0]) (xE s a b t c d i k j) (aM f (aL 0 (aS f255 [1,1,1] R))) w=(cond (k<i) (ck w λl m=>bk s a k 1 λg=>hd m g λx=>bk t c k 1 λh=>hd m h λe=>cond (x != e) (R (ad false) l) (f (xE s a b t c d i (i64.wrap (k+1)) (aB j 0::aB j 1::aB j 2::ab k::ae j 4 6 [ad (k<i),ab k,af s a b,ab k,jp g,ag x,af t c d,ab k,jp h,ag e,ad ((x:Int) != e),ab (i64.wrap (k+1))])) l)) (W prog (sb f255 [1,1,1]) (Hm  (af s a b::af t c d::ae j 0 10 (ab i::ab k::ad (k<i)::ae j 11 11 []))) (bV f255 R) w)):=by kernel_rfl
theorem T4:W prog (sb f255 [1,1,1]) (Hm  j) (bV f255 R) w=(R (ad true) w):=by kernel_rfl
def xB (e:an)(a b:Nat)(s1:an)(c d:Nat)(f g:Int)(j:al):al:=af e a b::af s1 c d::ae j 0 10 (ab f::ab g::ae j 10 12 [])
def G'  (j:al):al:=ae j 0 26 []
theorem Ux:bc prog f256 [af s a b,af t c d] R w=(cond ((a:Int) != (c:Nat)) (R (ad false) w) (cj prog (cN f256 [1,1,0,1,0,0]) (xB s a b t c d (a:Nat) 0 (a1 2 (ad false::undef::af s a b::cd a::af t c d::cd c::ad ((a:Int) != (c:Nat))::af s a b::a1 12 []))) (aL 0 (aS f256 [1,1,1] R)) w)):=by kernel_rfl
theorem TI (e:al->aK):W prog (sb f256 [1,1,0,1,0,0]) (xB s a b t c d i k j) (aM e (aL 0 (aS f256 [1,1,1] R))) w=(cond (k<i) (ck w λl m=>bk s a k 9 λf=>rh m f λr=>bk t c k 9 λh=>rh m h λg=>od prog 73 r.val g.val λ(eq:Bool)=>cond (!eq) (R (ad false) l) (e (xB s a b t c d i (i64.wrap (k+1)) (aB j 0::aB j 1::aB j 2::ab k::ae j 4 6 [ad (k<i),ab k,af s a b,ab k,jp f,r.val,af t c d,ab k,jp h,g.val,ad (!eq),ab (i64.wrap (k+1))])) l)) (W prog (sb f256 [1,1,1]) (G'  (af s a b::af t c d::ae j 0 10 (ab i::ab k::ad (k<i)::ae j 11 11 []))) (bV f256 R) w)):=by kernel_rfl
theorem TY:W prog (sb f256 [1,1,1]) (G'  j) (bV f256 R) w=(R (ad true) w):=by kernel_rfl
end
end Go.Proofs.YtmkljjbioomepaaGreat
