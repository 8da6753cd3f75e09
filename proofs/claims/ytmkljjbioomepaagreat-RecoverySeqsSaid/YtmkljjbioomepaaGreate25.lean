import Derived.Test.YtmkljjbioomepaaGreate24
import Derived.OrdersIn
import Derived.Test.YtmkljjbioomepaaGreate05
import Derived.Test.YtmkljjbioomepaaGreatProg
import Derived.Test.YtmkljjbioomepaaGreate03
set_option linter.all false
namespace Go.Proofs.YtmkljjbioomepaaGreat
open Go.bn
def nR (i:Int):Bool:=decide (1<=i/\i<=59) && (Int.tmod i 2 == 1)
def fE (i c:Int):Int:=if nR i=false then 2 else if ¬ (0<=c/\c<6) then 1 else 0
def f_ (i c:Int):Int:=if fE i c=0 then i * 256+(c+1) else 0
def j' (t:Int):Int:=if fE (t / 256) (t % 256 - 1)=0 then t / 256 else 0
def ka (t:Int):Int:=if fE (t / 256) (t % 256 - 1)=0 then t % 256 - 1 else 0
def l6 (t:Int):Bool:=decide (fE (t / 256) (t % 256 - 1)=0)
theorem tj {i c:Int} (h:fE i c=0):(1<=i/\i<=59)/\0<=c/\c<6:=by
 unfold fE at h;split at h
 ·cases h
 ·rename_i a;split at h
  ·cases h
  ·rename_i b;have b:0<=c/\c<6:=by simpa using b
   have a:nR i=true:=by simpa using a
   unfold nR at a;have d:=of_decide_eq_true (Bool.and_eq_true_iff.1 a).1;exact ⟨d,b⟩
theorem Ke {i c:Int} (h:59<i):fE i c=2:=by unfold fE;rw [if_pos];unfold nR;rw [decide_eq_false (by omega)];rfl
theorem MK {i c:Int} (h:fE i c=0):jh .u64 (hN .u64 (IntKind.u64.wrap i) 8) (IntKind.u64.wrap (IntKind.i64.wrap (c+1)))=i * 256+(c+1):=by
 obtain ⟨⟨f,g⟩,j,k⟩:=tj h;rw [bA (x:=c+1) (by omega) (by omega),jt (x:=c+1) (by omega) (by omega),jt (x:=i) (by omega) (by omega)];have b:hN .u64 i 8=i * 256:=by show IntKind.u64.wrap (i * 2 ^ 8)=_;have:(2:Int) ^ 8=256:=rfl;rw [this];exact jt (by omega) (by omega)
 rw [b];obtain ⟨n,rfl⟩:=m1 (show 0<=i by omega);obtain ⟨m,hm⟩:=m1 (show 0<=c+1 by omega);rw [hm];have d:(n:Int) * 256=((n * 256:Nat):Int):=(Int.natCast_mul n 256).symm;rw [d,tz _ _ (by omega) (by omega)];have a:=uC n m 8 (by omega);have e:(2:Nat) ^ 8=256:=rfl;rw [e] at a;rw [a];exact Int.natCast_add _ _
theorem zT (w:al) (x a b:Int):ba 141 [.int .i64 x,.int .i64 a,.int .i64 b] w λv w'=>v=.bool (decide (a<=x/\x<=b))/\w'=w:=by
 refine bc Tryz.func141 ?_;rw [EC];refine a9 (λh=>⟨?_,rfl⟩) (λh=>⟨?_,rfl⟩)
 ·have:a<=x:=h;simp [this]
 ·have:¬ a<=x:=h;simp [this]
theorem ML (w:al) (i:Int):ba 178 [.int .i64 i] w λv w'=>v=.bool (nR i)/\w'=w:=by refine bc Tryz.func178 ?_;rw [GB];refine aD (zT w i 1 59) ?_;rintro v w1 ⟨rfl,rfl⟩;unfold nR;refine ⟨_,rfl,fy (λh=>⟨by rw [h];simp,rfl⟩) (λh=>⟨by rw [h];simp,rfl⟩)⟩
theorem I6 (w:al) (c:Int):ba 158 [.int .i64 c] w λv w'=>v=.bool (decide (0<=c/\c<6))/\w'=w:=by refine bc Tryz.func158 ?_;rw [EM];refine aD (zT w c 0 5) ?_;rintro v w1 ⟨rfl,rfl⟩;refine ⟨_,rfl,?_,rfl⟩;congr 1;rw [decide_eq_decide];omega
abbrev Lc (w:al) (i c:Int):cp:=λx w'=>x=.tuple #[.int .u64 (f_ i c),.int .i64 (fE i c)]/\w'=w
theorem Kf {i c:Int} (h:nR i=false):f_ i c=0/\fE i c=2:=by have e:fE i c=2:=if_pos h;refine ⟨?_,e⟩;unfold f_;rw [if_neg (by rw [e];omega)]
theorem Kg {i c:Int} (h:nR i=true) (a:¬ (0<=c/\c<6)):f_ i c=0/\fE i c=1:=by
 have e:fE i c=1:=by unfold fE;rw [if_neg (by rw [h];simp),if_pos a]
 refine ⟨?_,e⟩;unfold f_;rw [if_neg (by rw [e];omega)]
theorem CW {i c:Int} (h:nR i=true) (a:0<=c/\c<6):fE i c=0:=by unfold fE;rw [if_neg (by rw [h];simp),if_neg (λe=>e a)]
theorem xG {i c:Int} (h:fE i c=0):f_ i c=i * 256+(c+1):=if_pos h
theorem uG (w:al) (i c:Int):ba 128 [.int .i64 i,.int .i64 c] w (Lc w i c):=by
 refine bc Tryz.func128 ?_;rw [Hr];refine aD (ML w i) ?_;rintro v w1 ⟨rfl,rfl⟩;refine ⟨_,rfl,dZ (λd=>?_) (λf=>?_)⟩
 ·obtain ⟨a,b⟩:=Kf (c:=c) d;exact ⟨by rw [a,b],rfl⟩
 refine aD (I6 w1 c) ?_;rintro v h ⟨rfl,rfl⟩;refine ⟨_,rfl,dZ (λd=>?_) (λg=>?_)⟩
 ·obtain ⟨a,b⟩:=Kg f (of_decide_eq_false d);exact ⟨by rw [a,b],rfl⟩
 ·have e:=CW f (of_decide_eq_true g);exact ⟨by rw [MK e,xG e,e],rfl⟩
abbrev I7 (w:al) (t:Int):cp:=λx w'=>x=.tuple #[.int .i64 (j' t),.int .i64 (ka t),.bool (l6 t)]/\w'=w
theorem BL {t:Int} (h:fE (t / 256) (t % 256 - 1)≠0):j' t=0/\ka t=0/\l6 t=false:=⟨if_neg h,if_neg h,decide_eq_false h⟩
theorem zU {t:Int} (h:fE (t / 256) (t % 256 - 1)=0):j' t=t / 256/\ka t=t % 256 - 1/\l6 t=true:=⟨if_pos h,if_pos h,decide_eq_true h⟩
theorem Nn {t:Int} (a:b3 t):c5 .u64 t 8=t / 256:=by show Int.fdiv t 256=_;rw [tN _ (by decide)]
theorem Ld (w:al):ba 198 [.int .i64 8] w λv w'=>v=.int .u64 255/\w'=w:=by refine bc Tryz.func198 ?_;rw [G1];exact ⟨by decide,by rfl,rfl⟩
theorem F_ (w:al) {t:Int} (f:b3 t):ba 177 [.int .u64 t] w (I7 w t):=by
 have j:=f.1;have k:=f.2;refine bc Tryz.func177 ?_;rw [Tz];rw [Nn f];refine a9 (λh=>?_) (λh=>?_)
 ·refine aD (Ld w) ?_;rintro v w1 ⟨rfl,rfl⟩;refine ⟨_,rfl,?_⟩;have i:gw .u64 t 255=t % 256:=Ao j k 8 (by omega);dsimp only;rw [i,bA (x:=t / 256) (by omega) (by omega),bA (x:=t % 256) (by omega) (by omega),bA (x:=t % 256 - 1) (by omega) (by omega)];refine aD (uG w1 (t / 256) (t % 256 - 1)) ?_;rintro v l ⟨rfl,rfl⟩;refine ⟨_,_,rfl,dt (λhe=>?_) (λhe=>?_)⟩
  ·obtain ⟨a,b,c⟩:=BL he;exact ⟨by rw [a,b,c],rfl⟩
  ·obtain ⟨a,b,c⟩:=zU he;rw [xG he];refine dt (λe=>absurd (by omega) e) (λ_=>⟨by rw [a,b,c],rfl⟩)
 ·have d:fE (t / 256) (t % 256 - 1)=2:=Ke (by have h:¬ t / 256<=59:=h;omega);obtain ⟨a,b,c⟩:=BL (t:=t) (by rw [d];omega);refine aD (uG w 0 0) ?_;rintro v l ⟨rfl,rfl⟩;have g:fE 0 0=2:=by decide
  refine ⟨_,_,rfl,dt (λhe=>⟨by rw [a,b,c],rfl⟩) (λhe=>absurd (g.symm.trans he) (by decide))⟩
structure bz where
 aP:Int
 inc:Int
 lines:Int
 v:iI
 dead:Int
 dL:Int
 prev:Int
def bz.tail (j:bz):Int:=
 if j.lines<98\/256<j.lines then 18 else if j.dead=j.aP/\j.dL≠j.inc then 1
 else if j.dead≠j.aP/\(j.dL<2\/60<j.dL\/Int.tmod j.dL 2≠0) then 2
 else if j.prev≠0/\(l6 j.prev=false\/ka j.prev=j.aP/\j.inc<=j' j.prev\/ka j.prev=j.dead/\j.dL<=j' j.prev) then 1 else 0
def bz.valid (j:bz):Int:=
 if fE j.inc j.aP≠0 then fE j.inc j.aP else if j.dead<0\/6<=j.dead then 1 else if j.v.valid 5≠0 then j.v.valid 5 else j.tail
structure p6 (w:al) (r:cN) (j:bz):Prop where
 aP:r.Client=j.aP
 inc:r.hL=j.inc
 lines:r.gS=j.lines
 view:∃ M,fG M w r.View j.v
 dead:r.ez=j.dead
 dL:r.fu=j.dL
 prev:r.hb=j.prev
 u64:b3 r.hb
theorem p6.new {w w':al} {r:cN} {j:bz} (h:p6 w r j) (a:ai w w'):p6 w' r j:=⟨h.aP,h.inc,h.lines,h.view.imp λ_ h=>h.new a,h.dead,h.dL,h.prev,h.u64⟩
end Go.Proofs.YtmkljjbioomepaaGreat
set_option linter.unusedSectionVars false
namespace Go.Proofs.YtmkljjbioomepaaGreat
open Go.bn Go.RowKit
def plus (a:Act) (ds:List Deferred):Act:={ a with defers:=a.defers++ds }
def lH (ds:List Deferred) (a:aw):Act:={ tmps:=a.toArray,defers:=ds }
theorem Kh (ds:List Deferred) (a:aw):plus (act a) ds=lH ds a:=rfl
theorem kF (a:Act) (ds:List Deferred) (d:Option Tmp) (v:a0):(plus a ds).put d v=plus (a.put d v) ds:=by cases d<;>rfl
theorem zE (a:Act) (ds:List Deferred):(plus a ds).eval=a.eval:=by funext x;cases x<;>rfl
def hl (F:Fence):Prop:=F=Fence.wide\/∃ r,F=Fence.wide.inRound r
theorem Gj:hl Fence.wide:=.inl rfl
theorem F5 (r:Nat):hl (Fence.wide.inRound r):=.inr ⟨r,rfl⟩
section
variable {P:Program} {F:Fence} {n:Nat} {ds:List Deferred} {Q iF:Exit->Act->aE}
theorem hl.fn (h:hl F) (f:FuncId):F.fn f:=by rcases h with rfl | ⟨r,rfl⟩<;>trivial
theorem hl.depth (h:hl F):F.depth=none:=by rcases h with rfl | ⟨r,rfl⟩<;>rfl
theorem hl.fenced (h:hl F):Machine.fenced P F=Machine.fenced P Fence.wide:=by rcases h with rfl | ⟨r,rfl⟩<;>rfl
theorem hl.calls (h:hl F) {f:FuncId} {args:Array a0} {w:al} {R:Ending->aE} (k:Calls P f args w R):CallsIn F n P f args w R:=by
 rcases h with rfl | ⟨r,rfl⟩
 ·exact callsIn_wide.2 k
 ·exact CallsIn.inRound r (callsIn_wide.2 k)
theorem hl.rows (h:hl F) {row:String} {args:Array a0} {w:al} {R:cp} (k:Rows P row args w R):RowsIn F n P row args w R:=by intro c cs _;obtain ⟨v,w',r,s⟩:=k c cs;exact ⟨v,w',r,by rw [h.fenced];exact stepsIn_wide.2 s⟩
def q5 (o:Oper):Bool:=match o.op with
 | .defer _=>false
 | _=>true
theorem hl.Fa (h:hl F) {o:Oper} (d:q5 o=true) (a:Operand->a0):o.semAt F.round a=execOp a o:=by
 rcases h with rfl | ⟨r,rfl⟩
 ·exact Oper.semAt_none _ _
 ·exact Oper.semAt_some _ _ _ λc b=>by simp [q5,b] at d
theorem hl.one (h:hl F):F.depth.isSome=true->1<=n:=λa=>by rw [h.depth] at a;cases a
theorem Le (j:hl F) {o:Oper} {a:Act} {next next':Act->aE} (b:∀ a w,next a w->next' (plus a ds) w) (k:∀ c a w,¬ Q (.panic c) a w) (l:¬ LetsOut Q) :
  ∀ {x:Result Go.Next},o.upon P a next Q x->o.uponIn F n P (plus a ds) next' iF x
 | .ok (.value v) w',h=>by rw [Oper.uponIn_value,kF];exact b _ _ h
 | .ok .skip w',h=>by rw [Oper.uponIn_skip,kF];exact b _ _ h
 | .ok (.defer d) w',h=>by rw [Oper.uponIn_defer];have e:({ plus a ds with defers:=d::(plus a ds).defers }:Act)=plus { a with defers:=d::a.defers } ds:=rfl;rw [e,kF];exact b _ _ h
 | .ok (.enter f args) w',h=>by
  rw [Oper.uponIn_enter];refine ⟨j.one,j.calls (Calls.mono h λe i g=>?_)⟩;cases e with
  |returned v=>show next' ((plus a ds).put o.dst v) i;rw [kF];exact b _ _ g
  |panicked c=>exact absurd g (k _ _ _)
  |outgrown=>exact absurd g l
 | .ok (.row row args) w',h=>by rw [Oper.uponIn_row];refine ⟨j.one,j.rows (Rows.mono h λv i g=>?_)⟩;rw [kF];exact b _ _ g
 | .ok (.round ..) w',h=>h.elim
 | .halt (.panic v) w',h=>absurd h (k _ _ _)
 | .halt .blocked _,h=>h.elim
 | .halt .waiting _,h=>h.elim
 | .halt (.exit _) _,h=>h.elim
 | .halt (.stuck _) _,h=>h.elim
 | .halt (.unsupported _) _,h=>h.elim
theorem CX (d:hl F) {md:Region.Mode} {ops:Array Oper} (aA:∀ o ∈ ops.toList,q5 o=true) (p:∀ a w,Q .normal a w->iF .normal (plus a ds) w) (r:∀ c a w,¬ Q (.panic c) a w) (j:¬ LetsOut Q) :
  ∀ (fuel:Nat) (cR:Array Bool) (a:Act) (w:al),wpAny P md ops Q fuel cR a w->wpAnyIn F n P md ops iF fuel cR (plus a ds) w
 | 0,cR,a,w,h=>⟨h.1,p _ _ h.2⟩
 |fuel+1,cR,a,w,h=>by
  refine ⟨λt=>p _ _ (h.1 t),λi s=>?_⟩;have b:=h.2 i s;have q:=CX (md:=md) d aA p r j fuel (cR.setIfInBounds i true);unfold wpOp at b;unfold wpOpIn;cases l:ops[i]? with
  |none=>simp only [l] at b ⊢;exact q _ _ b
  |some o=>
   simp only [l] at b ⊢;have g:o ∈ ops.toList:=by obtain ⟨k,e⟩:=tL.1 l;exact e▸(Array.getElem_mem_toList k)
   have u:(plus a ds).tmps=a.tmps:=rfl;rw [u];split at b
   ·rename_i hw;rw [if_pos hw];refine ⟨λf _=>d.fn f,?_⟩;rw [d.Fa (aA o g),zE];rcases b with b | ⟨_,b⟩
    ·exact Le d q r j b
    ·exact absurd b j
   ·rename_i hw;rw [if_neg hw];refine ⟨λf _=>d.fn f,?_⟩;rw [kF];exact q _ _ b
theorem I8 (g:hl F) {o:Oper} {a:Act} {next next':Act->aE} (i:∀ a w,next a w->next' (plus a ds) w) (k:∀ c a w,¬ Q (.panic c) a w) (r:¬ LetsOut Q) :
  ∀ {x:Result Go.Next},o.uponIn Fence.wide 0 P a next Q x->o.uponIn F n P (plus a ds) next' iF x
 | .ok (.value v) w',h=>by rw [Oper.uponIn_value,kF];exact i _ _ h
 | .ok .skip w',h=>by rw [Oper.uponIn_skip,kF];exact i _ _ h
 | .ok (.defer d) w',h=>by rw [Oper.uponIn_defer];have e:({ plus a ds with defers:=d::(plus a ds).defers }:Act)=plus { a with defers:=d::a.defers } ds:=rfl;rw [e,kF];exact i _ _ h
 | .ok (.enter f args) w',h=>by
  rw [Oper.uponIn_enter];refine ⟨g.one,g.calls (Calls.mono (callsIn_wide.1 h.2) λe q b=>?_)⟩;cases e with
  |returned v=>show next' ((plus a ds).put o.dst v) q;rw [kF];exact i _ _ b
  |panicked c=>exact absurd b (k _ _ _)
  |outgrown=>exact absurd b r
 | .ok (.row row args) w',h=>by rw [Oper.uponIn_row];refine ⟨g.one,λc cs _=>?_⟩;obtain ⟨v,j,b,p⟩:=h.2 c cs (room_wide _);refine ⟨v,j,?_,by rw [g.fenced];exact p⟩;show next' ((plus a ds).put o.dst v) j;rw [kF];exact i _ _ b
 | .ok (.round l f tmps assign body) w',h=>by
  rw [Oper.uponIn_round];refine ⟨g.one,g.fn _,λc cs _=>?_⟩;obtain ⟨e,j,b,p⟩:=h.2.2 c cs (room_wide _);refine ⟨e,j,?_,by rw [g.fenced];exact p⟩;cases e with
  |returned v=>show next' ((plus a ds).put o.dst v) j;rw [kF];exact i _ _ b
  |panicked c=>exact absurd b (k _ _ _)
  |outgrown=>exact absurd b r
 | .halt (.panic v) w',h=>absurd h (k _ _ _)
 | .halt .blocked _,h=>h.elim
 | .halt .waiting _,h=>h.elim
 | .halt (.exit _) _,h=>h.elim
 | .halt (.stuck _) _,h=>h.elim
 | .halt (.unsupported _) _,h=>h.elim
theorem B7 (b:hl F) {ops:Array Oper} (i:∀ a w,Q .normal a w->iF .normal (plus a ds) w) (g:∀ c a w,¬ Q (.panic c) a w) (e:¬ LetsOut Q) :
  ∀ (l:List Oper) (a:Act) (w:al),(∀ o ∈ l,q5 o=true)->wpListIn Fence.wide 0 P ops Q l a w->wpListIn F n P ops iF l (plus a ds) w
 | [],a,w,_,h=>i _ _ h
 |o::l,a,w,aA,h=>by
  have j:=λa w=>B7 b (ops:=ops) i g e l a w λo k=>aA o (e2 _ k)
  unfold wpListIn at h ⊢;split at h
  ·rename_i hw;show (if Region.wanted o (yielded ops a.tmps) then _ else _);rw [if_pos hw];refine ⟨λf _=>b.fn f,?_⟩;have d:=h.2;rw [show Fence.wide.round=none from rfl,Oper.semAt_none] at d;rw [b.Fa (aA o d_),zE];exact I8 b j g e d
  ·rename_i hw;show (if Region.wanted o (yielded ops a.tmps) then _ else _);rw [if_neg hw];refine ⟨λf _=>b.fn f,?_⟩;rw [kF];exact j _ _ h.2
end
def mc (ds:List Deferred) (Q:Exit->aw->aE):Exit->Act->aE
 | .panic _,_,_=>False
 | .outgrown,_,_=>False
 |e,a,w=>a.defers=ds/\Q e a.tmps.toList w
theorem gx {ds:List Deferred} {Q:Exit->aw->aE} {e:Exit} {env:aw} {w:al} (h:Q e env w) (he:(∀ c,e≠.panic c)/\e≠.outgrown):mc ds Q e (lH ds env) w:=by
 cases e with
 |panic c=>exact absurd rfl (he.1 c)
 |outgrown=>exact absurd rfl he.2
 | _=>exact ⟨rfl,by simpa [lH] using h⟩
theorem lR {ds:List Deferred} {Q:Exit->aw->aE} {e:Exit} {a:Act} {w:al} (h:mc ds Q e a w):((∀ c,e≠.panic c)/\e≠.outgrown)/\∃ env,a=lH ds env/\Q e env w:=by
 have mk:∀ (a:Act),a.defers=ds->a=lH ds a.tmps.toList:=λa b=>by
  cases a with
  |mk t d=>simp only at b;subst b;simp [lH]
 cases e with
 |panic c=>exact h.elim
 |outgrown=>exact h.elim
 |normal=>exact ⟨⟨λ_=>by simp,by simp⟩,_,mk a h.1,h.2⟩
 |exit i=>exact ⟨⟨λ_=>by simp,by simp⟩,_,mk a h.1,h.2⟩
 |goto i=>exact ⟨⟨λ_=>by simp,by simp⟩,_,mk a h.1,h.2⟩
 |ret=>exact ⟨⟨λ_=>by simp,by simp⟩,_,mk a h.1,h.2⟩
def j7:Code->Bool
 | .region _ ops _=>ops.toList.all q5
 | .seq a b=>j7 a && j7 b
 | .cond _ a b=>j7 a && j7 b
 | .block _ c=>j7 c
 | .skip=>true
 | .exit _=>true
 | .ret=>true
 | _=>false
theorem No (ds:List Deferred) (a:aw):(lH ds a).eval=bT a:=by rw [<-Kh,zE,rq]
theorem I9 {P:Program} {ops:List Oper} {env:aw} {K:aw->aE} {Q:Exit->Act->aE} {w:al} (d:Region.noSelect ops.toArray=true)
  (b:∀ env w,K env w->Q .normal (act env) w) (dp:∀ c a w,¬ Q (.panic c) a w) (h:sl P ops env K w):wpAny P .any ops.toArray Q ops.toArray.size (Array.replicate ops.toArray.size false) (act env) { w with drawn:=w.drawn+1 }:=by
 unfold sl at h;split at h
 ·obtain ⟨S,e,h⟩:=h _ rfl;refine s6 (S:=S) (nd:=uM ops (xl ops)) _ _ _ _ ?_;have:=mB (Bv ops _) d b dp _ _ _ _ _ (vW _ _) (λ_=>e) h;simpa using this
 ·refine s6 (S:=λ_=>True) (nd:=pQ ops) _ _ _ _ ?_;have:=mB (xj ops) d b dp _ _ _ _ _ (vW _ _) (λ_=>trivial) (h _ rfl);simpa using this
def sy (K:aw->aE):Exit->Act->aE
 | .normal,a,w=>∃ env,a=act env/\K env w
 | _,_,_=>False
theorem mv {P:Program} (hm:P.follows .mixedOrders=true) {F:Fence} (j:hl F) {n:Nat} {ds:List Deferred}:∀ (c:Code) (env:aw) (Q:Exit->aw->aE) (w:al),
  j7 c=true->W P c env Q w->c.wpIn F n P (mc ds Q) (lH ds env) w
 | .skip,env,Q,w,aA,h=>by rw [W.eq_def] at h;exact wpIn_skip (gx h ⟨λ_=>by simp,by simp⟩)
 | .region id ops draw,env,Q,w,aA,h=>by
  have d:∀ a w,sy (Q .normal) .normal a w->mc ds Q .normal (plus a ds) w:=by rintro _ w ⟨f,rfl,A⟩;exact gx A ⟨λ_=>by simp,by simp⟩
  have s:∀ c a w,¬ sy (Q .normal) (.panic c) a w:=λc a w h=>h
  have y:¬ LetsOut (sy (Q .normal)):=λ⟨_,_,h⟩=>h
  have k:∀ o ∈ ops.toList,q5 o=true:=gd.1 aA;rw [W.eq_def] at h;cases draw with
  |true=>
   simp only at h;split at h
   ·rename_i B;have u:=I9 (Q:=sy (Q .normal)) (by simpa using B) (λenv w r=>⟨env,rfl,r⟩) s h;simp only [Array.toArray_toList] at u;exact wpIn_region_any hm (CX j k d s y _ _ _ _ u)
   ·exact h.elim
  |false=>simp only at h;exact wpIn_region_list (B7 j d s y _ _ _ k (by simpa using nJ (all:=ops.toList) (Q:=sy (Q .normal)) ops.toList env w (Q .normal) (λenv w r=>⟨env,rfl,r⟩) h))
 | .seq a b,env,Q,w,aA,h=>by
  rw [W.eq_def] at h;have aA:(j7 a && j7 b)=true:=aA;simp only [eH] at aA;have p:=mv hm j (n:=n) (ds:=ds) a env _ w aA.1 h;refine wpIn_seq (wpIn_mono p λx z w' g=>?_);obtain ⟨e,f,q,d⟩:=lR g;subst q;clear g;cases x with
  |normal=>exact mv hm j b f Q w' aA.2 d
  |panic c=>exact absurd rfl (e.1 c)
  |outgrown=>exact absurd rfl e.2
  |exit i=>exact gx d e
  |goto i=>exact gx d e
  |ret=>exact gx d e
 | .cond o a b,env,Q,w,aA,h=>by
  rw [W.eq_def] at h;have aA:(j7 a && j7 b)=true:=aA;simp only [eH] at aA;simp only at h;split at h
  ·rename_i t C;refine wpIn_cond (t:=t) (by rw [No];exact C) ?_;cases t with
   |true=>exact mv hm j a env Q w aA.1 h
   |false=>exact mv hm j b env Q w aA.2 h
  ·exact h.elim
 | .block id c,env,Q,w,aA,h=>by
  rw [W.eq_def] at h;have p:=mv hm j (n:=n) (ds:=ds) c env _ w aA h;refine wpIn_block (wpIn_mono p λx z w' g=>?_);obtain ⟨e,f,q,d⟩:=lR g;subst q;clear g;cases x with
  |exit i=>
   simp only [aW] at d;simp only [Exit.inBlock];cases l:Nat.beq i id with
   |true=>rw [l] at d;rw [if_pos (kp l)];exact gx d ⟨λ_=>by simp,by simp⟩
   |false=>rw [l] at d;rw [if_neg (zW l)];exact gx d e
  |panic c=>exact absurd rfl (e.1 c)
  |outgrown=>exact absurd rfl e.2
  |normal=>exact gx d e
  |goto i=>exact gx d e
  |ret=>exact gx d e
 | .loop c,env,Q,w,aA,h=>by cases aA
 | .exit i,env,Q,w,aA,h=>by rw [W.eq_def] at h;exact wpIn_exit (gx h ⟨λ_=>by simp,by simp⟩)
 | .ret,env,Q,w,aA,h=>by rw [W.eq_def] at h;exact wpIn_ret (gx h ⟨λ_=>by simp,by simp⟩)
 | .rangeFunc ..,_,_,_,aA,_=>by cases aA
 | .scope _,_,_,_,aA,_=>by cases aA
 | .label _,_,_,_,aA,_=>by cases aA
 | .goto _,_,_,_,aA,_=>by cases aA
 | .refuse _,_,_,_,aA,_=>by cases aA
def j5 (Q:Exit->aw->aE):Exit->aw->aE
 | .exit i,env,w=>match Nat.beq i 77 with
  |true=>False
  |false=>Q (.exit i) env w
 |e,env,w=>Q e env w
def jJ:Code->Bool
 | .region ..=>true
 | .seq a b=>jJ a && jJ b
 | .cond _ a b=>jJ a && jJ b
 | .block id c=>!Nat.beq 77 id && jJ c
 | .skip=>true
 | .exit i=>!Nat.beq i 77
 | .ret=>true
 | _=>false
theorem xa {N:aw->aE} {Q:Exit->aw->aE}:j5 (a1 N Q)=a1 N (j5 Q):=by funext e env w;cases e<;>rfl
theorem Gk {id:Nat} (h:Nat.beq 77 id=false) {Q:Exit->aw->aE}:j5 (aW id Q)=aW id (j5 Q):=by
 funext e env w;cases e with
 |exit i=>
  simp only [j5,aW];cases c:Nat.beq i id with
  |true=>
   have a:=kp c;subst a;have:Nat.beq i 77=false:=by
    cases b:Nat.beq i 77 with
    |false=>rfl
    |true=>have:=kp b;subst this;rw [Nat.beq_refl] at h;cases h
   rw [this]
  |false=>rfl
 | _=>rfl
theorem pe {P:Program}:∀ (c:Code) (env:aw) (Q:Exit->aw->aE) (w:al),jJ c=true->W P c env (j5 Q) w=W P c env Q w
 | .skip,env,Q,w,_=>by rw [W.eq_def,W.eq_def];rfl
 | .region id ops draw,env,Q,w,_=>by rw [W.eq_def,W.eq_def];rfl
 | .seq a b,env,Q,w,h=>by have h:(jJ a && jJ b)=true:=h;simp only [eH] at h;rw [W.eq_def P (.seq a b),W.eq_def P (.seq a b)];show W P a env (a1 (λenv w=>W P b env (j5 Q) w) (j5 Q)) w=W P a env (a1 (λenv w=>W P b env Q w) Q) w;rw [<-xa,pe a env _ w h.1];congr 2;funext env w;exact pe b env Q w h.2
 | .cond c x y,env,Q,w,h=>by have h:(jJ x && jJ y)=true:=h;simp only [eH] at h;rw [W.eq_def P (.cond c x y),W.eq_def P (.cond c x y)];simp only [pe x env Q w h.1,pe y env Q w h.2]
 | .block id c,env,Q,w,h=>by have h:(!Nat.beq 77 id && jJ c)=true:=h;simp only [eH,qg] at h;rw [W.eq_def P (.block id c),W.eq_def P (.block id c)];show W P c env (aW id (j5 Q)) w=W P c env (aW id Q) w;rw [<-Gk h.1,pe c env _ w h.2]
 | .exit i,env,Q,w,h=>by have h:(!Nat.beq i 77)=true:=h;rw [W.eq_def,W.eq_def];simp only [qg] at h;simp only [j5,h]
 | .ret,env,Q,w,_=>by rw [W.eq_def,W.eq_def];rfl
 | .loop ..,_,_,_,h=>by cases h
 | .rangeFunc ..,_,_,_,h=>by cases h
 | .scope ..,_,_,_,h=>by cases h
 | .label ..,_,_,_,h=>by cases h
 | .goto ..,_,_,_,h=>by cases h
 | .refuse ..,_,_,_,h=>by cases h
def m7:Code->d9->Code
 | _,[]=>.exit 77
 | .seq a b,n::p=>match n with | 0=>.seq (m7 a p) b | _=>.seq a (m7 b p)
 | .block id c,_::p=>.block id (m7 c p)
 |c,_=>c
def pf:Code->d9->Bool
 | _,[]=>true
 | .seq a b,n::p=>match n with | 0=>pf a p && (j7 b && jJ b) | _=>(j7 a && jJ a) && pf b p
 | .block id c,_::p=>!Nat.beq 77 id && pf c p
 | _,_=>false
def rX (F:Fence) (n:Nat) (P:Program):Code->d9->(Exit->Act->aE)->Exit->Act->aE
 | _,[],Q=>Q
 | .seq a b,m::p,Q=>match m with
  | 0=>rX F n P a p (Exit.then (λa w=>b.wpIn F n P Q a w) Q)
  | _=>rX F n P b p Q
 | .block id c,_::p,Q=>rX F n P c p (Exit.inBlock id Q)
 | _,_,Q=>Q
theorem MM {P:Program} (hm:P.follows .mixedOrders=true) {F:Fence} (y:hl F) {n:Nat} {ds:List Deferred}:∀ (p:d9) (c:Code) (env:aw) (Q:Exit->aw->aE) (q:Exit->Act->aE) (w:al),
  pf c p=true->W P (m7 c p) env Q w->(∀ env w,Q (.exit 77) env w->(sub c p).wpIn F n P (rX F n P c p q) (lH ds env) w)->
  (∀ e a w,mc ds (j5 Q) e a w->q e a w)->c.wpIn F n P q (lH ds env) w:=by
 intro p;induction p with
 |nil=>
  intro c env Q q w j h r l;have k:W P (.exit 77) env Q w:=by cases c<;>exact h
  rw [W.eq_def] at k;have o:=r env w k;have z:sub c []=c:=by rw [sub.eq_def]
  have A:rX F n P c [] q=q:=by cases c<;>rfl
  rw [z,A] at o;exact o
 |cons m p x=>
  intro c env Q q w j h r l;cases c with
  |seq a b=>
   cases m with
   |zero=>
    have j:(pf a p && (j7 b && jJ b))=true:=j;simp only [eH] at j;have k:W P (.seq (m7 a p) b) env Q w:=h;rw [W.eq_def] at k;refine wpIn_seq ?_;refine x a env _ (Exit.then (λa w=>b.wpIn F n P q a w) q) w j.1 k (λenv w o=>?_) (λe a w o=>?_)
    ·have:=r env w o;rw [sub.eq_def] at this;exact this
    ·obtain ⟨d,f,rfl,g⟩:=lR o;rw [xa] at g;cases e with
     |normal=>
      have u:W P b f (j5 Q) w:=by rw [pe b f Q w j.2.2];exact g
      exact wpIn_mono (mv hm y b f _ w j.2.1 u) l
     |panic c=>exact absurd rfl (d.1 c)
     |outgrown=>exact absurd rfl d.2
     |exit i=>exact l _ _ _ (gx g d)
     |goto i=>exact l _ _ _ (gx g d)
     |ret=>exact l _ _ _ (gx g d)
   |succ m=>
    have j:((j7 a && jJ a) && pf b p)=true:=j;simp only [eH] at j;have k:W P (.seq a (m7 b p)) env Q w:=h;rw [W.eq_def] at k;have k:W P a env (a1 (λenv w=>W P (m7 b p) env Q w) Q) w:=k;rw [<-pe a env _ w j.1.2,xa] at k;refine wpIn_seq (wpIn_mono (mv hm y a env _ w j.1.1 k) λe a w o=>?_);obtain ⟨d,f,rfl,g⟩:=lR o;cases e with
    |normal=>refine x b f Q q w j.2 g (λenv w t=>?_) l;have:=r env w t;rw [sub.eq_def] at this;exact this
    |panic c=>exact absurd rfl (d.1 c)
    |outgrown=>exact absurd rfl d.2
    |exit i=>exact l _ _ _ (gx g d)
    |goto i=>exact l _ _ _ (gx g d)
    |ret=>exact l _ _ _ (gx g d)
  |block id c=>
   have j:(!Nat.beq 77 id && pf c p)=true:=j;simp only [eH,qg] at j;have k:W P (.block id (m7 c p)) env Q w:=h;rw [W.eq_def] at k;have k:W P (m7 c p) env (aW id Q) w:=k;refine wpIn_block ?_;refine x c env (aW id Q) _ w j.2 k (λenv w o=>?_) (λe a w o=>?_)
   ·have t:Q (.exit 77) env w:=by simp only [aW,j.1] at o;exact o
    have:=r env w t;rw [sub.eq_def] at this;exact this
   ·obtain ⟨d,f,rfl,g⟩:=lR o;rw [Gk j.1] at g;cases e with
    |exit i=>
     simp only [aW] at g;simp only [Exit.inBlock];cases s:Nat.beq i id with
     |true=>rw [s] at g;rw [if_pos (kp s)];exact l _ _ _ (gx g ⟨λ_=>by simp,by simp⟩)
     |false=>rw [s] at g;rw [if_neg (zW s)];exact l _ _ _ (gx g d)
    |panic c=>exact absurd rfl (d.1 c)
    |outgrown=>exact absurd rfl d.2
    |normal=>exact l _ _ _ (gx g d)
    |goto i=>exact l _ _ _ (gx g d)
    |ret=>exact l _ _ _ (gx g d)
  | _=>cases j
theorem HX {P:Program} {t:TypeId} {x:a0} {K c:cp} {w w':al} (e:∀ bu v,w.cell? bu=some v->w'.cell? bu=some v) (g:∀ v,K v w->c v w') (h:nh P t x K w):nh P t x c w':=by
 have b:∀ (vs:aw) (bu:aV) (i:Nat),b7 w bu i vs->b7 w' bu i vs:=by
  intro vs;induction vs with
  |nil=>intro bu i h;exact trivial
  |cons v vs j=>intro bu i h;exact ⟨e _ _ h.1,j _ _ h.2⟩
 unfold nh at h ⊢;split at h
 ·split at h
  ·exact h.elim
  ·rename_i inf f;split at h
   ·rename_i a;split at h
    ·rename_i k;exact AX (λvs h=>⟨b _ _ _ h.1,g _ h.2⟩) h
    ·exact h.elim
   ·rename_i a;split at h
    ·exact h.elim
    ·rename_i d aA;exact AW (λv h=>⟨e _ _ h.1,g _ h.2⟩) h
 ·exact h.elim
theorem zF {P:Program} {env:aw} {w w':al} (b:∀ bu v,w.cell? bu=some v->w'.cell? bu=some v):∀ (rs:List ResultVar) {K:aw->Prop},mT P rs env K w->mT P rs env K w'
 | [],K,h=>h
 | .tmp t::rs,K,h=>zF b rs h
 | .cell a t::rs,K,h=>HX b (λv h=>⟨rfl,zF b rs h.2⟩) h
theorem Lf {P:Program} {fn:Func} {R:cp} {n D:Nat} {e:Exit} {a:Act} {w:al} {d:Ending->aE} (k:∀ v,R v w->w.heap[D]?=some (.deferred (some []))/\d (.returned v) (w.putObj D (.deferred none)))
  (h:mc [{ target:=.collected D,args:=#[] }] (dh P fn R) e a w):bodyPostM Fence.wide n P fn d e a w:=by
 have main:∀ env,mT P fn.results.toList env (λvs=>R (rm vs) w) w->LeavesInM Fence.wide n P fn env.toArray d [{ target:=.collected D,args:=#[] }] .returning w:=by
  intro env h;obtain ⟨vs,_,g⟩:=wB _ _ h;have j:=(k _ g).1;have r:∀ bu v,w.cell? bu=some v->(w.putObj D (.deferred none)).cell? bu=some v:=by
   intro bu v h;obtain ⟨o,l,q⟩:=cells_of_cell h;have f:bu.block≠D:=by intro e;rw [e,j] at l;cases l;cases q
   rw [World.cell?_of_block (w:=w)]
   ·exact h
   ·exact World.putObj_heap_other f
  obtain ⟨v,aj,g⟩:=vX (P:=P) (fn:=fn) (env:=env) (w:=w.putObj D (.deferred none)) (K:=λv=>R v w) (zF r _ h);exact ⟨by simp,.inl ⟨_,_,rfl,run_takeDeferred j,⟨_,aj,(k v g).2⟩⟩⟩
 obtain ⟨p,env,rfl,b⟩:=lR h;cases e with
 |normal=>exact main env b
 |ret=>exact main env b
 |panic c=>exact absurd rfl (p.1 c)
 |outgrown=>exact absurd rfl p.2
 |exit i=>exact b.elim
 |goto i=>exact b.elim
theorem Ki {P:Program} {fn:Func} {R:cp} {n:Nat} {e:Exit} {a:Act} {w:al} {d:Ending->aE} (g:∀ v,R v w->d (.returned v) w)
  (h:mc [] (dh P fn R) e a w):bodyPostM Fence.wide n P fn d e a w:=by
 have main:∀ env,mT P fn.results.toList env (λvs=>R (rm vs) w) w->LeavesInM Fence.wide n P fn env.toArray d [] .returning w:=by intro env h;obtain ⟨v,aj,j⟩:=vX (P:=P) (fn:=fn) (env:=env) (w:=w) (K:=λv=>R v w) h;exact ⟨_,aj,g v j⟩
 obtain ⟨f,env,rfl,b⟩:=lR h;cases e with
 |normal=>exact main env b
 |ret=>exact main env b
 |panic c=>exact absurd rfl (f.1 c)
 |outgrown=>exact absurd rfl f.2
 |exit i=>exact b.elim
 |goto i=>exact b.elim
def n8 (K:aw->aE):Exit->aw->aE
 | .exit i,env,w=>match Nat.beq i 77 with
  |true=>K env w
  |false=>False
 | _,_,_=>False
theorem Kj {P:Program} {fn:Func} {R:cp} {K:aw->aE} {ds:List Deferred} {e:Exit} {a:Act} {w:al} (h:mc ds (j5 (bC P fn R (n8 K))) e a w):mc ds (dh P fn R) e a w:=by
 obtain ⟨f,env,rfl,b⟩:=lR h;cases e with
 |normal=>exact b.elim
 |ret=>exact gx b f
 |panic c=>exact absurd rfl (f.1 c)
 |outgrown=>exact absurd rfl f.2
 |exit i=>
  simp only [j5] at b;cases d:Nat.beq i 77 with
  |true=>rw [d] at b;exact b.elim
  |false=>rw [d] at b;have b:n8 K (.exit i) env w:=b;simp only [n8,d] at b
 |goto i=>exact b.elim
end Go.Proofs.YtmkljjbioomepaaGreat
namespace Go.Proofs.YtmkljjbioomepaaGreat
open Go.Proofs.Tryz
open Go.bn IntKind
variable (w:al) (R:cp) {s:an} {a b:Nat} {i k:Int} {A B:aV} {X Y Z:a0} {j:aq} {F:Bool}
theorem TQ:bd prog f228 [ae s a b,ab i] R w=(aQ w #[ab 0,a3] 271 λh m=>cond ((a:Int) != 120) (a_ m (af h 0) 0 [ab 0,a3] λj=>hn j (af h 0) λd=>j=j/\R (.tuple #[d.val,ad false]) j) (ho s a b 8 (a:Nat) (b:Nat) 1 λq u p=>Calls prog 251 #[ae q u p,ab i] m λe t=>bN.ex λf=>∃ c,e=.returned (.tuple #[f.val,ab c])/\aQ t #[ab 0,a3] 271 λn o=>a_ o (af n 0) 0 f.cells λl=>hn l (af n 0) λr=>a_ l (af h 0) 0 r.cells λk=>hn k (af h 0) λg=>k=k/\R (.tuple #[g.val,ad ((c:Int) == 0)]) k)):=by kernel_rfl
theorem Tb:bd prog f246 [ae s a b,ab i] R w=(aQ w #[ab 0,a3] 271 λm v=>Calls prog 228 #[ae s a b,ab i] v λe y=>bN.ex λh=>∃ c,e=.returned (.tuple #[h.val,ad c])/\aQ y #[ab 0,a3] 271 λu A=>a_ A (af u 0) 0 h.cells λt=>cond (!c) (a_ t (af m 0) 0 [ab 0,a3] λo=>hn o (af m 0) λj=>o=o/\R (.tuple #[j.val,ad false]) o) (bG t (af u 0) λd=>g6 214 #[ab d] t λf g q=>bB s a 0 1 λz=>dN q z λx=>cond (f != x) (a_ q (af m 0) 0 [ab 0,a3] λp=>hn p (af m 0) λk=>p=p/\R (.tuple #[k.val,ad false]) p) (hn q (af u 0) λr=>a_ q (af m 0) 0 r.cells λn=>hn n (af m 0) λl=>n=n/\R (.tuple #[l.val,ad true]) n))):=by kernel_rfl
noncomputable def dI:Code:=m7 (bh f251) [1,1,1,1,1,1,0,1,0]
def EP (e:an) (a b:Nat) (s1:Int) (c:aV) (s8 d:a0) (j:aq):aq:=ae e a b::ab s1::ag j 0 2 (.pointer (some c)::ag j 2 3 (s8::ag j 5 42 (d::ag j 47 22 [])))
def sW (e:an) (a b:Nat) (s1:Int) (c:aV) (s8:a0) (d:Bool) (f:a0) (j:aq):aq:=ae e a b::ab s1::ag j 0 2 (.pointer (some c)::ag j 2 3 (s8::ag j 5 18 (ad d::ag j 23 23 (f::ag j 46 22 []))))
def ER (e:an) (a b:Nat) (s1:Int) (c:aV) (s8 d:a0) (j:aq):aq:=ae e a b::ab s1::ag j 0 2 (.pointer (some c)::ag j 2 3 (s8::ag j 5 42 (d::ag j 47 22 [])))
def pD (e:an) (a b:Nat) (s1:Int) (f g:aV) (h:Int) (s8 c d:a0) (j:aq):aq:=ae e a b::ab s1::ag j 0 2 (.pointer (some f)::ag j 2 1 (.pointer (some g)::ab h::s8::ag j 3 41 (c::d::ag j 44 22 [])))
def yX (e:an) (a b:Nat) (s1:Int) (c d:aV) (f:Int) (j:aq):aq:=ae e a b::ab s1::ag j 0 2 (.pointer (some c)::ag j 2 1 (.pointer (some d)::ab f::ag j 3 66 []))
def vG (a b:aV) (c:Bool) (j:aq):aq:=ag j 0 4 (.pointer (some a)::ag j 4 1 (.pointer (some b)::ag j 5 64 (ad c::ag j 69 2 [])))
def qr (a b:aV) (j:aq):aq:=ag j 0 4 (.pointer (some a)::ag j 4 1 (.pointer (some b)::ag j 5 67 []))
theorem TR (h:Exit->aq->aE):W prog dI ((ae s a b)::(ab i)::(bx 72 [])) (bC prog f251 R h) w=(aQ w #[ab 0,a3] 271 λf j=>dm 203 #[ab i] j λc g=>cond (!c) (a_ g (af f 0) 0 [ab 0,a3] λe=>hn e (af f 0) λd=>e=e/\R (.tuple #[d.val,ab 18]) e) (W prog (sub dI [1,1]) (EP s a b i (af f 0) undef undef (bx 2 (ab 0::bx 2 (ab i::ad c::ad (!c)::bx 61 [])))) (bC prog f251 R h) g)):=by kernel_rfl
theorem Rr (env:aq) (w:al) (Q:Exit->aq->aE):W prog (sub dI [1,1]) env Q w=W prog (sub dI [1,1,0]) env (a1 (λenv w=>W prog (sub dI [1,1,1]) env Q w) Q) w:=by rw [show sub dI [1,1]=.seq (sub dI [1,1,0]) (sub dI [1,1,1]) by kernel_rfl];generalize sub dI [1,1,0]=a;generalize sub dI [1,1,1]=b;kernel_rfl
theorem RD (env:aq) (w:al) (Q:Exit->aq->aE):W prog (sub dI [1,1,0]) env Q w=W prog (sub dI [1,1,0,0]) env (a1 (λenv w=>W prog (sub dI [1,1,0,1]) env Q w) Q) w:=by rw [show sub dI [1,1,0]=.seq (sub dI [1,1,0,0]) (sub dI [1,1,0,1]) by kernel_rfl];generalize sub dI [1,1,0,0]=a;generalize sub dI [1,1,0,1]=b;kernel_rfl
theorem Sy (c:Exit->aq->aE):W prog (sub dI [1,1,0,0]) (EP s a b i A X Y j) (bC prog f251 R c) w=(cond ((a:Int)<2) (c .normal (sW s a b i A X true Y (ag j 0 9 (ae s a b::du a::ad ((a:Int)<2)::ad true::bx 4 (ad true::ad true::bx 4 (ag j 24 45 []))))) w) (bB s a 0 1 λd=>dN w d λx=>cond (x>=1073741824) (c .normal (sW s a b i A X true Y (ag j 0 9 (ae s a b::du a::ad ((a:Int)<2)::ad false::ae s a b::jp d::ah x::ad (x>=1073741824)::ad (x>=1073741824)::ad true::bx 4 (ag j 24 45 [])))) w) (bB s a 1 1 λf=>dN w f λe=>c .normal (sW s a b i A X (decide ((e:Int)>12)) Y (ag j 0 9 (ae s a b::du a::ad ((a:Int)<2)::ad false::ae s a b::jp d::ah x::ad (x>=1073741824)::ad (x>=1073741824)::ad false::ae s a b::jp f::ah e::ad (e>12)::ag j 24 45 []))) w))):=by kernel_rfl
theorem Ex (d:Exit->aq->aE):W prog (sub dI [1,1,0,1]) (sW s a b i A X F Y j) (bC prog f251 R d) w=(cond F (a_ w A 0 [ab 0,a3] λc=>hn c A λg=>c=c/\R (.tuple #[g.val,ab 14]) c) (d .normal (ER s a b i A X Y (ag j 0 23 (ad F::ag j 23 45 []))) w)):=by kernel_rfl
theorem Sz (o:Exit->aq->aE):W prog (sub dI [1,1,1]) (ER s a b i A X Y j) (bC prog f251 R o) w=(bB s a 0 1 λp=>dN w p λx=>aQ w #[ab 0,a3] 271 λl r=>a_ r (af l 0) 0 [ab (i64.wrap x),a3] λe=>bB s a 1 1 λg=>dN e g λc=>cond ((a:Int)<(i64.wrap ((i64.wrap (2+(i64.wrap (9 * (i64.wrap c)))))+1))) (a_ e A 0 [ab 0,a3] λd=>hn d A λh=>d=d/\R (.tuple #[h.val,ab 14]) d) (ho s a b 2 (i64.wrap ((i64.wrap ((i64.wrap (2+(i64.wrap (9 * (i64.wrap c)))))+1)) - 1)) (b:Nat) 1 λn k m=>RO 253 #[ae n k m,ab 9] e λf q=>o (.exit 77) (pD s a b i A (af l 0) (i64.wrap ((i64.wrap (2+(i64.wrap (9 * (i64.wrap c)))))+1)) X f Y (aN j 0::aN j 1::aN j 2::ag j 5 20 (ae s a b::jp p::ah x::ab (i64.wrap x)::.agg #[ab (i64.wrap x),a3]::ae s a b::jp g::ah c::ab (i64.wrap c)::ab (i64.wrap (9 * (i64.wrap c)))::ab (i64.wrap (2+(i64.wrap (9 * (i64.wrap c)))))::ab (i64.wrap ((i64.wrap (2+(i64.wrap (9 * (i64.wrap c)))))+1))::ae s a b::du a::ab (i64.wrap ((i64.wrap (2+(i64.wrap (9 * (i64.wrap c)))))+1))::ad ((a:Int)<(i64.wrap ((i64.wrap (2+(i64.wrap (9 * (i64.wrap c)))))+1)))::aN j 41::ae s a b::ab (i64.wrap ((i64.wrap (2+(i64.wrap (9 * (i64.wrap c)))))+1))::ab (i64.wrap ((i64.wrap ((i64.wrap (2+(i64.wrap (9 * (i64.wrap c)))))+1)) - 1))::ae n k m::ag j 47 22 []))) q)):=by kernel_rfl
theorem Rs (h:an) (a b:Nat) (s1:Int) (i k:aV) (l:Int) (s8 c d:a0) (y:an) (f g:Nat) (j:aq) (w:al) (e:aq->aE):W prog (sb f251 [1,1,1,1,1,1,0,1,0,0]) (pD h a b s1 i k l s8 c (ae y f g) (ag j 0 66 [])) (a1 e λ_ _ _=>False) w=(e (pD h a b s1 i k l (ae y f g) c (ae y f g) (ag j 0 66 [])) w):=by kernel_rfl
theorem RE (q:an) (a b:Nat) (s1:Int) (r e:aV) (s:Int) (s8 c d:a0) (y:an) (f g:Nat) (j:aq) (w:al) (p:aq->aE):W prog (sb f251 [1,1,1,1,1,1,0,1,0,1,0]) (pD q a b s1 r e s (ae y f g) c (ae y f g) (ag j 0 66 [])) (a1 p λ_ _ _=>False) w=(cu w λw1 o=>e1 o (bS e 1) λh i k=>RP 254 #[ae y f g] w1 λn t=>o t/\aQ t n.cells.toArray 73 λb1 u=>o u/\cZ 37 (ae h i k) (ae (bj b1) 1 1) u λap l m x=>cE x (bS e 1) (ae ap l m) λz=>p (pD q a b s1 r e s (ae y f g) c (ae y f g) (ag j 0 44 (bE e 1::ae h i k::ae y f g::n.val::ae (bj b1) 1 1::ae ap l m::bE e 1::ag j 51 15 []))) z):=by kernel_rfl
theorem RT:(pD s a b i A B k X Y Z j)=(yX s a b i A B k (aN j 0::aN j 1::aN j 2::X::ag j 3 41 (Y::Z::ag j 44 22 []))):=by kernel_rfl
theorem Rt (env:aq) (w:al) (Q:Exit->aq->aE):W prog (sub dI [1,1,1,1,1,1,1]) env Q w=W prog (sub dI [1,1,1,1,1,1,1,0]) env (a1 (λenv w=>W prog (sub dI [1,1,1,1,1,1,1,1]) env Q w) Q) w:=by rw [show sub dI [1,1,1,1,1,1,1]=.seq (sub dI [1,1,1,1,1,1,1,0]) (sub dI [1,1,1,1,1,1,1,1]) by kernel_rfl];generalize sub dI [1,1,1,1,1,1,1,0]=a;generalize sub dI [1,1,1,1,1,1,1,1]=b;kernel_rfl
theorem RU (env:aq) (w:al) (Q:Exit->aq->aE):W prog (sub dI [1,1,1,1,1,1,1,0]) env Q w=W prog (sub dI [1,1,1,1,1,1,1,0,0]) env (a1 (λenv w=>W prog (sub dI [1,1,1,1,1,1,1,0,1]) env Q w) Q) w:=by rw [show sub dI [1,1,1,1,1,1,1,0]=.seq (sub dI [1,1,1,1,1,1,1,0,0]) (sub dI [1,1,1,1,1,1,1,0,1]) by kernel_rfl];generalize sub dI [1,1,1,1,1,1,1,0,0]=a;generalize sub dI [1,1,1,1,1,1,1,0,1]=b;kernel_rfl
theorem SA (l:Exit->aq->aE):W prog (sub dI [1,1,1,1,1,1,1,0,0]) (yX s a b i A B k j) (bC prog f251 R l) w=(cu w λv d=>rj d B λr=>cm 167 #[r.val,ab i] v λf m=>d m/\cond (f != 0) (l .normal (vG A B true (ae s a b::ab i::aN j 0::aN j 1::aN j 2::ab k::ag j 3 51 (r.val::ab i::ab f::ad ((f:Int) != 0)::ad true::bx 7 [aN j 67,aN j 68]))) m) (rj d B λu=>ho s a b 0 k (b:Nat) 1 λq n p=>eF 210 #[u.val] m λg h c t=>d t/\dm 255 #[ae g h c,ae q n p] t λe o=>d o/\l .normal (vG A B (!e) (ae s a b::ab i::aN j 0::aN j 1::aN j 2::ab k::ag j 3 51 [r.val,ab i,ab f,ad ((f:Int) != 0),ad false,u.val,ae g h c,ae s a b,ab k,ae q n p,ad e,ad (!e),aN j 67,aN j 68])) o)):=by kernel_rfl
theorem SB (b:Exit->aq->aE):W prog (sub dI [1,1,1,1,1,1,1,0,1]) (vG A B F j) (bC prog f251 R b) w=(cond F (a_ w A 0 [ab 0,a3] λa=>hn a A λd=>a=a/\R (.tuple #[d.val,ab 14]) a) (b .normal (qr A B (ag j 0 69 [ad F,aN j 69,aN j 70])) w)):=by kernel_rfl
theorem SC (b:Exit->aq->aE):W prog (sub dI [1,1,1,1,1,1,1,1]) (qr A B j) (bC prog f251 R b) w=(hn w B λr=>a_ w A 0 r.cells λa=>hn a A λc=>a=a/\R (.tuple #[c.val,ab 0]) a):=by kernel_rfl
theorem T8 (j:bN) (n:bN):bd prog f252 [j.val,n.val] R w=(aQ w j.cells.toArray 271 λm p=>aQ p n.cells.toArray 271 λl e=>bG e (af m 0) λa=>bG e (af l 0) λb=>cond (a == b) (b0 e (af m 1) λc d f=>b0 e (af l 1) λg h i=>dm 256 #[ae c d f,ae g h i] e λk o=>R (ad k) o) (R (ad false) e)):=by kernel_rfl
theorem T9:bd prog f254 [ae s a b] R w=(aQ w #[ab 0,ah 0,ah 0,ah 0,ah 0,ah 0,ah 0,ah 0,ah 0] 73 λi q=>cu q λt f=>bB s a 0 1 λu=>js f u λx=>bB s a 1 1 λc=>js f c λp=>aQ t #[ab 0,ah 0,ah 0,ah 0,ah 0,ah 0,ah 0,ah 0,ah 0] 73 λg k=>f k/\a_ k (af g 0) 0 [ab (i64.wrap (if (256:Int)<x then (256:Int) else x)),ah p,ah 0,ah 0,ah 0,ah 0,ah 0,ah 0,ah 0] λl=>∀ j,j=l.drew->ho s a b 2 (a:Nat) (b:Nat) 1 λn v m=>∃ r,∃ h,(Builtin.copy_ #[94,94] 3 #[ae (some (af g 2)) 7 7,ae n v m]).run prog j=.ok (ab r) h/\hG h (af g 0) λo=>a_ h (af i 0) 0 o.cells λe=>hG e (af i 0) λd=>e=e/\R d.val e):=by kernel_rfl
end Go.Proofs.YtmkljjbioomepaaGreat
