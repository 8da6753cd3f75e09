import Derived.Test.YtmkljjbioomepaaGreata23
import Derived.OrdersIn
import Derived.Test.YtmkljjbioomepaaGreata05
import Derived.Test.YtmkljjbioomepaaGreatProg
import Derived.Test.YtmkljjbioomepaaGreata03
set_option linter.all false
namespace Go.Proofs.YtmkljjbioomepaaGreat
open Go.b8
def AK (i:Int):Bool:=decide (1<=i/\i<=59) && (Int.tmod i 2 == 1)
def kp (i c:Int):Int:=if AK i=false then 2 else if ¬ (0<=c/\c<6) then 1 else 0
def k4 (i c:Int):Int:=if kp i c=0 then i * 256+(c+1) else 0
def sH (t:Int):Int:=if kp (t / 256) (t % 256 - 1)=0 then t / 256 else 0
def pp (t:Int):Int:=if kp (t / 256) (t % 256 - 1)=0 then t % 256 - 1 else 0
def wV (t:Int):Bool:=decide (kp (t / 256) (t % 256 - 1)=0)
theorem LB {i c:Int} (h:kp i c=0):(1<=i/\i<=59)/\0<=c/\c<6:=by
 unfold kp at h;split at h
 ·cases h
 ·rename_i af;split at h
  ·cases h
  ·rename_i al;have al:0<=c/\c<6:=by simpa using al
   have af:AK i=true:=by simpa using af
   unfold AK at af;have aL:=of_decide_eq_true (Bool.and_eq_true_iff.1 af).1;exact ⟨aL,al⟩
theorem akc {i c:Int} (h:59<i):kp i c=2:=by unfold kp;rw [if_pos];unfold AK;rw [decide_eq_false (by omega)];rfl
theorem anI {i c:Int} (h:kp i c=0):pI .u64 (n8 .u64 (IntKind.u64.wrap i) 8) (IntKind.u64.wrap (IntKind.i64.wrap (c+1)))=i * 256+(c+1):=by
 obtain ⟨⟨af,al⟩,aL,ca⟩:=LB h;rw [cn (x:=c+1) (by omega) (by omega),qJ (x:=c+1) (by omega) (by omega),qJ (x:=i) (by omega) (by omega)];have bY:n8 .u64 i 8=i * 256:=by show IntKind.u64.wrap (i * 2 ^ 8)=_;have:(2:Int) ^ 8=256:=rfl;rw [this];exact qJ (by omega) (by omega)
 rw [bY];obtain ⟨n,rfl⟩:=CU (show 0<=i by omega);obtain ⟨m,hm⟩:=CU (show 0<=c+1 by omega);rw [hm];have bg:(n:Int) * 256=((n * 256:Nat):Int):=(Int.natCast_mul n 256).symm;rw [bg,L6 _ _ (by omega) (by omega)];have dF:=MQ n m 8 (by omega);have kB:(2:Nat) ^ 8=256:=rfl;rw [kB] at dF;rw [dF];exact Int.natCast_add _ _
theorem Wv (w:av) (x a b:Int):bK 141 [.int .i64 x,.int .i64 a,.int .i64 b] w λv w'=>v=.bool (decide (a<=x/\x<=b))/\w'=w:=by
 refine bO Tryz.func141 ?_;rw [aeO];refine bL (λh=>⟨?_,rfl⟩) (λh=>⟨?_,rfl⟩)
 ·have:a<=x:=h;simp [this]
 ·have:¬ a<=x:=h;simp [this]
theorem anJ (w:av) (i:Int):bK 178 [.int .i64 i] w λv w'=>v=.bool (AK i)/\w'=w:=by refine bO Tryz.func178 ?_;rw [ag3];refine aR (Wv w i 1 59) ?_;rintro v w1 ⟨rfl,rfl⟩;unfold AK;refine ⟨_,rfl,kk (λh=>⟨by rw [h];simp,rfl⟩) (λh=>⟨by rw [h];simp,rfl⟩)⟩
theorem ai7 (w:av) (c:Int):bK 158 [.int .i64 c] w λv w'=>v=.bool (decide (0<=c/\c<6))/\w'=w:=by refine bO Tryz.func158 ?_;rw [afl];refine aR (Wv w c 0 5) ?_;rintro v w1 ⟨rfl,rfl⟩;refine ⟨_,rfl,?_,rfl⟩;congr 1;rw [decide_eq_decide];omega
abbrev amq (w:av) (i c:Int):dW:=λx w'=>x=.tuple #[.int .u64 (k4 i c),.int .i64 (kp i c)]/\w'=w
theorem akd {i c:Int} (h:AK i=false):k4 i c=0/\kp i c=2:=by have e:kp i c=2:=if_pos h;refine ⟨?_,e⟩;unfold k4;rw [if_neg (by rw [e];omega)]
theorem ake {i c:Int} (h:AK i=true) (ab:¬ (0<=c/\c<6)):k4 i c=0/\kp i c=1:=by
 have e:kp i c=1:=by unfold kp;rw [if_neg (by rw [h];simp),if_pos ab]
 refine ⟨?_,e⟩;unfold k4;rw [if_neg (by rw [e];omega)]
theorem ZB {i c:Int} (h:AK i=true) (ab:0<=c/\c<6):kp i c=0:=by unfold kp;rw [if_neg (by rw [h];simp),if_neg (λe=>e ab)]
theorem Rn {i c:Int} (h:kp i c=0):k4 i c=i * 256+(c+1):=if_pos h
theorem MV (w:av) (i c:Int):bK 128 [.int .i64 i,.int .i64 c] w (amq w i c):=by
 refine bO Tryz.func128 ?_;rw [ahv];refine aR (anJ w i) ?_;rintro v w1 ⟨rfl,rfl⟩;refine ⟨_,rfl,ht (λaJ=>?_) (λaZ=>?_)⟩
 ·obtain ⟨bY,bg⟩:=akd (c:=c) aJ;exact ⟨by rw [bY,bg],rfl⟩
 refine aR (ai7 w1 c) ?_;rintro v aS ⟨rfl,rfl⟩;refine ⟨_,rfl,ht (λaJ=>?_) (λab=>?_)⟩
 ·obtain ⟨bY,bg⟩:=ake aZ (of_decide_eq_false aJ);exact ⟨by rw [bY,bg],rfl⟩
 ·have e:=ZB aZ (of_decide_eq_true ab);exact ⟨by rw [anI e,Rn e,e],rfl⟩
abbrev ai8 (w:av) (t:Int):dW:=λx w'=>x=.tuple #[.int .i64 (sH t),.int .i64 (pp t),.bool (wV t)]/\w'=w
theorem Yx {t:Int} (h:kp (t / 256) (t % 256 - 1)≠0):sH t=0/\pp t=0/\wV t=false:=⟨if_neg h,if_neg h,decide_eq_false h⟩
theorem Ww {t:Int} (h:kp (t / 256) (t % 256 - 1)=0):sH t=t / 256/\pp t=t % 256 - 1/\wV t=true:=⟨if_pos h,if_pos h,decide_eq_true h⟩
theorem an4 {t:Int} (aZ:dp t):fr .u64 t 8=t / 256:=by show Int.fdiv t 256=_;rw [Mb _ (by decide)]
theorem amr (w:av):bK 198 [.int .i64 8] w λv w'=>v=.int .u64 255/\w'=w:=by refine bO Tryz.func198 ?_;rw [ag1];exact ⟨by decide,by rfl,rfl⟩
theorem agu (w:av) {t:Int} (aZ:dp t):bK 177 [.int .u64 t] w (ai8 w t):=by
 have aN:=aZ.1;have af:=aZ.2;refine bO Tryz.func177 ?_;rw [aBL];rw [an4 aZ];refine bL (λh=>?_) (λh=>?_)
 ·refine aR (amr w) ?_;rintro v w1 ⟨rfl,rfl⟩;refine ⟨_,rfl,?_⟩;have bY:jC .u64 t 255=t % 256:=WH aN af 8 (by omega);dsimp only;rw [bY,cn (x:=t / 256) (by omega) (by omega),cn (x:=t % 256) (by omega) (by omega),cn (x:=t % 256 - 1) (by omega) (by omega)];refine aR (MV w1 (t / 256) (t % 256 - 1)) ?_;rintro v aS ⟨rfl,rfl⟩;refine ⟨_,_,rfl,fX (λhe=>?_) (λhe=>?_)⟩
  ·obtain ⟨a,b,c⟩:=Yx he;exact ⟨by rw [a,b,c],rfl⟩
  ·obtain ⟨a,b,c⟩:=Ww he;rw [Rn he];refine fX (λcj=>absurd (by omega) cj) (λ_=>⟨by rw [a,b,c],rfl⟩)
 ·have aqy:kp (t / 256) (t % 256 - 1)=2:=akc (by have h:¬ t / 256<=59:=h;omega);obtain ⟨a,b,c⟩:=Yx (t:=t) (by rw [aqy];omega);refine aR (MV w 0 0) ?_;rintro v aS ⟨rfl,rfl⟩;have iN:kp 0 0=2:=by decide
  refine ⟨_,_,rfl,fX (λhe=>⟨by rw [a,b,c],rfl⟩) (λhe=>absurd (iN.symm.trans he) (by decide))⟩
structure c8 where
 bw:Int
 inc:Int
 lines:Int
 v:pH
 dead:Int
 gP:Int
 prev:Int
def c8.tail (j:c8):Int:=
 if j.lines<98\/256<j.lines then 18 else if j.dead=j.bw/\j.gP≠j.inc then 1
 else if j.dead≠j.bw/\(j.gP<2\/60<j.gP\/Int.tmod j.gP 2≠0) then 2
 else if j.prev≠0/\(wV j.prev=false\/pp j.prev=j.bw/\j.inc<=sH j.prev\/pp j.prev=j.dead/\j.gP<=sH j.prev) then 1 else 0
def c8.valid (j:c8):Int:=
 if kp j.inc j.bw≠0 then kp j.inc j.bw else if j.dead<0\/6<=j.dead then 1 else if j.v.valid 5≠0 then j.v.valid 5 else j.tail
structure Fu (w:av) (r:fT) (j:c8):Prop where
 bw:r.Client=j.bw
 inc:r.n5=j.inc
 lines:r.mB=j.lines
 view:∃ M,ky M w r.View j.v
 dead:r.iq=j.dead
 gP:r.j'=j.gP
 prev:r.mV=j.prev
 u64:dp r.mV
theorem Fu.new {w w':av} {r:fT} {j:c8} (h:Fu w r j) (aj:ai w w'):Fu w' r j:=⟨h.bw,h.inc,h.lines,h.view.imp λ_ h=>h.new aj,h.dead,h.gP,h.prev,h.u64⟩
end Go.Proofs.YtmkljjbioomepaaGreat
set_option linter.unusedSectionVars false
namespace Go.Proofs.YtmkljjbioomepaaGreat
open Go.b8 Go.RowKit
def plus (a:Act) (ds:List Deferred):Act:={ a with defers:=a.defers++ds }
def vA (ds:List Deferred) (E0:aH):Act:={ tmps:=E0.toArray,defers:=ds }
theorem akf (ds:List Deferred) (E0:aH):plus (act E0) ds=vA ds E0:=rfl
theorem tF (a:Act) (ds:List Deferred) (d:Option Tmp) (v:bx):(plus a ds).put d v=plus (a.put d v) ds:=by cases d<;>rfl
theorem WJ (a:Act) (ds:List Deferred):(plus a ds).eval=a.eval:=by funext x;cases x<;>rfl
def ni (F:Fence):Prop:=F=Fence.wide\/∃ r,F=Fence.wide.inRound r
theorem Xg:ni Fence.wide:=.inl rfl
theorem agD (r:Nat):ni (Fence.wide.inRound r):=.inr ⟨r,rfl⟩
section
variable {P:Program} {F:Fence} {n:Nat} {ds:List Deferred} {Q pF:Exit->Act->aV}
theorem ni.fn (h:ni F) (f:FuncId):F.fn f:=by rcases h with rfl | ⟨r,rfl⟩<;>trivial
theorem ni.depth (h:ni F):F.depth=none:=by rcases h with rfl | ⟨r,rfl⟩<;>rfl
theorem ni.fenced (h:ni F):Machine.fenced P F=Machine.fenced P Fence.wide:=by rcases h with rfl | ⟨r,rfl⟩<;>rfl
theorem ni.calls (h:ni F) {f:FuncId} {args:Array bx} {w:av} {R:Ending->aV} (k:Calls P f args w R):CallsIn F n P f args w R:=by
 rcases h with rfl | ⟨r,rfl⟩
 ·exact callsIn_wide.2 k
 ·exact CallsIn.inRound r (callsIn_wide.2 k)
theorem ni.rows (h:ni F) {row:String} {args:Array bx} {w:av} {R:dW} (k:Rows P row args w R):RowsIn F n P row args w R:=by intro c cs _;obtain ⟨v,w',r,s⟩:=k c cs;exact ⟨v,w',r,by rw [h.fenced];exact stepsIn_wide.2 s⟩
def Hl (o:Oper):Bool:=match o.op with
 | .defer _=>false
 | _=>true
theorem ni.afx (h:ni F) {o:Oper} (aq:Hl o=true) (agJ:Operand->bx):o.semAt F.round agJ=execOp agJ o:=by
 rcases h with rfl | ⟨r,rfl⟩
 ·exact Oper.semAt_none _ _
 ·exact Oper.semAt_some _ _ _ λc ab=>by simp [Hl,ab] at aq
theorem ni.one (h:ni F):F.depth.isSome=true->1<=n:=λab=>by rw [h.depth] at ab;cases ab
theorem ams (cM:ni F) {o:Oper} {a:Act} {next next':Act->aV} (aj:∀ a w,next a w->next' (plus a ds) w) (ar:∀ c a w,¬ Q (.panic c) a w) (au:¬ LetsOut Q) :
  ∀ {x:Result Go.Next},o.upon P a next Q x->o.uponIn F n P (plus a ds) next' pF x
 | .ok (.value v) w',h=>by rw [Oper.uponIn_value,tF];exact aj _ _ h
 | .ok .skip w',h=>by rw [Oper.uponIn_skip,tF];exact aj _ _ h
 | .ok (.defer d) w',h=>by rw [Oper.uponIn_defer];have e:({ plus a ds with defers:=d::(plus a ds).defers }:Act)=plus { a with defers:=d::a.defers } ds:=rfl;rw [e,tF];exact aj _ _ h
 | .ok (.enter f args) w',h=>by
  rw [Oper.uponIn_enter];refine ⟨cM.one,cM.calls (Calls.mono h λe QC aA=>?_)⟩;cases e with
  |returned v=>show next' ((plus a ds).put o.dst v) QC;rw [tF];exact aj _ _ aA
  |panicked c=>exact absurd aA (ar _ _ _)
  |outgrown=>exact absurd aA au
 | .ok (.row row args) w',h=>by rw [Oper.uponIn_row];refine ⟨cM.one,cM.rows (Rows.mono h λv QC aA=>?_)⟩;rw [tF];exact aj _ _ aA
 | .ok (.round ..) w',h=>h.elim
 | .halt (.panic v) w',h=>absurd h (ar _ _ _)
 | .halt .blocked _,h=>h.elim
 | .halt .waiting _,h=>h.elim
 | .halt (.exit _) _,h=>h.elim
 | .halt (.stuck _) _,h=>h.elim
 | .halt (.unsupported _) _,h=>h.elim
theorem ZC (cM:ni F) {md:Region.Mode} {ops:Array Oper} (aC:∀ o ∈ ops.toList,Hl o=true) (aM:∀ a w,Q .normal a w->pF .normal (plus a ds) w) (ar:∀ c a w,¬ Q (.panic c) a w) (au:¬ LetsOut Q) :
  ∀ (fuel:Nat) (eY:Array Bool) (a:Act) (w:av),wpAny P md ops Q fuel eY a w->wpAnyIn F n P md ops pF fuel eY (plus a ds) w
 | 0,eY,a,w,h=>⟨h.1,aM _ _ h.2⟩
 |fuel+1,eY,a,w,h=>by
  refine ⟨λaA=>aM _ _ (h.1 aA),λi aD=>?_⟩;have af:=h.2 i aD;have c5:=ZC (md:=md) cM aC aM ar au fuel (eY.setIfInBounds i true);unfold wpOp at af;unfold wpOpIn;cases aq:ops[i]? with
  |none=>simp only [aq] at af ⊢;exact c5 _ _ af
  |some o=>
   simp only [aq] at af ⊢;have gj:o ∈ ops.toList:=by obtain ⟨aK,e⟩:=L_.1 aq;exact e▸(Array.getElem_mem_toList aK)
   have aZ:(plus a ds).tmps=a.tmps:=rfl;rw [aZ];split at af
   ·rename_i hw;rw [if_pos hw];refine ⟨λf _=>cM.fn f,?_⟩;rw [cM.afx (aC o gj),WJ];rcases af with af | ⟨_,af⟩
    ·exact ams cM c5 ar au af
    ·exact absurd af au
   ·rename_i hw;rw [if_neg hw];refine ⟨λf _=>cM.fn f,?_⟩;rw [tF];exact c5 _ _ af
theorem ai9 (cM:ni F) {o:Oper} {a:Act} {next next':Act->aV} (aj:∀ a w,next a w->next' (plus a ds) w) (ar:∀ c a w,¬ Q (.panic c) a w) (au:¬ LetsOut Q) :
  ∀ {x:Result Go.Next},o.uponIn Fence.wide 0 P a next Q x->o.uponIn F n P (plus a ds) next' pF x
 | .ok (.value v) w',h=>by rw [Oper.uponIn_value,tF];exact aj _ _ h
 | .ok .skip w',h=>by rw [Oper.uponIn_skip,tF];exact aj _ _ h
 | .ok (.defer d) w',h=>by rw [Oper.uponIn_defer];have e:({ plus a ds with defers:=d::(plus a ds).defers }:Act)=plus { a with defers:=d::a.defers } ds:=rfl;rw [e,tF];exact aj _ _ h
 | .ok (.enter f args) w',h=>by
  rw [Oper.uponIn_enter];refine ⟨cM.one,cM.calls (Calls.mono (callsIn_wide.1 h.2) λe QC aA=>?_)⟩;cases e with
  |returned v=>show next' ((plus a ds).put o.dst v) QC;rw [tF];exact aj _ _ aA
  |panicked c=>exact absurd aA (ar _ _ _)
  |outgrown=>exact absurd aA au
 | .ok (.row row args) w',h=>by rw [Oper.uponIn_row];refine ⟨cM.one,λc cs _=>?_⟩;obtain ⟨v,aS,aA,aX⟩:=h.2 c cs (room_wide _);refine ⟨v,aS,?_,by rw [cM.fenced];exact aX⟩;show next' ((plus a ds).put o.dst v) aS;rw [tF];exact aj _ _ aA
 | .ok (.round l f tmps assign body) w',h=>by
  rw [Oper.uponIn_round];refine ⟨cM.one,cM.fn _,λc cs _=>?_⟩;obtain ⟨e,aS,aA,aX⟩:=h.2.2 c cs (room_wide _);refine ⟨e,aS,?_,by rw [cM.fenced];exact aX⟩;cases e with
  |returned v=>show next' ((plus a ds).put o.dst v) aS;rw [tF];exact aj _ _ aA
  |panicked c=>exact absurd aA (ar _ _ _)
  |outgrown=>exact absurd aA au
 | .halt (.panic v) w',h=>absurd h (ar _ _ _)
 | .halt .blocked _,h=>h.elim
 | .halt .waiting _,h=>h.elim
 | .halt (.exit _) _,h=>h.elim
 | .halt (.stuck _) _,h=>h.elim
 | .halt (.unsupported _) _,h=>h.elim
theorem Zd (cM:ni F) {ops:Array Oper} (aM:∀ a w,Q .normal a w->pF .normal (plus a ds) w) (ar:∀ c a w,¬ Q (.panic c) a w) (au:¬ LetsOut Q) :
  ∀ (l:List Oper) (a:Act) (w:av),(∀ o ∈ l,Hl o=true)->wpListIn Fence.wide 0 P ops Q l a w->wpListIn F n P ops pF l (plus a ds) w
 | [],a,w,_,h=>aM _ _ h
 |o::l,a,w,aC,h=>by
  have c5:=λa w=>Zd cM (ops:=ops) aM ar au l a w λo aq=>aC o (jz _ aq)
  unfold wpListIn at h ⊢;split at h
  ·rename_i hw;show (if Region.wanted o (yielded ops a.tmps) then _ else _);rw [if_pos hw];refine ⟨λf _=>cM.fn f,?_⟩;have al:=h.2;rw [show Fence.wide.round=none from rfl,Oper.semAt_none] at al;rw [cM.afx (aC o iA),WJ];exact ai9 cM c5 ar au al
  ·rename_i hw;show (if Region.wanted o (yielded ops a.tmps) then _ else _);rw [if_neg hw];refine ⟨λf _=>cM.fn f,?_⟩;rw [tF];exact c5 _ _ h.2
end
def xJ (ds:List Deferred) (Q:Exit->aH->aV):Exit->Act->aV
 | .panic _,_,_=>False
 | .outgrown,_,_=>False
 |e,a,w=>a.defers=ds/\Q e a.tmps.toList w
theorem lS {ds:List Deferred} {Q:Exit->aH->aV} {e:Exit} {env:aH} {w:av} (h:Q e env w) (he:(∀ c,e≠.panic c)/\e≠.outgrown):xJ ds Q e (vA ds env) w:=by
 cases e with
 |panic c=>exact absurd rfl (he.1 c)
 |outgrown=>exact absurd rfl he.2
 | _=>exact ⟨rfl,by simpa [vA] using h⟩
theorem wu {ds:List Deferred} {Q:Exit->aH->aV} {e:Exit} {a:Act} {w:av} (h:xJ ds Q e a w):((∀ c,e≠.panic c)/\e≠.outgrown)/\∃ env,a=vA ds env/\Q e env w:=by
 have mk:∀ (a:Act),a.defers=ds->a=vA ds a.tmps.toList:=λa bc=>by
  cases a with
  |mk t d=>simp only at bc;subst bc;simp [vA]
 cases e with
 |panic c=>exact h.elim
 |outgrown=>exact h.elim
 |normal=>exact ⟨⟨λ_=>by simp,by simp⟩,_,mk a h.1,h.2⟩
 |exit i=>exact ⟨⟨λ_=>by simp,by simp⟩,_,mk a h.1,h.2⟩
 |goto i=>exact ⟨⟨λ_=>by simp,by simp⟩,_,mk a h.1,h.2⟩
 |ret=>exact ⟨⟨λ_=>by simp,by simp⟩,_,mk a h.1,h.2⟩
def sw:Code->Bool
 | .region _ ops _=>ops.toList.all Hl
 | .seq a b=>sw a && sw b
 | .cond _ a b=>sw a && sw b
 | .block _ c=>sw c
 | .skip=>true
 | .exit _=>true
 | .ret=>true
 | _=>false
theorem an5 (ds:List Deferred) (E0:aH):(vA ds E0).eval=dj E0:=by rw [<-akf,WJ,HS]
theorem aiX {P:Program} {ops:List Oper} {env:aH} {K:aH->aV} {Q:Exit->Act->aV} {w:av} (aX:Region.noSelect ops.toArray=true)
  (J:∀ env w,K env w->Q .normal (act env) w) (gi:∀ c a w,¬ Q (.panic c) a w) (h:II P ops env K w):wpAny P .any ops.toArray Q ops.toArray.size (Array.replicate ops.toArray.size false) (act env) { w with drawn:=w.drawn+1 }:=by
 unfold II at h;split at h
 ·obtain ⟨S,gl,h⟩:=h _ rfl;refine Lk (S:=S) (nd:=M5 ops (RC ops)) _ _ _ _ ?_;have:=yb (YK ops _) aX J gi _ _ _ _ _ (P' _ _) (λ_=>gl) h;simpa using this
 ·refine Lk (S:=λ_=>True) (nd:=EL ops) _ _ _ _ ?_;have:=yb (RD ops) aX J gi _ _ _ _ _ (P' _ _) (λ_=>trivial) (h _ rfl);simpa using this
def I0 (K:aH->aV):Exit->Act->aV
 | .normal,a,w=>∃ env,a=act env/\K env w
 | _,_,_=>False
theorem x3 {P:Program} (hm:P.follows .mixedOrders=true) {F:Fence} (cM:ni F) {n:Nat} {ds:List Deferred}:∀ (c:Code) (env:aH) (Q:Exit->aH->aV) (w:av),
  sw c=true->W P c env Q w->c.wpIn F n P (xJ ds Q) (vA ds env) w
 | .skip,env,Q,w,aC,h=>by rw [W.eq_def] at h;exact wpIn_skip (lS h ⟨λ_=>by simp,by simp⟩)
 | .region id ops draw,env,Q,w,aC,h=>by
  have aM:∀ a w,I0 (Q .normal) .normal a w->xJ ds Q .normal (plus a ds) w:=by rintro _ w ⟨m1,rfl,f'⟩;exact lS f' ⟨λ_=>by simp,by simp⟩
  have ar:∀ c a w,¬ I0 (Q .normal) (.panic c) a w:=λc a w h=>h
  have au:¬ LetsOut (I0 (Q .normal)):=λ⟨_,_,h⟩=>h
  have GG:∀ o ∈ ops.toList,Hl o=true:=lM.1 aC;rw [W.eq_def] at h;cases draw with
  |true=>
   simp only at h;split at h
   ·rename_i aX;have al:=aiX (Q:=I0 (Q .normal)) (by simpa using aX) (λenv w J=>⟨env,rfl,J⟩) ar h;simp only [Array.toArray_toList] at al;exact wpIn_region_any hm (ZC cM GG aM ar au _ _ _ _ al)
   ·exact h.elim
  |false=>simp only at h;exact wpIn_region_list (Zd cM aM ar au _ _ _ GG (by simpa using Au (all:=ops.toList) (Q:=I0 (Q .normal)) ops.toList env w (Q .normal) (λenv w J=>⟨env,rfl,J⟩) h))
 | .seq a b,env,Q,w,aC,h=>by
  rw [W.eq_def] at h;have aC:(sw a && sw b)=true:=aC;simp only [iz] at aC;have af:=x3 hm cM (n:=n) (ds:=ds) a env _ w aC.1 h;refine wpIn_seq (wpIn_mono af λx cB w' lX=>?_);obtain ⟨ao,m1,bc,aM⟩:=wu lX;subst bc;clear lX;cases x with
  |normal=>exact x3 hm cM b m1 Q w' aC.2 aM
  |panic c=>exact absurd rfl (ao.1 c)
  |outgrown=>exact absurd rfl ao.2
  |exit i=>exact lS aM ao
  |goto i=>exact lS aM ao
  |ret=>exact lS aM ao
 | .cond o a b,env,Q,w,aC,h=>by
  rw [W.eq_def] at h;have aC:(sw a && sw b)=true:=aC;simp only [iz] at aC;simp only at h;split at h
  ·rename_i t aZ;refine wpIn_cond (t:=t) (by rw [an5];exact aZ) ?_;cases t with
   |true=>exact x3 hm cM a env Q w aC.1 h
   |false=>exact x3 hm cM b env Q w aC.2 h
  ·exact h.elim
 | .block id c,env,Q,w,aC,h=>by
  rw [W.eq_def] at h;have af:=x3 hm cM (n:=n) (ds:=ds) c env _ w aC h;refine wpIn_block (wpIn_mono af λx cB w' lX=>?_);obtain ⟨ao,m1,bc,aM⟩:=wu lX;subst bc;clear lX;cases x with
  |exit i=>
   simp only [a8] at aM;simp only [Exit.inBlock];cases ak:Nat.beq i id with
   |true=>rw [ak] at aM;rw [if_pos (sX ak)];exact lS aM ⟨λ_=>by simp,by simp⟩
   |false=>rw [ak] at aM;rw [if_neg (WQ ak)];exact lS aM ao
  |panic c=>exact absurd rfl (ao.1 c)
  |outgrown=>exact absurd rfl ao.2
  |normal=>exact lS aM ao
  |goto i=>exact lS aM ao
  |ret=>exact lS aM ao
 | .loop c,env,Q,w,aC,h=>by cases aC
 | .exit i,env,Q,w,aC,h=>by rw [W.eq_def] at h;exact wpIn_exit (lS h ⟨λ_=>by simp,by simp⟩)
 | .ret,env,Q,w,aC,h=>by rw [W.eq_def] at h;exact wpIn_ret (lS h ⟨λ_=>by simp,by simp⟩)
 | .rangeFunc ..,_,_,_,aC,_=>by cases aC
 | .scope _,_,_,_,aC,_=>by cases aC
 | .label _,_,_,_,aC,_=>by cases aC
 | .goto _,_,_,_,aC,_=>by cases aC
 | .refuse _,_,_,_,aC,_=>by cases aC
def rY (Q:Exit->aH->aV):Exit->aH->aV
 | .exit i,env,w=>match Nat.beq i 77 with
  |true=>False
  |false=>Q (.exit i) env w
 |e,env,w=>Q e env w
def rr:Code->Bool
 | .region ..=>true
 | .seq a b=>rr a && rr b
 | .cond _ a b=>rr a && rr b
 | .block id c=>!Nat.beq 77 id && rr c
 | .skip=>true
 | .exit i=>!Nat.beq i 77
 | .ret=>true
 | _=>false
theorem Rl {N:aH->aV} {Q:Exit->aH->aV}:rY (bk N Q)=bk N (rY Q):=by funext e env w;cases e<;>rfl
theorem W1 {id:Nat} (h:Nat.beq 77 id=false) {Q:Exit->aH->aV}:rY (a8 id Q)=a8 id (rY Q):=by
 funext e env w;cases e with
 |exit i=>
  simp only [rY,a8];cases aD:Nat.beq i id with
  |true=>
   have bY:=sX aD;subst bY;have:Nat.beq i 77=false:=by
    cases i':Nat.beq i 77 with
    |false=>rfl
    |true=>have:=sX i';subst this;rw [Nat.beq_refl] at h;cases h
   rw [this]
  |false=>rfl
 | _=>rfl
theorem C4 {P:Program}:∀ (c:Code) (env:aH) (Q:Exit->aH->aV) (w:av),rr c=true->W P c env (rY Q) w=W P c env Q w
 | .skip,env,Q,w,_=>by rw [W.eq_def,W.eq_def];rfl
 | .region id ops draw,env,Q,w,_=>by rw [W.eq_def,W.eq_def];rfl
 | .seq a b,env,Q,w,h=>by have h:(rr a && rr b)=true:=h;simp only [iz] at h;rw [W.eq_def P (.seq a b),W.eq_def P (.seq a b)];show W P a env (bk (λenv w=>W P b env (rY Q) w) (rY Q)) w=W P a env (bk (λenv w=>W P b env Q w) Q) w;rw [<-Rl,C4 a env _ w h.1];congr 2;funext env w;exact C4 b env Q w h.2
 | .cond c x y,env,Q,w,h=>by have h:(rr x && rr y)=true:=h;simp only [iz] at h;rw [W.eq_def P (.cond c x y),W.eq_def P (.cond c x y)];simp only [C4 x env Q w h.1,C4 y env Q w h.2]
 | .block id c,env,Q,w,h=>by have h:(!Nat.beq 77 id && rr c)=true:=h;simp only [iz,FC] at h;rw [W.eq_def P (.block id c),W.eq_def P (.block id c)];show W P c env (a8 id (rY Q)) w=W P c env (a8 id Q) w;rw [<-W1 h.1,C4 c env _ w h.2]
 | .exit i,env,Q,w,h=>by have h:(!Nat.beq i 77)=true:=h;rw [W.eq_def,W.eq_def];simp only [FC] at h;simp only [rY,h]
 | .ret,env,Q,w,_=>by rw [W.eq_def,W.eq_def];rfl
 | .loop ..,_,_,_,h=>by cases h
 | .rangeFunc ..,_,_,_,h=>by cases h
 | .scope ..,_,_,_,h=>by cases h
 | .label ..,_,_,_,h=>by cases h
 | .goto ..,_,_,_,h=>by cases h
 | .refuse ..,_,_,_,h=>by cases h
def ze:Code->eI->Code
 | _,[]=>.exit 77
 | .seq a b,n::p=>match n with | 0=>.seq (ze a p) b | _=>.seq a (ze b p)
 | .block id c,_::p=>.block id (ze c p)
 |c,_=>c
def C5:Code->eI->Bool
 | _,[]=>true
 | .seq a b,n::p=>match n with | 0=>C5 a p && (sw b && rr b) | _=>(sw a && rr a) && C5 b p
 | .block id c,_::p=>!Nat.beq 77 id && C5 c p
 | _,_=>false
def FH (F:Fence) (n:Nat) (P:Program):Code->eI->(Exit->Act->aV)->Exit->Act->aV
 | _,[],Q=>Q
 | .seq a b,m::p,Q=>match m with
  | 0=>FH F n P a p (Exit.then (λa w=>b.wpIn F n P Q a w) Q)
  | _=>FH F n P b p Q
 | .block id c,_::p,Q=>FH F n P c p (Exit.inBlock id Q)
 | _,_,Q=>Q
theorem anK {P:Program} (hm:P.follows .mixedOrders=true) {F:Fence} (cM:ni F) {n:Nat} {ds:List Deferred}:∀ (p:eI) (c:Code) (env:aH) (Q:Exit->aH->aV) (qX:Exit->Act->aV) (w:av),
  C5 c p=true->W P (ze c p) env Q w->(∀ env w,Q (.exit 77) env w->(sub c p).wpIn F n P (FH F n P c p qX) (vA ds env) w)->
  (∀ e a w,xJ ds (rY Q) e a w->qX e a w)->c.wpIn F n P qX (vA ds env) w:=by
 intro p;induction p with
 |nil=>
  intro c env Q qX w aX h ao aq;have af:W P (.exit 77) env Q w:=by cases c<;>exact h
  rw [W.eq_def] at af;have al:=ao env w af;have bY:sub c []=c:=by rw [sub.eq_def]
  have bg:FH F n P c [] qX=qX:=by cases c<;>rfl
  rw [bY,bg] at al;exact al
 |cons m p c5=>
  intro c env Q qX w aX h ao aq;cases c with
  |seq a b=>
   cases m with
   |zero=>
    have aX:(C5 a p && (sw b && rr b))=true:=aX;simp only [iz] at aX;have af:W P (.seq (ze a p) b) env Q w:=h;rw [W.eq_def] at af;refine wpIn_seq ?_;refine c5 a env _ (Exit.then (λa w=>b.wpIn F n P qX a w) qX) w aX.1 af (λenv w al=>?_) (λe a w al=>?_)
    ·have:=ao env w al;rw [sub.eq_def] at this;exact this
    ·obtain ⟨hg,m1,rfl,aM⟩:=wu al;rw [Rl] at aM;cases e with
     |normal=>
      have yA:W P b m1 (rY Q) w:=by rw [C4 b m1 Q w aX.2.2];exact aM
      exact wpIn_mono (x3 hm cM b m1 _ w aX.2.1 yA) aq
     |panic c=>exact absurd rfl (hg.1 c)
     |outgrown=>exact absurd rfl hg.2
     |exit i=>exact aq _ _ _ (lS aM hg)
     |goto i=>exact aq _ _ _ (lS aM hg)
     |ret=>exact aq _ _ _ (lS aM hg)
   |succ m=>
    have aX:((sw a && rr a) && C5 b p)=true:=aX;simp only [iz] at aX;have af:W P (.seq a (ze b p)) env Q w:=h;rw [W.eq_def] at af;have af:W P a env (bk (λenv w=>W P (ze b p) env Q w) Q) w:=af;rw [<-C4 a env _ w aX.1.2,Rl] at af;refine wpIn_seq (wpIn_mono (x3 hm cM a env _ w aX.1.1 af) λe a w al=>?_);obtain ⟨hg,m1,rfl,aM⟩:=wu al;cases e with
    |normal=>refine c5 b m1 Q qX w aX.2 aM (λenv w aL=>?_) aq;have:=ao env w aL;rw [sub.eq_def] at this;exact this
    |panic c=>exact absurd rfl (hg.1 c)
    |outgrown=>exact absurd rfl hg.2
    |exit i=>exact aq _ _ _ (lS aM hg)
    |goto i=>exact aq _ _ _ (lS aM hg)
    |ret=>exact aq _ _ _ (lS aM hg)
  |block id c=>
   have aX:(!Nat.beq 77 id && C5 c p)=true:=aX;simp only [iz,FC] at aX;have af:W P (.block id (ze c p)) env Q w:=h;rw [W.eq_def] at af;have af:W P (ze c p) env (a8 id Q) w:=af;refine wpIn_block ?_;refine c5 c env (a8 id Q) _ w aX.2 af (λenv w al=>?_) (λe a w al=>?_)
   ·have aL:Q (.exit 77) env w:=by simp only [a8,aX.1] at al;exact al
    have:=ao env w aL;rw [sub.eq_def] at this;exact this
   ·obtain ⟨hg,m1,rfl,aM⟩:=wu al;rw [W1 aX.1] at aM;cases e with
    |exit i=>
     simp only [a8] at aM;simp only [Exit.inBlock];cases ak:Nat.beq i id with
     |true=>rw [ak] at aM;rw [if_pos (sX ak)];exact aq _ _ _ (lS aM ⟨λ_=>by simp,by simp⟩)
     |false=>rw [ak] at aM;rw [if_neg (WQ ak)];exact aq _ _ _ (lS aM hg)
    |panic c=>exact absurd rfl (hg.1 c)
    |outgrown=>exact absurd rfl hg.2
    |normal=>exact aq _ _ _ (lS aM hg)
    |goto i=>exact aq _ _ _ (lS aM hg)
    |ret=>exact aq _ _ _ (lS aM hg)
  | _=>cases aX
theorem aiG {P:Program} {t:TypeId} {x:bx} {K Bf:dW} {w w':av} (ab:∀ ch v,w.cell? ch=some v->w'.cell? ch=some v) (J:∀ v,K v w->Bf v w') (h:zl P t x K w):zl P t x Bf w':=by
 have m5:∀ (vs:aH) (ch:bh) (i:Nat),df w ch i vs->df w' ch i vs:=by
  intro vs;induction vs with
  |nil=>intro ch i h;exact trivial
  |cons v vs c5=>intro ch i h;exact ⟨ab _ _ h.1,c5 _ _ h.2⟩
 unfold zl at h ⊢;split at h
 ·split at h
  ·exact h.elim
  ·rename_i inf kf;split at h
   ·rename_i qu;split at h
    ·rename_i au;exact YF (λvs h=>⟨m5 _ _ _ h.1,J _ h.2⟩) h
    ·exact h.elim
   ·rename_i qu;split at h
    ·exact h.elim
    ·rename_i d aC;exact YE (λv h=>⟨ab _ _ h.1,J _ h.2⟩) h
 ·exact h.elim
theorem WK {P:Program} {env:aH} {w w':av} (ab:∀ ch v,w.cell? ch=some v->w'.cell? ch=some v):∀ (rs:List ResultVar) {K:aH->Prop},yT P rs env K w->yT P rs env K w'
 | [],K,h=>h
 | .tmp t::rs,K,h=>WK ab rs h
 | .cell a t::rs,K,h=>aiG ab (λv h=>⟨rfl,WK ab rs h.2⟩) h
theorem amt {P:Program} {fn:Func} {R:dW} {n D:Nat} {e:Exit} {a:Act} {w:av} {l9:Ending->aV} (cC:∀ v,R v w->w.heap[D]?=some (.deferred (some []))/\l9 (.returned v) (w.putObj D (.deferred none)))
  (h:xJ [{ target:=.collected D,args:=#[] }] (ga P fn R) e a w):bodyPostM Fence.wide n P fn l9 e a w:=by
 have main:∀ env,yT P fn.results.toList env (λvs=>R (HI vs) w) w->LeavesInM Fence.wide n P fn env.toArray l9 [{ target:=.collected D,args:=#[] }] .returning w:=by
  intro env h;obtain ⟨vs,_,aA⟩:=QI _ _ h;have f':=(cC _ aA).1;have ab:∀ ch v,w.cell? ch=some v->(w.putObj D (.deferred none)).cell? ch=some v:=by
   intro ch v h;obtain ⟨o,aq,al⟩:=cells_of_cell h;have cj:ch.block≠D:=by intro e;rw [e,f'] at aq;cases aq;cases al
   rw [World.cell?_of_block (w:=w)]
   ·exact h
   ·exact World.putObj_heap_other cj
  obtain ⟨v,aw,aA⟩:=Qa (P:=P) (fn:=fn) (env:=env) (w:=w.putObj D (.deferred none)) (K:=λv=>R v w) (WK ab _ h);exact ⟨by simp,.inl ⟨_,_,rfl,run_takeDeferred f',⟨_,aw,(cC v aA).2⟩⟩⟩
 obtain ⟨ao,env,rfl,aM⟩:=wu h;cases e with
 |normal=>exact main env aM
 |ret=>exact main env aM
 |panic c=>exact absurd rfl (ao.1 c)
 |outgrown=>exact absurd rfl ao.2
 |exit i=>exact aM.elim
 |goto i=>exact aM.elim
theorem akg {P:Program} {fn:Func} {R:dW} {n:Nat} {e:Exit} {a:Act} {w:av} {l9:Ending->aV} (cC:∀ v,R v w->l9 (.returned v) w)
  (h:xJ [] (ga P fn R) e a w):bodyPostM Fence.wide n P fn l9 e a w:=by
 have main:∀ env,yT P fn.results.toList env (λvs=>R (HI vs) w) w->LeavesInM Fence.wide n P fn env.toArray l9 [] .returning w:=by intro env h;obtain ⟨v,aw,aA⟩:=Qa (P:=P) (fn:=fn) (env:=env) (w:=w) (K:=λv=>R v w) h;exact ⟨_,aw,cC v aA⟩
 obtain ⟨ao,env,rfl,aM⟩:=wu h;cases e with
 |normal=>exact main env aM
 |ret=>exact main env aM
 |panic c=>exact absurd rfl (ao.1 c)
 |outgrown=>exact absurd rfl ao.2
 |exit i=>exact aM.elim
 |goto i=>exact aM.elim
def A8 (K:aH->aV):Exit->aH->aV
 | .exit i,env,w=>match Nat.beq i 77 with
  |true=>K env w
  |false=>False
 | _,_,_=>False
theorem akh {P:Program} {fn:Func} {R:dW} {K:aH->aV} {ds:List Deferred} {e:Exit} {a:Act} {w:av} (h:xJ ds (rY (cw P fn R (A8 K))) e a w):xJ ds (ga P fn R) e a w:=by
 obtain ⟨ao,env,rfl,aM⟩:=wu h;cases e with
 |normal=>exact aM.elim
 |ret=>exact lS aM ao
 |panic c=>exact absurd rfl (ao.1 c)
 |outgrown=>exact absurd rfl ao.2
 |exit i=>
  simp only [rY] at aM;cases aD:Nat.beq i 77 with
  |true=>rw [aD] at aM;exact aM.elim
  |false=>rw [aD] at aM;have aM:A8 K (.exit i) env w:=aM;simp only [A8,aD] at aM
 |goto i=>exact aM.elim
end Go.Proofs.YtmkljjbioomepaaGreat
namespace Go.Proofs.YtmkljjbioomepaaGreat
open Go.Proofs.Tryz
open Go.b8 IntKind
variable (w:av) (R:dW) {s:ax} {a b:Nat} {i k:Int} {A B:bh} {X Y Z:bx} {j:aB} {F:Bool}
theorem aCR:bS prog f228 [ad s a b,I i] R w=(bb w #[I 0,bC] 271 λk l=>cond ((a:Int) != 120) (bJ l (ae k 0) 0 [I 0,bC] λj=>nq j (ae k 0) λd=>j=j/\R (.tuple #[d.val,U false]) j) (ns s a b 8 (a:Nat) (b:Nat) 1 λo p t=>Calls prog 251 #[ad o p t,I i] l λe u=>c0.ex λf=>∃ c,e=.returned (.tuple #[f.val,I c])/\bb u #[I 0,bC] 271 λm q=>bJ q (ae m 0) 0 f.cells λn=>nq n (ae m 0) λr=>bJ n (ae k 0) 0 r.cells λh=>nq h (ae k 0) λg=>h=h/\R (.tuple #[g.val,U ((c:Int) == 0)]) h)):=by kernel_rfl
theorem ay3:bS prog f246 [ad s a b,I i] R w=(bb w #[I 0,bC] 271 λm y=>Calls prog 228 #[ad s a b,I i] y λe v=>c0.ex λh=>∃ c,e=.returned (.tuple #[h.val,U c])/\bb v #[I 0,bC] 271 λu A=>bJ A (ae u 0) 0 h.cells λt=>cond (!c) (bJ t (ae m 0) 0 [I 0,bC] λp=>nq p (ae m 0) λj=>p=p/\R (.tuple #[j.val,U false]) p) (cQ t (ae u 0) λd=>mR 214 #[I d] t λf g n=>cb s a 0 1 λz=>fR n z λx=>cond (f != x) (bJ n (ae m 0) 0 [I 0,bC] λq=>nq q (ae m 0) λk=>q=q/\R (.tuple #[k.val,U false]) q) (nq n (ae u 0) λr=>bJ n (ae m 0) 0 r.cells λo=>nq o (ae m 0) λl=>o=o/\R (.tuple #[l.val,U true]) o))):=by kernel_rfl
noncomputable def gW:Code:=ze (b6 f251) [1,1,1,1,1,1,0,1,0]
def aeX (cJ:ax) (a b:Nat) (s1:Int) (c:bh) (s8 d:bx) (j:aB):aB:=ad cJ a b::I s1::ag j 0 2 (.pointer (some c)::ag j 2 3 (s8::ag j 5 42 (d::ag j 47 22 [])))
def Lb (cJ:ax) (a b:Nat) (s1:Int) (c:bh) (s8:bx) (d:Bool) (f:bx) (j:aB):aB:=ad cJ a b::I s1::ag j 0 2 (.pointer (some c)::ag j 2 3 (s8::ag j 5 18 (U d::ag j 23 23 (f::ag j 46 22 []))))
def aeY (cJ:ax) (a b:Nat) (s1:Int) (c:bh) (s8 d:bx) (j:aB):aB:=ad cJ a b::I s1::ag j 0 2 (.pointer (some c)::ag j 2 3 (s8::ag j 5 42 (d::ag j 47 22 [])))
def DG (cJ:ax) (a b:Nat) (s1:Int) (dS fM:bh) (dE:Int) (s8 c d:bx) (j:aB):aB:=ad cJ a b::I s1::ag j 0 2 (.pointer (some dS)::ag j 2 1 (.pointer (some fM)::I dE::s8::ag j 3 41 (c::d::ag j 44 22 [])))
def Vt (cJ:ax) (a b:Nat) (s1:Int) (c d:bh) (dE:Int) (j:aB):aB:=ad cJ a b::I s1::ag j 0 2 (.pointer (some c)::ag j 2 1 (.pointer (some d)::I dE::ag j 3 66 []))
def PL (a b:bh) (c:Bool) (j:aB):aB:=ag j 0 4 (.pointer (some a)::ag j 4 1 (.pointer (some b)::ag j 5 64 (U c::ag j 69 2 [])))
def aeZ (a b:bh) (j:aB):aB:=ag j 0 4 (.pointer (some a)::ag j 4 1 (.pointer (some b)::ag j 5 67 []))
theorem aCS (h:Exit->aB->aV):W prog gW ((ad s a b)::(I i)::(bQ 72 [])) (cw prog f251 R h) w=(bb w #[I 0,bC] 271 λf j=>fu 203 #[I i] j λc g=>cond (!c) (bJ g (ae f 0) 0 [I 0,bC] λe=>nq e (ae f 0) λd=>e=e/\R (.tuple #[d.val,I 18]) e) (W prog (sub gW [1,1]) (aeX s a b i (ae f 0) undef undef (bQ 2 (I 0::bQ 2 (I i::U c::U (!c)::bQ 61 [])))) (cw prog f251 R h) g)):=by kernel_rfl
theorem ax5 (env:aB) (w:av) (Q:Exit->aB->aV):W prog (sub gW [1,1]) env Q w=W prog (sub gW [1,1,0]) env (bk (λenv w=>W prog (sub gW [1,1,1]) env Q w) Q) w:=by rw [show sub gW [1,1]=.seq (sub gW [1,1,0]) (sub gW [1,1,1]) by kernel_rfl];generalize sub gW [1,1,0]=a;generalize sub gW [1,1,1]=b;kernel_rfl
theorem axf (env:aB) (w:av) (Q:Exit->aB->aV):W prog (sub gW [1,1,0]) env Q w=W prog (sub gW [1,1,0,0]) env (bk (λenv w=>W prog (sub gW [1,1,0,1]) env Q w) Q) w:=by rw [show sub gW [1,1,0]=.seq (sub gW [1,1,0,0]) (sub gW [1,1,0,1]) by kernel_rfl];generalize sub gW [1,1,0,0]=a;generalize sub gW [1,1,0,1]=b;kernel_rfl
theorem ayQ (c:Exit->aB->aV):W prog (sub gW [1,1,0,0]) (aeX s a b i A X Y j) (cw prog f251 R c) w=(cond ((a:Int)<2) (c .normal (Lb s a b i A X true Y (ag j 0 9 (ad s a b::eZ a::U ((a:Int)<2)::U true::bQ 4 (U true::U true::bQ 4 (ag j 24 45 []))))) w) (cb s a 0 1 λd=>fR w d λx=>cond (x>=1073741824) (c .normal (Lb s a b i A X true Y (ag j 0 9 (ad s a b::eZ a::U ((a:Int)<2)::U false::ad s a b::jp d::ah x::U (x>=1073741824)::U (x>=1073741824)::U true::bQ 4 (ag j 24 45 [])))) w) (cb s a 1 1 λf=>fR w f λe=>c .normal (Lb s a b i A X (decide ((e:Int)>12)) Y (ag j 0 9 (ad s a b::eZ a::U ((a:Int)<2)::U false::ad s a b::jp d::ah x::U (x>=1073741824)::U (x>=1073741824)::U false::ad s a b::jp f::ah e::U (e>12)::ag j 24 45 []))) w))):=by kernel_rfl
theorem aeB (d:Exit->aB->aV):W prog (sub gW [1,1,0,1]) (Lb s a b i A X F Y j) (cw prog f251 R d) w=(cond F (bJ w A 0 [I 0,bC] λc=>nq c A λg=>c=c/\R (.tuple #[g.val,I 14]) c) (d .normal (aeY s a b i A X Y (ag j 0 23 (U F::ag j 23 45 []))) w)):=by kernel_rfl
theorem t0 (o:Exit->aB->aV):W prog (sub gW [1,1,1]) (aeY s a b i A X Y j) (cw prog f251 R o) w=(cb s a 0 1 λm=>fR w m λx=>bb w #[I 0,bC] 271 λn r=>bJ r (ae n 0) 0 [I (i64.wrap x),bC] λe=>cb s a 1 1 λg=>fR e g λc=>cond ((a:Int)<(i64.wrap ((i64.wrap (2+(i64.wrap (9 * (i64.wrap c)))))+1))) (bJ e A 0 [I 0,bC] λd=>nq d A λh=>d=d/\R (.tuple #[h.val,I 14]) d) (ns s a b 2 (i64.wrap ((i64.wrap ((i64.wrap (2+(i64.wrap (9 * (i64.wrap c)))))+1)) - 1)) (b:Nat) 1 λk l p=>axB 253 #[ad k l p,I 9] e λf q=>o (.exit 77) (DG s a b i A (ae n 0) (i64.wrap ((i64.wrap (2+(i64.wrap (9 * (i64.wrap c)))))+1)) X f Y (aW j 0::aW j 1::aW j 2::ag j 5 20 (ad s a b::jp m::ah x::I (i64.wrap x)::.agg #[I (i64.wrap x),bC]::ad s a b::jp g::ah c::I (i64.wrap c)::I (i64.wrap (9 * (i64.wrap c)))::I (i64.wrap (2+(i64.wrap (9 * (i64.wrap c)))))::I (i64.wrap ((i64.wrap (2+(i64.wrap (9 * (i64.wrap c)))))+1))::ad s a b::eZ a::I (i64.wrap ((i64.wrap (2+(i64.wrap (9 * (i64.wrap c)))))+1))::U ((a:Int)<(i64.wrap ((i64.wrap (2+(i64.wrap (9 * (i64.wrap c)))))+1)))::aW j 41::ad s a b::I (i64.wrap ((i64.wrap (2+(i64.wrap (9 * (i64.wrap c)))))+1))::I (i64.wrap ((i64.wrap ((i64.wrap (2+(i64.wrap (9 * (i64.wrap c)))))+1)) - 1))::ad k l p::ag j 47 22 []))) q)):=by kernel_rfl
theorem ax7 (cJ:ax) (a b:Nat) (s1:Int) (dS fM:bh) (dE:Int) (s8 c d:bx) (y:ax) (f g:Nat) (j:aB) (w:av) (IV:aB->aV):W prog (sb f251 [1,1,1,1,1,1,0,1,0,0]) (DG cJ a b s1 dS fM dE s8 c (ad y f g) (ag j 0 66 [])) (bk IV λ_ _ _=>False) w=(IV (DG cJ a b s1 dS fM dE (ad y f g) c (ad y f g) (ag j 0 66 [])) w):=by kernel_rfl
theorem axg (cJ:ax) (a b:Nat) (s1:Int) (dS fM:bh) (dE:Int) (s8 c d:bx) (y:ax) (f g:Nat) (j:aB) (w:av) (IV:aB->aV):W prog (sb f251 [1,1,1,1,1,1,0,1,0,1,0]) (DG cJ a b s1 dS fM dE (ad y f g) c (ad y f g) (ag j 0 66 [])) (bk IV λ_ _ _=>False) w=(dP w λw1 hb=>iE hb (cX fM 1) λh i k=>axC 254 #[ad y f g] w1 λn aS=>hb aS/\bb aS n.cells.toArray 73 λb1 aY=>hb aY/\fk 37 (ad h i k) (ad (b7 b1) 1 1) aY λap l m bZ=>ev bZ (cX fM 1) (ad ap l m) λcK=>IV (DG cJ a b s1 dS fM dE (ad y f g) c (ad y f g) (ag j 0 44 (cz fM 1::ad h i k::ad y f g::n.val::ad (b7 b1) 1 1::ad ap l m::cz fM 1::ag j 51 15 []))) cK):=by kernel_rfl
theorem axh:(DG s a b i A B k X Y Z j)=(Vt s a b i A B k (aW j 0::aW j 1::aW j 2::X::ag j 3 41 (Y::Z::ag j 44 22 []))):=by kernel_rfl
theorem ro (env:aB) (w:av) (Q:Exit->aB->aV):W prog (sub gW [1,1,1,1,1,1,1]) env Q w=W prog (sub gW [1,1,1,1,1,1,1,0]) env (bk (λenv w=>W prog (sub gW [1,1,1,1,1,1,1,1]) env Q w) Q) w:=by rw [show sub gW [1,1,1,1,1,1,1]=.seq (sub gW [1,1,1,1,1,1,1,0]) (sub gW [1,1,1,1,1,1,1,1]) by kernel_rfl];generalize sub gW [1,1,1,1,1,1,1,0]=a;generalize sub gW [1,1,1,1,1,1,1,1]=b;kernel_rfl
theorem axi (env:aB) (w:av) (Q:Exit->aB->aV):W prog (sub gW [1,1,1,1,1,1,1,0]) env Q w=W prog (sub gW [1,1,1,1,1,1,1,0,0]) env (bk (λenv w=>W prog (sub gW [1,1,1,1,1,1,1,0,1]) env Q w) Q) w:=by rw [show sub gW [1,1,1,1,1,1,1,0]=.seq (sub gW [1,1,1,1,1,1,1,0,0]) (sub gW [1,1,1,1,1,1,1,0,1]) by kernel_rfl];generalize sub gW [1,1,1,1,1,1,1,0,0]=a;generalize sub gW [1,1,1,1,1,1,1,0,1]=b;kernel_rfl
theorem t6 (m:Exit->aB->aV):W prog (sub gW [1,1,1,1,1,1,1,0,0]) (Vt s a b i A B k j) (cw prog f251 R m) w=(dP w λv d=>HE d B λr=>dI 167 #[r.val,I i] v λf l=>d l/\cond (f != 0) (m .normal (PL A B true (ad s a b::I i::aW j 0::aW j 1::aW j 2::I k::ag j 3 51 (r.val::I i::I f::U ((f:Int) != 0)::U true::bQ 7 [aW j 67,aW j 68]))) l) (HE d B λn=>ns s a b 0 k (b:Nat) 1 λo p u=>hJ 210 #[n.val] l λg h c t=>d t/\fu 255 #[ad g h c,ad o p u] t λe q=>d q/\m .normal (PL A B (!e) (ad s a b::I i::aW j 0::aW j 1::aW j 2::I k::ag j 3 51 [r.val,I i,I f,U ((f:Int) != 0),U false,n.val,ad g h c,ad s a b,I k,ad o p u,U e,U (!e),aW j 67,aW j 68])) q)):=by kernel_rfl
theorem t7 (b:Exit->aB->aV):W prog (sub gW [1,1,1,1,1,1,1,0,1]) (PL A B F j) (cw prog f251 R b) w=(cond F (bJ w A 0 [I 0,bC] λa=>nq a A λd=>a=a/\R (.tuple #[d.val,I 14]) a) (b .normal (aeZ A B (ag j 0 69 [U F,aW j 69,aW j 70])) w)):=by kernel_rfl
theorem t8 (b:Exit->aB->aV):W prog (sub gW [1,1,1,1,1,1,1,1]) (aeZ A B j) (cw prog f251 R b) w=(nq w B λr=>bJ w A 0 r.cells λa=>nq a A λc=>a=a/\R (.tuple #[c.val,I 0]) a):=by kernel_rfl
theorem aCP (n:c0) (l:c0):bS prog f252 [n.val,l.val] R w=(bb w n.cells.toArray 271 λm p=>bb p l.cells.toArray 271 λj e=>cQ e (ae m 0) λa=>cQ e (ae j 0) λb=>cond (a == b) (de e (ae m 1) λc d f=>de e (ae j 1) λg h i=>fu 256 #[ad c d f,ad g h i] e λk o=>R (U k) o) (R (U false) e)):=by kernel_rfl
theorem aCQ:bS prog f254 [ad s a b] R w=(bb w #[I 0,ah 0,ah 0,ah 0,ah 0,ah 0,ah 0,ah 0,ah 0] 73 λi q=>dP q λo f=>cb s a 0 1 λu=>qG f u λx=>cb s a 1 1 λc=>qG f c λv=>bb o #[I 0,ah 0,ah 0,ah 0,ah 0,ah 0,ah 0,ah 0,ah 0] 73 λh j=>f j/\bJ j (ae h 0) 0 [I (i64.wrap (if (256:Int)<x then (256:Int) else x)),ah v,ah 0,ah 0,ah 0,ah 0,ah 0,ah 0,ah 0] λn=>∀ k,k=n.drew->ns s a b 2 (a:Nat) (b:Nat) 1 λl m p=>∃ r,∃ g,(Builtin.copy_ #[94,94] 3 #[ad (some (ae h 2)) 7 7,ad l m p]).run prog k=.ok (I r) g/\mS g (ae h 0) λt=>bJ g (ae i 0) 0 t.cells λe=>mS e (ae i 0) λd=>e=e/\R d.val e):=by kernel_rfl
end Go.Proofs.YtmkljjbioomepaaGreat
namespace Go.Proofs.YtmkljjbioomepaaGreat
open Go.Proofs.Tryz
open Go.b8 IntKind
variable (w:av) (R:dW) {s:ax} {a b:Nat} {i:Int} {X:bx} {A B:bh} {j:aB}
theorem avu:bS prog f253 [ad s a b,I i] R w=(bb w #[ad s a b] 94 λe f=>bb f #[I i] 3 λd c=>cQ c (ae d 0) λx=>cond (x<1) (W prog (sb f253 [1,0,1,0]) [ad s a b,I i,bM e,bM d,.nilFunc,I x,U (x<1),undef,undef] (ba f253 [1,1] R) c) (R (.func (.func 257) #[] #[bM e,bM d]) c)):=by kernel_rfl
def NB (cJ:bx) (s1 s2:bh) (dS:Int) (j:aB):aB:=cJ::.pointer (some s1)::.pointer (some s2)::ag j 0 1 (I dS::ag j 1 26 [])
theorem au4:bS prog f257 [X,bM a,bM b] R w=(dT prog (e0 f257 [1,0,0]) (NB X (ae a 0) (ae b 0) 0 (bQ 27 [])) (a8 0 (c3 f257 R)) w):=by kernel_rfl
theorem auh (u:aB->aV):W prog (sb f257 [1,0,0]) (NB X A B i j) (bk u (a8 0 (c3 f257 R))) w=(de w A λx a b=>cond (i<(a:Nat)) (dP w λv r=>eG r B λo=>iE r A λt c d=>ns t c d i (c:Nat) (d:Nat) 1 λy n z=>de v A λs f g=>ns s f g i (i64.wrap (i+(if (n:Int)<o then (n:Int) else o))) (i64.wrap (i+(if (n:Int)<o then (n:Int) else o))) 1 λm k l=>px prog X #[ad m k l] v λe q=>∃ h,e=.returned (U h)/\cond (!h) (R (.tuple #[]) q) (cQ q B λp=>u (NB X A B (i64.wrap (i+p)) [aW j 0,I (if (n:Int)<o then (n:Int) else o),I i,ad x a b,eZ a,U (i<(a:Nat)),I i,I p,I (i64.wrap (i+p)),I o,ad t c d,I i,ad y n z,eZ n,I (if (n:Int)<o then (n:Int) else o),X,ad s f g,I i,I i,I (if (n:Int)<o then (n:Int) else o),I (i64.wrap (i+(if (n:Int)<o then (n:Int) else o))),I i,I (if (n:Int)<o then (n:Int) else o),I (i64.wrap (i+(if (n:Int)<o then (n:Int) else o))),ad m k l,U h,U (!h)]) q)) (R (.tuple #[]) w)):=by kernel_rfl
end Go.Proofs.YtmkljjbioomepaaGreat
