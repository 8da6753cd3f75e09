import Derived.OrdersIn
import Derived.Test.YtmkljjbioomepaaGreatb05
import Derived.Test.YtmkljjbioomepaaGreatProg
import Derived.Test.YtmkljjbioomepaaGreatb03
set_option linter.all false
set_option linter.unusedSectionVars false
namespace Go.Proofs.YtmkljjbioomepaaGreat
open Go.Proofs.Tryz Go.bu
variable {K:ax->aE} {P:Program} {Q:Exit->ax->aE} {R:cB} {hi:Ending->aE} {a:Act} {args:Array a2} {ds:List Deferred} {e:Exit} {env:ax} {n:Nat} {next next':Act->aE} {o:Oper} {w:ak}
section
open Go.RowKit
def plus (a:Act) (ds:List Deferred):Act:={ a with defers:=a.defers++ds }
def l_ (ds:List Deferred) (a:ax):Act:={ tmps:=a.toArray,defers:=ds }
theorem K' (ds:List Deferred) (a:ax):plus (act a) ds=l_ ds a:=rfl
theorem k0 (a:Act) (ds:List Deferred) (d:Option Tmp) (v:a2):(plus a ds).put d v=plus (a.put d v) ds:=by cases d<;>rfl
theorem A9 (a:Act) (ds:List Deferred):(plus a ds).eval=a.eval:=by funext x;cases x<;>rfl
def hJ (F:Fence):Prop:=F=Fence.wide\/∃ r,F=Fence.wide.inRound r
theorem Bp:hJ Fence.wide:=.inl rfl
theorem Hx (r:Nat):hJ (Fence.wide.inRound r):=.inr ⟨r,rfl⟩
section
variable {P:Program} {F:Fence} {n:Nat} {ds:List Deferred} {Q jd:Exit->Act->aE}
theorem hJ.fn (h:hJ F) (f:FuncId):F.fn f:=by rcases h with rfl | ⟨r,rfl⟩<;>trivial
theorem hJ.depth (h:hJ F):F.depth=none:=by rcases h with rfl | ⟨r,rfl⟩<;>rfl
theorem hJ.fenced (h:hJ F):Machine.fenced P F=Machine.fenced P Fence.wide:=by rcases h with rfl | ⟨r,rfl⟩<;>rfl
theorem hJ.calls (h:hJ F) {f:FuncId} {R:Ending->aE} (k:Calls P f args w R):CallsIn F n P f args w R:=by
 rcases h with rfl | ⟨r,rfl⟩
 ·exact callsIn_wide.2 k
 ·exact CallsIn.inRound r (callsIn_wide.2 k)
theorem hJ.rows (h:hJ F) {row:String} (k:Rows P row args w R):RowsIn F n P row args w R:=by intro c cs _;obtain ⟨v,w',r,s⟩:=k c cs;exact ⟨v,w',r,by rw [h.fenced];exact stepsIn_wide.2 s⟩
def ss (o:Oper):Bool:=match o.op with
 | .defer _=>false
 | _=>true
theorem hJ.GK (h:hJ F) (d:ss o=true) (a:Operand->a2):o.semAt F.round a=execOp a o:=by
 rcases h with rfl | ⟨r,rfl⟩
 ·exact Oper.semAt_none _ _
 ·exact Oper.semAt_some _ _ _ λc b=>by simp [ss,b] at d
theorem hJ.one (h:hJ F):F.depth.isSome=true->1<=n:=λa=>by rw [h.depth] at a;cases a
theorem Nm (j:hJ F) (b:∀ a w,next a w->next' (plus a ds) w) (k:∀ c a w,¬ Q (.panic c) a w) (l:¬ LetsOut Q) :
  ∀ {x:Result Go.Next},o.upon P a next Q x->o.uponIn F n P (plus a ds) next' jd x
 | .ok (.value v) w',h=>by rw [Oper.uponIn_value,k0];exact b _ _ h
 | .ok .skip w',h=>by rw [Oper.uponIn_skip,k0];exact b _ _ h
 | .ok (.defer d) w',h=>by rw [Oper.uponIn_defer];have e:({ plus a ds with defers:=d::(plus a ds).defers }:Act)=plus { a with defers:=d::a.defers } ds:=rfl;rw [e,k0];exact b _ _ h
 | .ok (.enter f args) w',h=>by
  rw [Oper.uponIn_enter];refine ⟨j.one,j.calls (Calls.mono h λe i g=>?_)⟩;cases e with
  |returned v=>show next' ((plus a ds).put o.dst v) i;rw [k0];exact b _ _ g
  |panicked c=>exact absurd g (k _ _ _)
  |outgrown=>exact absurd g l
 | .ok (.row row args) w',h=>by rw [Oper.uponIn_row];refine ⟨j.one,j.rows (Rows.mono h λv i g=>?_)⟩;rw [k0];exact b _ _ g
 | .ok (.round ..) w',h=>h.elim
 | .halt (.panic v) w',h=>absurd h (k _ _ _)
 | .halt .blocked _,h=>h.elim
 | .halt .waiting _,h=>h.elim
 | .halt (.exit _) _,h=>h.elim
 | .halt (.stuck _) _,h=>h.elim
 | .halt (.unsupported _) _,h=>h.elim
theorem D2 (d:hJ F) {md:Region.Mode} {ops:Array Oper} (ar:∀ o ∈ ops.toList,ss o=true) (p:∀ a w,Q .normal a w->jd .normal (plus a ds) w) (r:∀ c a w,¬ Q (.panic c) a w) (j:¬ LetsOut Q) :
  ∀ (fuel:Nat) (c1:Array Bool) (a:Act) (w:ak),wpAny P md ops Q fuel c1 a w->wpAnyIn F n P md ops jd fuel c1 (plus a ds) w
 | 0,c1,a,w,h=>⟨h.1,p _ _ h.2⟩
 |fuel+1,c1,a,w,h=>by
  refine ⟨λt=>p _ _ (h.1 t),λi s=>?_⟩;have b:=h.2 i s;have q:=D2 (md:=md) d ar p r j fuel (c1.setIfInBounds i true);unfold wpOp at b;unfold wpOpIn;cases l:ops[i]? with
  |none=>simp only [l] at b ⊢;exact q _ _ b
  |some o=>
   simp only [l] at b ⊢;have g:o ∈ ops.toList:=by obtain ⟨k,e⟩:=u9.1 l;exact e▸(Array.getElem_mem_toList k)
   have u:(plus a ds).tmps=a.tmps:=rfl;rw [u];split at b
   ·rename_i hw;rw [if_pos hw];refine ⟨λf _=>d.fn f,?_⟩;rw [d.GK (ar o g),A9];rcases b with b | ⟨_,b⟩
    ·exact Nm d q r j b
    ·exact absurd b j
   ·rename_i hw;rw [if_neg hw];refine ⟨λf _=>d.fn f,?_⟩;rw [k0];exact q _ _ b
theorem JS (g:hJ F) (i:∀ a w,next a w->next' (plus a ds) w) (k:∀ c a w,¬ Q (.panic c) a w) (r:¬ LetsOut Q) :
  ∀ {x:Result Go.Next},o.uponIn Fence.wide 0 P a next Q x->o.uponIn F n P (plus a ds) next' jd x
 | .ok (.value v) w',h=>by rw [Oper.uponIn_value,k0];exact i _ _ h
 | .ok .skip w',h=>by rw [Oper.uponIn_skip,k0];exact i _ _ h
 | .ok (.defer d) w',h=>by rw [Oper.uponIn_defer];have e:({ plus a ds with defers:=d::(plus a ds).defers }:Act)=plus { a with defers:=d::a.defers } ds:=rfl;rw [e,k0];exact i _ _ h
 | .ok (.enter f args) w',h=>by
  rw [Oper.uponIn_enter];refine ⟨g.one,g.calls (Calls.mono (callsIn_wide.1 h.2) λe q b=>?_)⟩;cases e with
  |returned v=>show next' ((plus a ds).put o.dst v) q;rw [k0];exact i _ _ b
  |panicked c=>exact absurd b (k _ _ _)
  |outgrown=>exact absurd b r
 | .ok (.row row args) w',h=>by rw [Oper.uponIn_row];refine ⟨g.one,λc cs _=>?_⟩;obtain ⟨v,j,b,p⟩:=h.2 c cs (room_wide _);refine ⟨v,j,?_,by rw [g.fenced];exact p⟩;show next' ((plus a ds).put o.dst v) j;rw [k0];exact i _ _ b
 | .ok (.round l f tmps assign body) w',h=>by
  rw [Oper.uponIn_round];refine ⟨g.one,g.fn _,λc cs _=>?_⟩;obtain ⟨e,j,b,p⟩:=h.2.2 c cs (room_wide _);refine ⟨e,j,?_,by rw [g.fenced];exact p⟩;cases e with
  |returned v=>show next' ((plus a ds).put o.dst v) j;rw [k0];exact i _ _ b
  |panicked c=>exact absurd b (k _ _ _)
  |outgrown=>exact absurd b r
 | .halt (.panic v) w',h=>absurd h (k _ _ _)
 | .halt .blocked _,h=>h.elim
 | .halt .waiting _,h=>h.elim
 | .halt (.exit _) _,h=>h.elim
 | .halt (.stuck _) _,h=>h.elim
 | .halt (.unsupported _) _,h=>h.elim
theorem H1 (b:hJ F) {ops:Array Oper} (i:∀ a w,Q .normal a w->jd .normal (plus a ds) w) (g:∀ c a w,¬ Q (.panic c) a w) (e:¬ LetsOut Q) :
  ∀ (l:List Oper) (a:Act) (w:ak),(∀ o ∈ l,ss o=true)->wpListIn Fence.wide 0 P ops Q l a w->wpListIn F n P ops jd l (plus a ds) w
 | [],a,w,_,h=>i _ _ h
 |o::l,a,w,ar,h=>by
  have j:=λa w=>H1 b (ops:=ops) i g e l a w λo k=>ar o (fu _ k)
  unfold wpListIn at h ⊢;split at h
  ·rename_i hw;show (if Region.wanted o (yielded ops a.tmps) then _ else _);rw [if_pos hw];refine ⟨λf _=>b.fn f,?_⟩;have d:=h.2;rw [show Fence.wide.round=none from rfl,Oper.semAt_none] at d;rw [b.GK (ar o e2),A9];exact JS b j g e d
  ·rename_i hw;show (if Region.wanted o (yielded ops a.tmps) then _ else _);rw [if_neg hw];refine ⟨λf _=>b.fn f,?_⟩;rw [k0];exact j _ _ h.2
end
def mU (ds:List Deferred) (Q:Exit->ax->aE):Exit->Act->aE
 | .panic _,_,_=>False
 | .outgrown,_,_=>False
 |e,a,w=>a.defers=ds/\Q e a.tmps.toList w
theorem gY (h:Q e env w) (he:(∀ c,e≠.panic c)/\e≠.outgrown):mU ds Q e (l_ ds env) w:=by
 cases e with
 |panic c=>exact absurd rfl (he.1 c)
 |outgrown=>exact absurd rfl he.2
 | _=>exact ⟨rfl,by simpa [l_] using h⟩
theorem mm (h:mU ds Q e a w):((∀ c,e≠.panic c)/\e≠.outgrown)/\∃ env,a=l_ ds env/\Q e env w:=by
 have mk:∀ (a:Act),a.defers=ds->a=l_ ds a.tmps.toList:=λa b=>by
  cases a with
  |mk t d=>simp only at b;subst b;simp [l_]
 cases e with
 |panic c=>exact h.elim
 |outgrown=>exact h.elim
 |normal=>exact ⟨⟨λ_=>by simp,by simp⟩,_,mk a h.1,h.2⟩
 |exit i=>exact ⟨⟨λ_=>by simp,by simp⟩,_,mk a h.1,h.2⟩
 |goto i=>exact ⟨⟨λ_=>by simp,by simp⟩,_,mk a h.1,h.2⟩
 |ret=>exact ⟨⟨λ_=>by simp,by simp⟩,_,mk a h.1,h.2⟩
def kv:Code->Bool
 | .region _ ops _=>ops.toList.all ss
 | .seq a b=>kv a && kv b
 | .cond _ a b=>kv a && kv b
 | .block _ c=>kv c
 | .skip=>true
 | .exit _=>true
 | .ret=>true
 | _=>false
theorem O5 (ds:List Deferred) (a:ax):(l_ ds a).eval=b9 a:=by rw [<-K',A9,sW]
theorem JT {ops:List Oper} {Q:Exit->Act->aE} (d:Region.noSelect ops.toArray=true)
  (b:∀ env w,K env w->Q .normal (act env) w) (dH:∀ c a w,¬ Q (.panic c) a w) (h:GT P ops env K w):wpAny P .any ops.toArray Q ops.toArray.size (Array.replicate ops.toArray.size false) (act env) { w with drawn:=w.drawn+1 }:=by
 unfold GT at h;split at h
 ·obtain ⟨S,e,h⟩:=h _ rfl;refine uG (S:=S) (nd:=vZ ops (y0 ops)) _ _ _ _ ?_;have:=np (CN ops _) d b dH _ _ _ _ _ (xE _ _) (λ_=>e) h;simpa using this
 ·refine uG (S:=λ_=>True) (nd:=qV ops) _ _ _ _ ?_;have:=np (y1 ops) d b dH _ _ _ _ _ (xE _ _) (λ_=>trivial) (h _ rfl);simpa using this
def tU (K:ax->aE):Exit->Act->aE
 | .normal,a,w=>∃ env,a=act env/\K env w
 | _,_,_=>False
theorem ng {P:Program} (hm:P.follows .mixedOrders=true) {F:Fence} (j:hJ F) {n:Nat} {ds:List Deferred}:∀ (c:Code) (env:ax) (Q:Exit->ax->aE) (w:ak),
  kv c=true->W P c env Q w->c.wpIn F n P (mU ds Q) (l_ ds env) w
 | .skip,env,Q,w,ar,h=>by rw [W.eq_def] at h;exact wpIn_skip (gY h ⟨λ_=>by simp,by simp⟩)
 | .region id ops draw,env,Q,w,ar,h=>by
  have d:∀ a w,tU (Q .normal) .normal a w->mU ds Q .normal (plus a ds) w:=by rintro _ w ⟨f,rfl,A⟩;exact gY A ⟨λ_=>by simp,by simp⟩
  have s:∀ c a w,¬ tU (Q .normal) (.panic c) a w:=λc a w h=>h
  have y:¬ LetsOut (tU (Q .normal)):=λ⟨_,_,h⟩=>h
  have k:∀ o ∈ ops.toList,ss o=true:=gU.1 ar;rw [W.eq_def] at h;cases draw with
  |true=>
   simp only at h;split at h
   ·rename_i B;have u:=JT (Q:=tU (Q .normal)) (by simpa using B) (λenv w r=>⟨env,rfl,r⟩) s h;simp only [Array.toArray_toList] at u;exact wpIn_region_any hm (D2 j k d s y _ _ _ _ u)
   ·exact h.elim
  |false=>simp only at h;exact wpIn_region_list (H1 j d s y _ _ _ k (by simpa using oE (all:=ops.toList) (Q:=tU (Q .normal)) ops.toList env w (Q .normal) (λenv w r=>⟨env,rfl,r⟩) h))
 | .seq a b,env,Q,w,ar,h=>by
  rw [W.eq_def] at h;have ar:(kv a && kv b)=true:=ar;simp only [e1] at ar;have p:=ng hm j (n:=n) (ds:=ds) a env _ w ar.1 h;refine wpIn_seq (wpIn_mono p λx z w' g=>?_);obtain ⟨e,f,q,d⟩:=mm g;subst q;clear g;cases x with
  |normal=>exact ng hm j b f Q w' ar.2 d
  |panic c=>exact absurd rfl (e.1 c)
  |outgrown=>exact absurd rfl e.2
  |exit i=>exact gY d e
  |goto i=>exact gY d e
  |ret=>exact gY d e
 | .cond o a b,env,Q,w,ar,h=>by
  rw [W.eq_def] at h;have ar:(kv a && kv b)=true:=ar;simp only [e1] at ar;simp only at h;split at h
  ·rename_i t C;refine wpIn_cond (t:=t) (by rw [O5];exact C) ?_;cases t with
   |true=>exact ng hm j a env Q w ar.1 h
   |false=>exact ng hm j b env Q w ar.2 h
  ·exact h.elim
 | .block id c,env,Q,w,ar,h=>by
  rw [W.eq_def] at h;have p:=ng hm j (n:=n) (ds:=ds) c env _ w ar h;refine wpIn_block (wpIn_mono p λx z w' g=>?_);obtain ⟨e,f,q,d⟩:=mm g;subst q;clear g;cases x with
  |exit i=>
   simp only [aM] at d;simp only [Exit.inBlock];cases l:Nat.beq i id with
   |true=>rw [l] at d;rw [if_pos (kO l)];exact gY d ⟨λ_=>by simp,by simp⟩
   |false=>rw [l] at d;rw [if_neg (Be l)];exact gY d e
  |panic c=>exact absurd rfl (e.1 c)
  |outgrown=>exact absurd rfl e.2
  |normal=>exact gY d e
  |goto i=>exact gY d e
  |ret=>exact gY d e
 | .loop c,env,Q,w,ar,h=>by cases ar
 | .exit i,env,Q,w,ar,h=>by rw [W.eq_def] at h;exact wpIn_exit (gY h ⟨λ_=>by simp,by simp⟩)
 | .ret,env,Q,w,ar,h=>by rw [W.eq_def] at h;exact wpIn_ret (gY h ⟨λ_=>by simp,by simp⟩)
 | .rangeFunc ..,_,_,_,ar,_=>by cases ar
 | .scope _,_,_,_,ar,_=>by cases ar
 | .label _,_,_,_,ar,_=>by cases ar
 | .goto _,_,_,_,ar,_=>by cases ar
 | .refuse _,_,_,_,ar,_=>by cases ar
def kp (Q:Exit->ax->aE):Exit->ax->aE
 | .exit i,env,w=>match Nat.beq i 77 with
  |true=>False
  |false=>Q (.exit i) env w
 |e,env,w=>Q e env w
def j9:Code->Bool
 | .region ..=>true
 | .seq a b=>j9 a && j9 b
 | .cond _ a b=>j9 a && j9 b
 | .block id c=>!Nat.beq 77 id && j9 c
 | .skip=>true
 | .exit i=>!Nat.beq i 77
 | .ret=>true
 | _=>false
theorem yK {N:ax->aE}:kp (aU N Q)=aU N (kp Q):=by funext e env w;cases e<;>rfl
theorem AC {id:Nat} (h:Nat.beq 77 id=false):kp (aM id Q)=aM id (kp Q):=by
 funext e env w;cases e with
 |exit i=>
  simp only [kp,aM];cases c:Nat.beq i id with
  |true=>
   have a:=kO c;subst a;have:Nat.beq i 77=false:=by
    cases b:Nat.beq i 77 with
    |false=>rfl
    |true=>have:=kO b;subst this;rw [Nat.beq_refl] at h;cases h
   rw [this]
  |false=>rfl
 | _=>rfl
theorem qc {P:Program}:∀ (c:Code) (env:ax) (Q:Exit->ax->aE) (w:ak),j9 c=true->W P c env (kp Q) w=W P c env Q w
 | .skip,env,Q,w,_=>by rw [W.eq_def,W.eq_def];rfl
 | .region id ops draw,env,Q,w,_=>by rw [W.eq_def,W.eq_def];rfl
 | .seq a b,env,Q,w,h=>by have h:(j9 a && j9 b)=true:=h;simp only [e1] at h;rw [W.eq_def P (.seq a b),W.eq_def P (.seq a b)];show W P a env (aU (λenv w=>W P b env (kp Q) w) (kp Q)) w=W P a env (aU (λenv w=>W P b env Q w) Q) w;rw [<-yK,qc a env _ w h.1];congr 2;funext env w;exact qc b env Q w h.2
 | .cond c x y,env,Q,w,h=>by have h:(j9 x && j9 y)=true:=h;simp only [e1] at h;rw [W.eq_def P (.cond c x y),W.eq_def P (.cond c x y)];simp only [qc x env Q w h.1,qc y env Q w h.2]
 | .block id c,env,Q,w,h=>by have h:(!Nat.beq 77 id && j9 c)=true:=h;simp only [e1,rq] at h;rw [W.eq_def P (.block id c),W.eq_def P (.block id c)];show W P c env (aM id (kp Q)) w=W P c env (aM id Q) w;rw [<-AC h.1,qc c env _ w h.2]
 | .exit i,env,Q,w,h=>by have h:(!Nat.beq i 77)=true:=h;rw [W.eq_def,W.eq_def];simp only [rq] at h;simp only [kp,h]
 | .ret,env,Q,w,_=>by rw [W.eq_def,W.eq_def];rfl
 | .loop ..,_,_,_,h=>by cases h
 | .rangeFunc ..,_,_,_,h=>by cases h
 | .scope ..,_,_,_,h=>by cases h
 | .label ..,_,_,_,h=>by cases h
 | .goto ..,_,_,_,h=>by cases h
 | .refuse ..,_,_,_,h=>by cases h
def nW:Code->cP->Code
 | _,[]=>.exit 77
 | .seq a b,n::p=>match n with | 0=>.seq (nW a p) b | _=>.seq a (nW b p)
 | .block id c,_::p=>.block id (nW c p)
 |c,_=>c
def qd:Code->cP->Bool
 | _,[]=>true
 | .seq a b,n::p=>match n with | 0=>qd a p && (kv b && j9 b) | _=>(kv a && j9 a) && qd b p
 | .block id c,_::p=>!Nat.beq 77 id && qd c p
 | _,_=>false
def rz (F:Fence) (n:Nat) (P:Program):Code->cP->(Exit->Act->aE)->Exit->Act->aE
 | _,[],Q=>Q
 | .seq a b,m::p,Q=>match m with
  | 0=>rz F n P a p (Exit.then (λa w=>b.wpIn F n P Q a w) Q)
  | _=>rz F n P b p Q
 | .block id c,_::p,Q=>rz F n P c p (Exit.inBlock id Q)
 | _,_,Q=>Q
theorem OI (hm:P.follows .mixedOrders=true) {F:Fence} (y:hJ F):∀ (p:cP) (c:Code) (env:ax) (Q:Exit->ax->aE) (q:Exit->Act->aE) (w:ak),
  qd c p=true->W P (nW c p) env Q w->(∀ env w,Q (.exit 77) env w->(sub c p).wpIn F n P (rz F n P c p q) (l_ ds env) w)->
  (∀ e a w,mU ds (kp Q) e a w->q e a w)->c.wpIn F n P q (l_ ds env) w:=by
 intro p;induction p with
 |nil=>
  intro c env Q q w j h r l;have k:W P (.exit 77) env Q w:=by cases c<;>exact h
  rw [W.eq_def] at k;have o:=r env w k;have z:sub c []=c:=by rw [sub.eq_def]
  have A:rz F n P c [] q=q:=by cases c<;>rfl
  rw [z,A] at o;exact o
 |cons m p x=>
  intro c env Q q w j h r l;cases c with
  |seq a b=>
   cases m with
   |zero=>
    have j:(qd a p && (kv b && j9 b))=true:=j;simp only [e1] at j;have k:W P (.seq (nW a p) b) env Q w:=h;rw [W.eq_def] at k;refine wpIn_seq ?_;refine x a env _ (Exit.then (λa w=>b.wpIn F n P q a w) q) w j.1 k (λenv w o=>?_) (λe a w o=>?_)
    ·have:=r env w o;rw [sub.eq_def] at this;exact this
    ·obtain ⟨d,f,rfl,g⟩:=mm o;rw [yK] at g;cases e with
     |normal=>
      have u:W P b f (kp Q) w:=by rw [qc b f Q w j.2.2];exact g
      exact wpIn_mono (ng hm y b f _ w j.2.1 u) l
     |panic c=>exact absurd rfl (d.1 c)
     |outgrown=>exact absurd rfl d.2
     |exit i=>exact l _ _ _ (gY g d)
     |goto i=>exact l _ _ _ (gY g d)
     |ret=>exact l _ _ _ (gY g d)
   |succ m=>
    have j:((kv a && j9 a) && qd b p)=true:=j;simp only [e1] at j;have k:W P (.seq a (nW b p)) env Q w:=h;rw [W.eq_def] at k;have k:W P a env (aU (λenv w=>W P (nW b p) env Q w) Q) w:=k;rw [<-qc a env _ w j.1.2,yK] at k;refine wpIn_seq (wpIn_mono (ng hm y a env _ w j.1.1 k) λe a w o=>?_);obtain ⟨d,f,rfl,g⟩:=mm o;cases e with
    |normal=>refine x b f Q q w j.2 g (λenv w t=>?_) l;have:=r env w t;rw [sub.eq_def] at this;exact this
    |panic c=>exact absurd rfl (d.1 c)
    |outgrown=>exact absurd rfl d.2
    |exit i=>exact l _ _ _ (gY g d)
    |goto i=>exact l _ _ _ (gY g d)
    |ret=>exact l _ _ _ (gY g d)
  |block id c=>
   have j:(!Nat.beq 77 id && qd c p)=true:=j;simp only [e1,rq] at j;have k:W P (.block id (nW c p)) env Q w:=h;rw [W.eq_def] at k;have k:W P (nW c p) env (aM id Q) w:=k;refine wpIn_block ?_;refine x c env (aM id Q) _ w j.2 k (λenv w o=>?_) (λe a w o=>?_)
   ·have t:Q (.exit 77) env w:=by simp only [aM,j.1] at o;exact o
    have:=r env w t;rw [sub.eq_def] at this;exact this
   ·obtain ⟨d,f,rfl,g⟩:=mm o;rw [AC j.1] at g;cases e with
    |exit i=>
     simp only [aM] at g;simp only [Exit.inBlock];cases s:Nat.beq i id with
     |true=>rw [s] at g;rw [if_pos (kO s)];exact l _ _ _ (gY g ⟨λ_=>by simp,by simp⟩)
     |false=>rw [s] at g;rw [if_neg (Be s)];exact l _ _ _ (gY g d)
    |panic c=>exact absurd rfl (d.1 c)
    |outgrown=>exact absurd rfl d.2
    |normal=>exact l _ _ _ (gY g d)
    |goto i=>exact l _ _ _ (gY g d)
    |ret=>exact l _ _ _ (gY g d)
  | _=>cases j
theorem JE {t:TypeId} {x:a2} {K c:cB} {w':ak} (e:∀ bx v,w.cell? bx=some v->w'.cell? bx=some v) (g:∀ v,K v w->c v w') (h:n2 P t x K w):n2 P t x c w':=by
 have b:∀ (vs:ax) (bx:aS) (i:Nat),b6 w bx i vs->b6 w' bx i vs:=by
  intro vs;induction vs with
  |nil=>intro bx i h;exact trivial
  |cons v vs j=>intro bx i h;exact ⟨e _ _ h.1,j _ _ h.2⟩
 unfold n2 at h ⊢;split at h
 ·split at h
  ·exact h.elim
  ·rename_i inf f;split at h
   ·rename_i a;split at h
    ·rename_i k;exact C6 (λvs h=>⟨b _ _ _ h.1,g _ h.2⟩) h
    ·exact h.elim
   ·rename_i a;split at h
    ·exact h.elim
    ·rename_i d ar;exact C5 (λv h=>⟨e _ _ h.1,g _ h.2⟩) h
 ·exact h.elim
theorem A_ {P:Program} {env:ax} {w w':ak} (b:∀ bx v,w.cell? bx=some v->w'.cell? bx=some v):∀ (rs:List ResultVar) {K:ax->Prop},nE P rs env K w->nE P rs env K w'
 | [],K,h=>h
 | .tmp t::rs,K,h=>A_ b rs h
 | .cell a t::rs,K,h=>JE b (λv h=>⟨rfl,A_ b rs h.2⟩) h
theorem Nn {fn:Func} {D:Nat} (j:∀ v,R v w->w.heap[D]?=some (.deferred (some []))/\hi (.returned v) (w.putObj D (.deferred none)))
  (h:mU [{ target:=.collected D,args:=#[] }] (dD P fn R) e a w):bodyPostM Fence.wide n P fn hi e a w:=by
 have main:∀ env,nE P fn.results.toList env (λvs=>R (sK vs) w) w->LeavesInM Fence.wide n P fn env.toArray hi [{ target:=.collected D,args:=#[] }] .returning w:=by
  intro env h;obtain ⟨vs,_,f⟩:=ya _ _ h;have g:=(j _ f).1;have q:∀ bx v,w.cell? bx=some v->(w.putObj D (.deferred none)).cell? bx=some v:=by
   intro bx v h;obtain ⟨o,k,p⟩:=cells_of_cell h;have d:bx.block≠D:=by intro e;rw [e,g] at k;cases k;cases p
   rw [World.cell?_of_block (w:=w)]
   ·exact h
   ·exact World.putObj_heap_other d
  obtain ⟨v,al,f⟩:=xF (P:=P) (fn:=fn) (env:=env) (w:=w.putObj D (.deferred none)) (K:=λv=>R v w) (A_ q _ h);exact ⟨by simp,.inl ⟨_,_,rfl,run_takeDeferred g,⟨_,al,(j v f).2⟩⟩⟩
 obtain ⟨l,env,rfl,b⟩:=mm h;cases e with
 |normal=>exact main env b
 |ret=>exact main env b
 |panic c=>exact absurd rfl (l.1 c)
 |outgrown=>exact absurd rfl l.2
 |exit i=>exact b.elim
 |goto i=>exact b.elim
theorem La {fn:Func} (f:∀ v,R v w->hi (.returned v) w)
  (h:mU [] (dD P fn R) e a w):bodyPostM Fence.wide n P fn hi e a w:=by
 have main:∀ env,nE P fn.results.toList env (λvs=>R (sK vs) w) w->LeavesInM Fence.wide n P fn env.toArray hi [] .returning w:=by intro env h;obtain ⟨v,al,g⟩:=xF (P:=P) (fn:=fn) (env:=env) (w:=w) (K:=λv=>R v w) h;exact ⟨_,al,f v g⟩
 obtain ⟨d,env,rfl,b⟩:=mm h;cases e with
 |normal=>exact main env b
 |ret=>exact main env b
 |panic c=>exact absurd rfl (d.1 c)
 |outgrown=>exact absurd rfl d.2
 |exit i=>exact b.elim
 |goto i=>exact b.elim
def o0 (K:ax->aE):Exit->ax->aE
 | .exit i,env,w=>match Nat.beq i 77 with
  |true=>K env w
  |false=>False
 | _,_,_=>False
theorem Lb {fn:Func} (h:mU ds (kp (bG P fn R (o0 K))) e a w):mU ds (dD P fn R) e a w:=by
 obtain ⟨f,env,rfl,b⟩:=mm h;cases e with
 |normal=>exact b.elim
 |ret=>exact gY b f
 |panic c=>exact absurd rfl (f.1 c)
 |outgrown=>exact absurd rfl f.2
 |exit i=>
  simp only [kp] at b;cases d:Nat.beq i 77 with
  |true=>rw [d] at b;exact b.elim
  |false=>rw [d] at b;have b:o0 K (.exit i) env w:=b;simp only [o0,d] at b
 |goto i=>exact b.elim
end
section
open IntKind
variable (w:ak) (R:cB) {s:an} {a b:Nat} {i k:Int} {A B:aS} {X Y Z:a2} {j:aq} {F:Bool}
theorem VQ:bf prog f228 [ae s a b,ab i] R w=(aQ w #[ab 0,a5] 271 λk m=>cond ((a:Int) != 120) (a' m (af k 0) 0 [ab 0,a5] λh=>hN h (af k 0) λd=>h=h/\R (.tuple #[d.val,ad false]) h) (hP s a b 8 (a:Nat) (b:Nat) 1 λp o u=>Calls prog 251 #[ae p o u,ab i] m λe t=>bY.ex λf=>∃ c,e=.returned (.tuple #[f.val,ab c])/\aQ t #[ab 0,a5] 271 λl q=>a' q (af l 0) 0 f.cells λn=>hN n (af l 0) λr=>a' n (af k 0) 0 r.cells λj=>hN j (af k 0) λg=>j=j/\R (.tuple #[g.val,ad ((c:Int) == 0)]) j)):=by kernel_rfl
theorem UQ:bf prog f246 [ae s a b,ab i] R w=(aQ w #[ab 0,a5] 271 λm v=>Calls prog 228 #[ae s a b,ab i] v λe y=>bY.ex λh=>∃ c,e=.returned (.tuple #[h.val,ad c])/\aQ y #[ab 0,a5] 271 λt A=>a' A (af t 0) 0 h.cells λu=>cond (!c) (a' u (af m 0) 0 [ab 0,a5] λo=>hN o (af m 0) λj=>o=o/\R (.tuple #[j.val,ad false]) o) (bS u (af t 0) λd=>ht 214 #[ab d] u λf g q=>bm s a 0 1 λz=>dr q z λx=>cond (f != x) (a' q (af m 0) 0 [ab 0,a5] λp=>hN p (af m 0) λk=>p=p/\R (.tuple #[k.val,ad false]) p) (hN q (af t 0) λr=>a' q (af m 0) 0 r.cells λn=>hN n (af m 0) λl=>n=n/\R (.tuple #[l.val,ad true]) n))):=by kernel_rfl
noncomputable def dX:Code:=nW (bp f251) [1,1,1,1,1,1,0,1,0]
def Gh (e:an) (a b:Nat) (s1:Int) (c:aS) (s8 d:a2) (j:aq):aq:=ae e a b::ab s1::ag j 0 2 (.pointer (some c)::ag j 2 3 (s8::ag j 5 42 (d::ag j 47 22 [])))
def uz (e:an) (a b:Nat) (s1:Int) (c:aS) (s8:a2) (d:Bool) (f:a2) (j:aq):aq:=ae e a b::ab s1::ag j 0 2 (.pointer (some c)::ag j 2 3 (s8::ag j 5 18 (ad d::ag j 23 23 (f::ag j 46 22 []))))
def Gi (e:an) (a b:Nat) (s1:Int) (c:aS) (s8 d:a2) (j:aq):aq:=ae e a b::ab s1::ag j 0 2 (.pointer (some c)::ag j 2 3 (s8::ag j 5 42 (d::ag j 47 22 [])))
def qH (e:an) (a b:Nat) (s1:Int) (f g:aS) (h:Int) (s8 c d:a2) (j:aq):aq:=ae e a b::ab s1::ag j 0 2 (.pointer (some f)::ag j 2 1 (.pointer (some g)::ab h::s8::ag j 3 41 (c::d::ag j 44 22 [])))
def Ai (e:an) (a b:Nat) (s1:Int) (c d:aS) (f:Int) (j:aq):aq:=ae e a b::ab s1::ag j 0 2 (.pointer (some c)::ag j 2 1 (.pointer (some d)::ab f::ag j 3 66 []))
def xm (a b:aS) (c:Bool) (j:aq):aq:=ag j 0 4 (.pointer (some a)::ag j 4 1 (.pointer (some b)::ag j 5 64 (ad c::ag j 69 2 [])))
def Gj (a b:aS) (j:aq):aq:=ag j 0 4 (.pointer (some a)::ag j 4 1 (.pointer (some b)::ag j 5 67 []))
theorem VR (g:Exit->aq->aE):W prog dX ((ae s a b)::(ab i)::(bb 72 [])) (bG prog f251 R g) w=(aQ w #[ab 0,a5] 271 λf j=>de 203 #[ab i] j λc h=>cond (!c) (a' h (af f 0) 0 [ab 0,a5] λe=>hN e (af f 0) λd=>e=e/\R (.tuple #[d.val,ab 18]) e) (W prog (sub dX [1,1]) (Gh s a b i (af f 0) undef undef (bb 2 (ab 0::bb 2 (ab i::ad c::ad (!c)::bb 61 [])))) (bG prog f251 R g) h)):=by kernel_rfl
theorem TA (env:aq) (w:ak) (Q:Exit->aq->aE):W prog (sub dX [1,1]) env Q w=W prog (sub dX [1,1,0]) env (aU (λenv w=>W prog (sub dX [1,1,1]) env Q w) Q) w:=by rw [show sub dX [1,1]=.seq (sub dX [1,1,0]) (sub dX [1,1,1]) by kernel_rfl];generalize sub dX [1,1,0]=a;generalize sub dX [1,1,1]=b;kernel_rfl
theorem SM (env:aq) (w:ak) (Q:Exit->aq->aE):W prog (sub dX [1,1,0]) env Q w=W prog (sub dX [1,1,0,0]) env (aU (λenv w=>W prog (sub dX [1,1,0,1]) env Q w) Q) w:=by rw [show sub dX [1,1,0]=.seq (sub dX [1,1,0,0]) (sub dX [1,1,0,1]) by kernel_rfl];generalize sub dX [1,1,0,0]=a;generalize sub dX [1,1,0,1]=b;kernel_rfl
theorem t8 (c:Exit->aq->aE):W prog (sub dX [1,1,0,0]) (Gh s a b i A X Y j) (bG prog f251 R c) w=(cond ((a:Int)<2) (c .normal (uz s a b i A X true Y (ag j 0 9 (ae s a b::cX a::ad ((a:Int)<2)::ad true::bb 4 (ad true::ad true::bb 4 (ag j 24 45 []))))) w) (bm s a 0 1 λe=>dr w e λx=>cond (x>=1073741824) (c .normal (uz s a b i A X true Y (ag j 0 9 (ae s a b::cX a::ad ((a:Int)<2)::ad false::ae s a b::jp e::ah x::ad (x>=1073741824)::ad (x>=1073741824)::ad true::bb 4 (ag j 24 45 [])))) w) (bm s a 1 1 λf=>dr w f λd=>c .normal (uz s a b i A X (decide ((d:Int)>12)) Y (ag j 0 9 (ae s a b::cX a::ad ((a:Int)<2)::ad false::ae s a b::jp e::ah x::ad (x>=1073741824)::ad (x>=1073741824)::ad false::ae s a b::jp f::ah d::ad (d>12)::ag j 24 45 []))) w))):=by kernel_rfl
theorem F8 (d:Exit->aq->aE):W prog (sub dX [1,1,0,1]) (uz s a b i A X F Y j) (bG prog f251 R d) w=(cond F (a' w A 0 [ab 0,a5] λc=>hN c A λg=>c=c/\R (.tuple #[g.val,ab 14]) c) (d .normal (Gi s a b i A X Y (ag j 0 23 (ad F::ag j 23 45 []))) w)):=by kernel_rfl
theorem t9 (o:Exit->aq->aE):W prog (sub dX [1,1,1]) (Gi s a b i A X Y j) (bG prog f251 R o) w=(bm s a 0 1 λl=>dr w l λx=>aQ w #[ab 0,a5] 271 λm q=>a' q (af m 0) 0 [ab (i64.wrap x),a5] λe=>bm s a 1 1 λg=>dr e g λc=>cond ((a:Int)<(i64.wrap ((i64.wrap (2+(i64.wrap (9 * (i64.wrap c)))))+1))) (a' e A 0 [ab 0,a5] λd=>hN d A λh=>d=d/\R (.tuple #[h.val,ab 14]) d) (hP s a b 2 (i64.wrap ((i64.wrap ((i64.wrap (2+(i64.wrap (9 * (i64.wrap c)))))+1)) - 1)) (b:Nat) 1 λn k p=>S8 253 #[ae n k p,ab 9] e λf r=>o (.exit 77) (qH s a b i A (af m 0) (i64.wrap ((i64.wrap (2+(i64.wrap (9 * (i64.wrap c)))))+1)) X f Y (aF j 0::aF j 1::aF j 2::ag j 5 20 (ae s a b::jp l::ah x::ab (i64.wrap x)::.agg #[ab (i64.wrap x),a5]::ae s a b::jp g::ah c::ab (i64.wrap c)::ab (i64.wrap (9 * (i64.wrap c)))::ab (i64.wrap (2+(i64.wrap (9 * (i64.wrap c)))))::ab (i64.wrap ((i64.wrap (2+(i64.wrap (9 * (i64.wrap c)))))+1))::ae s a b::cX a::ab (i64.wrap ((i64.wrap (2+(i64.wrap (9 * (i64.wrap c)))))+1))::ad ((a:Int)<(i64.wrap ((i64.wrap (2+(i64.wrap (9 * (i64.wrap c)))))+1)))::aF j 41::ae s a b::ab (i64.wrap ((i64.wrap (2+(i64.wrap (9 * (i64.wrap c)))))+1))::ab (i64.wrap ((i64.wrap ((i64.wrap (2+(i64.wrap (9 * (i64.wrap c)))))+1)) - 1))::ae n k p::ag j 47 22 []))) r)):=by kernel_rfl
theorem TB (h:an) (a b:Nat) (s1:Int) (i k:aS) (l:Int) (s8 c d:a2) (y:an) (f g:Nat) (j:aq) (w:ak) (e:aq->aE):W prog (sb f251 [1,1,1,1,1,1,0,1,0,0]) (qH h a b s1 i k l s8 c (ae y f g) (ag j 0 66 [])) (aU e λ_ _ _=>False) w=(e (qH h a b s1 i k l (ae y f g) c (ae y f g) (ag j 0 66 [])) w):=by kernel_rfl
theorem SN (q:an) (a b:Nat) (s1:Int) (r e:aS) (s:Int) (s8 c d:a2) (y:an) (f g:Nat) (j:aq) (w:ak) (p:aq->aE):W prog (sb f251 [1,1,1,1,1,1,0,1,0,1,0]) (qH q a b s1 r e s (ae y f g) c (ae y f g) (ag j 0 66 [])) (aU p λ_ _ _=>False) w=(ct w λw1 o=>e5 o (bT e 1) λh i k=>S9 254 #[ae y f g] w1 λn t=>o t/\aQ t n.cells.toArray 73 λb1 u=>o u/\c9 37 (ae h i k) (ae (bn b1) 1 1) u λap l m x=>cI x (bT e 1) (ae ap l m) λz=>p (qH q a b s1 r e s (ae y f g) c (ae y f g) (ag j 0 44 (bq e 1::ae h i k::ae y f g::n.val::ae (bn b1) 1 1::ae ap l m::bq e 1::ag j 51 15 []))) z):=by kernel_rfl
theorem SO:(qH s a b i A B k X Y Z j)=(Ai s a b i A B k (aF j 0::aF j 1::aF j 2::X::ag j 3 41 (Y::Z::ag j 44 22 []))):=by kernel_rfl
theorem rt (env:aq) (w:ak) (Q:Exit->aq->aE):W prog (sub dX [1,1,1,1,1,1,1]) env Q w=W prog (sub dX [1,1,1,1,1,1,1,0]) env (aU (λenv w=>W prog (sub dX [1,1,1,1,1,1,1,1]) env Q w) Q) w:=by rw [show sub dX [1,1,1,1,1,1,1]=.seq (sub dX [1,1,1,1,1,1,1,0]) (sub dX [1,1,1,1,1,1,1,1]) by kernel_rfl];generalize sub dX [1,1,1,1,1,1,1,0]=a;generalize sub dX [1,1,1,1,1,1,1,1]=b;kernel_rfl
theorem SP (env:aq) (w:ak) (Q:Exit->aq->aE):W prog (sub dX [1,1,1,1,1,1,1,0]) env Q w=W prog (sub dX [1,1,1,1,1,1,1,0,0]) env (aU (λenv w=>W prog (sub dX [1,1,1,1,1,1,1,0,1]) env Q w) Q) w:=by rw [show sub dX [1,1,1,1,1,1,1,0]=.seq (sub dX [1,1,1,1,1,1,1,0,0]) (sub dX [1,1,1,1,1,1,1,0,1]) by kernel_rfl];generalize sub dX [1,1,1,1,1,1,1,0,0]=a;generalize sub dX [1,1,1,1,1,1,1,0,1]=b;kernel_rfl
theorem Uy (m:Exit->aq->aE):W prog (sub dX [1,1,1,1,1,1,1,0,0]) (Ai s a b i A B k j) (bG prog f251 R m) w=(ct w λv d=>sI d B λr=>cm 167 #[r.val,ab i] v λf l=>d l/\cond (f != 0) (m .normal (xm A B true (ae s a b::ab i::aF j 0::aF j 1::aF j 2::ab k::ag j 3 51 (r.val::ab i::ab f::ad ((f:Int) != 0)::ad true::bb 7 [aF j 67,aF j 68]))) l) (sI d B λu=>hP s a b 0 k (b:Nat) 1 λp o n=>eE 210 #[u.val] l λg h c t=>d t/\de 255 #[ae g h c,ae p o n] t λe q=>d q/\m .normal (xm A B (!e) (ae s a b::ab i::aF j 0::aF j 1::aF j 2::ab k::ag j 3 51 [r.val,ab i,ab f,ad ((f:Int) != 0),ad false,u.val,ae g h c,ae s a b,ab k,ae p o n,ad e,ad (!e),aF j 67,aF j 68])) q)):=by kernel_rfl
theorem Uz (b:Exit->aq->aE):W prog (sub dX [1,1,1,1,1,1,1,0,1]) (xm A B F j) (bG prog f251 R b) w=(cond F (a' w A 0 [ab 0,a5] λa=>hN a A λd=>a=a/\R (.tuple #[d.val,ab 14]) a) (b .normal (Gj A B (ag j 0 69 [ad F,aF j 69,aF j 70])) w)):=by kernel_rfl
theorem UA (b:Exit->aq->aE):W prog (sub dX [1,1,1,1,1,1,1,1]) (Gj A B j) (bG prog f251 R b) w=(hN w B λr=>a' w A 0 r.cells λa=>hN a A λc=>a=a/\R (.tuple #[c.val,ab 0]) a):=by kernel_rfl
theorem HF (m:bY) (l:bY):bf prog f252 [m.val,l.val] R w=(aQ w m.cells.toArray 271 λn o=>aQ o l.cells.toArray 271 λj e=>bS e (af n 0) λa=>bS e (af j 0) λb=>cond (a == b) (b5 e (af n 1) λc d f=>b5 e (af j 1) λg h i=>de 256 #[ae c d f,ae g h i] e λk p=>R (ad k) p) (R (ad false) e)):=by kernel_rfl
theorem HG:bf prog f254 [ae s a b] R w=(aQ w #[ab 0,ah 0,ah 0,ah 0,ah 0,ah 0,ah 0,ah 0,ah 0] 73 λj m=>ct m λq h=>bm s a 0 1 λt=>jM h t λx=>bm s a 1 1 λc=>jM h c λp=>aQ q #[ab 0,ah 0,ah 0,ah 0,ah 0,ah 0,ah 0,ah 0,ah 0] 73 λf k=>h k/\a' k (af f 0) 0 [ab (i64.wrap (if (256:Int)<x then (256:Int) else x)),ah p,ah 0,ah 0,ah 0,ah 0,ah 0,ah 0,ah 0] λu=>∀ i,i=u.drew->hP s a b 2 (a:Nat) (b:Nat) 1 λn l v=>∃ r,∃ g,(Builtin.copy_ #[94,94] 3 #[ae (some (af f 2)) 7 7,ae n l v]).run prog i=.ok (ab r) g/\hv g (af f 0) λo=>a' g (af j 0) 0 o.cells λe=>hv e (af j 0) λd=>e=e/\R d.val e):=by kernel_rfl
end
section
open IntKind
variable (w:ak) (R:cB) {s:an} {a b:Nat} {i:Int} {X:a2} {A B:aS} {j:aq}
theorem Rb:bf prog f253 [ae s a b,ab i] R w=(aQ w #[ae s a b] 94 λe f=>aQ f #[ab i] 3 λc d=>bS d (af c 0) λx=>cond (x<1) (W prog (sb f253 [1,0,1,0]) [ae s a b,ab i,a_ e,a_ c,.nilFunc,ab x,ad (x<1),undef,undef] (aP f253 [1,1] R) d) (R (.func (.func 257) #[] #[a_ e,a_ c]) d)):=by kernel_rfl
def wC (a:a2) (s1 s2:aS) (b:Int) (j:aq):aq:=a::.pointer (some s1)::.pointer (some s2)::ag j 0 1 (ab b::ag j 1 26 [])
theorem QM:bf prog f257 [X,a_ a,a_ b] R w=(cv prog (c0 f257 [1,0,0]) (wC X (af a 0) (af b 0) 0 (bb 27 [])) (aM 0 (bZ f257 R)) w):=by kernel_rfl
theorem P5 (r:aq->aE):W prog (sb f257 [1,0,0]) (wC X A B i j) (aU r (aM 0 (bZ f257 R))) w=(b5 w A λx a b=>cond (i<(a:Nat)) (ct w λs v=>cN v B λo=>e5 v A λt c d=>hP t c d i (c:Nat) (d:Nat) 1 λy n z=>b5 s A λu f g=>hP u f g i (i64.wrap (i+(if (n:Int)<o then (n:Int) else o))) (i64.wrap (i+(if (n:Int)<o then (n:Int) else o))) 1 λm k l=>iX prog X #[ae m k l] s λe p=>∃ h,e=.returned (ad h)/\cond (!h) (R (.tuple #[]) p) (bS p B λq=>r (wC X A B (i64.wrap (i+q)) [aF j 0,ab (if (n:Int)<o then (n:Int) else o),ab i,ae x a b,cX a,ad (i<(a:Nat)),ab i,ab q,ab (i64.wrap (i+q)),ab o,ae t c d,ab i,ae y n z,cX n,ab (if (n:Int)<o then (n:Int) else o),X,ae u f g,ab i,ab i,ab (if (n:Int)<o then (n:Int) else o),ab (i64.wrap (i+(if (n:Int)<o then (n:Int) else o))),ab i,ab (if (n:Int)<o then (n:Int) else o),ab (i64.wrap (i+(if (n:Int)<o then (n:Int) else o))),ae m k l,ad h,ad (!h)]) p)) (R (.tuple #[]) w)):=by kernel_rfl
end
end Go.Proofs.YtmkljjbioomepaaGreat
