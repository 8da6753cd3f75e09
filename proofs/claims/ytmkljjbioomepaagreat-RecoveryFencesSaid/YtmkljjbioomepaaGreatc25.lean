import Derived.OrdersIn
import Derived.Test.YtmkljjbioomepaaGreatc05
import Derived.Test.YtmkljjbioomepaaGreatProg
import Derived.Test.YtmkljjbioomepaaGreatc03
set_option linter.all false
set_option linter.unusedSectionVars false
namespace Go.Proofs.YtmkljjbioomepaaGreat
open Go.Proofs.Tryz Go.br
variable {K:ax->aE} {P:Program} {Q:Exit->ax->aE} {R:cA} {hi:Ending->aE} {a:Act} {args:Array a4} {ds:List Deferred} {e:Exit} {env:ax} {n:Nat} {next next':Act->aE} {o:Oper} {w:ak}
section
open Go.RowKit
def plus (a:Act) (ds:List Deferred):Act:={ a with defers:=a.defers++ds }
def l8 (ds:List Deferred) (a:ax):Act:={ tmps:=a.toArray,defers:=ds }
theorem Ln (ds:List Deferred) (a:ax):plus (act a) ds=l8 ds a:=rfl
theorem kU (a:Act) (ds:List Deferred) (d:Option Tmp) (v:a4):(plus a ds).put d v=plus (a.put d v) ds:=by cases d<;>rfl
theorem AG (a:Act) (ds:List Deferred):(plus a ds).eval=a.eval:=by funext x;cases x<;>rfl
def hI (F:Fence):Prop:=F=Fence.wide\/∃ r,F=Fence.wide.inRound r
theorem A_:hI Fence.wide:=.inl rfl
theorem G4 (r:Nat):hI (Fence.wide.inRound r):=.inr ⟨r,rfl⟩
section
variable {P:Program} {F:Fence} {n:Nat} {ds:List Deferred} {Q i':Exit->Act->aE}
theorem hI.fn (h:hI F) (f:FuncId):F.fn f:=by rcases h with rfl | ⟨r,rfl⟩<;>trivial
theorem hI.depth (h:hI F):F.depth=none:=by rcases h with rfl | ⟨r,rfl⟩<;>rfl
theorem hI.fenced (h:hI F):Machine.fenced P F=Machine.fenced P Fence.wide:=by rcases h with rfl | ⟨r,rfl⟩<;>rfl
theorem hI.calls (h:hI F) {f:FuncId} {R:Ending->aE} (k:Calls P f args w R):CallsIn F n P f args w R:=by
 rcases h with rfl | ⟨r,rfl⟩
 ·exact callsIn_wide.2 k
 ·exact CallsIn.inRound r (callsIn_wide.2 k)
theorem hI.rows (h:hI F) {row:String} (k:Rows P row args w R):RowsIn F n P row args w R:=by intro c cs _;obtain ⟨v,w',r,s⟩:=k c cs;exact ⟨v,w',r,by rw [h.fenced];exact stepsIn_wide.2 s⟩
def r8 (o:Oper):Bool:=match o.op with
 | .defer _=>false
 | _=>true
theorem hI.Gk (h:hI F) (d:r8 o=true) (a:Operand->a4):o.semAt F.round a=execOp a o:=by
 rcases h with rfl | ⟨r,rfl⟩
 ·exact Oper.semAt_none _ _
 ·exact Oper.semAt_some _ _ _ λc b=>by simp [r8,b] at d
theorem hI.one (h:hI F):F.depth.isSome=true->1<=n:=λa=>by rw [h.depth] at a;cases a
theorem LP (j:hI F) (b:∀ a w,next a w->next' (plus a ds) w) (k:∀ c a w,¬ Q (.panic c) a w) (l:¬ LetsOut Q) :
  ∀ {x:Result Go.Next},o.upon P a next Q x->o.uponIn F n P (plus a ds) next' i' x
 | .ok (.value v) w',h=>by rw [Oper.uponIn_value,kU];exact b _ _ h
 | .ok .skip w',h=>by rw [Oper.uponIn_skip,kU];exact b _ _ h
 | .ok (.defer d) w',h=>by rw [Oper.uponIn_defer];have e:({ plus a ds with defers:=d::(plus a ds).defers }:Act)=plus { a with defers:=d::a.defers } ds:=rfl;rw [e,kU];exact b _ _ h
 | .ok (.enter f args) w',h=>by
  rw [Oper.uponIn_enter];refine ⟨j.one,j.calls (Calls.mono h λe i g=>?_)⟩;cases e with
  |returned v=>show next' ((plus a ds).put o.dst v) i;rw [kU];exact b _ _ g
  |panicked c=>exact absurd g (k _ _ _)
  |outgrown=>exact absurd g l
 | .ok (.row row args) w',h=>by rw [Oper.uponIn_row];refine ⟨j.one,j.rows (Rows.mono h λv i g=>?_)⟩;rw [kU];exact b _ _ g
 | .ok (.round ..) w',h=>h.elim
 | .halt (.panic v) w',h=>absurd h (k _ _ _)
 | .halt .blocked _,h=>h.elim
 | .halt .waiting _,h=>h.elim
 | .halt (.exit _) _,h=>h.elim
 | .halt (.stuck _) _,h=>h.elim
 | .halt (.unsupported _) _,h=>h.elim
theorem DU (d:hI F) {md:Region.Mode} {ops:Array Oper} (ar:∀ o ∈ ops.toList,r8 o=true) (p:∀ a w,Q .normal a w->i' .normal (plus a ds) w) (r:∀ c a w,¬ Q (.panic c) a w) (j:¬ LetsOut Q) :
  ∀ (fuel:Nat) (cY:Array Bool) (a:Act) (w:ak),wpAny P md ops Q fuel cY a w->wpAnyIn F n P md ops i' fuel cY (plus a ds) w
 | 0,cY,a,w,h=>⟨h.1,p _ _ h.2⟩
 |fuel+1,cY,a,w,h=>by
  refine ⟨λt=>p _ _ (h.1 t),λi s=>?_⟩;have b:=h.2 i s;have q:=DU (md:=md) d ar p r j fuel (cY.setIfInBounds i true);unfold wpOp at b;unfold wpOpIn;cases l:ops[i]? with
  |none=>simp only [l] at b ⊢;exact q _ _ b
  |some o=>
   simp only [l] at b ⊢;have g:o ∈ ops.toList:=by obtain ⟨k,e⟩:=uQ.1 l;exact e▸(Array.getElem_mem_toList k)
   have u:(plus a ds).tmps=a.tmps:=rfl;rw [u];split at b
   ·rename_i hw;rw [if_pos hw];refine ⟨λf _=>d.fn f,?_⟩;rw [d.Gk (ar o g),AG];rcases b with b | ⟨_,b⟩
    ·exact LP d q r j b
    ·exact absurd b j
   ·rename_i hw;rw [if_neg hw];refine ⟨λf _=>d.fn f,?_⟩;rw [kU];exact q _ _ b
theorem JG (g:hI F) (i:∀ a w,next a w->next' (plus a ds) w) (k:∀ c a w,¬ Q (.panic c) a w) (r:¬ LetsOut Q) :
  ∀ {x:Result Go.Next},o.uponIn Fence.wide 0 P a next Q x->o.uponIn F n P (plus a ds) next' i' x
 | .ok (.value v) w',h=>by rw [Oper.uponIn_value,kU];exact i _ _ h
 | .ok .skip w',h=>by rw [Oper.uponIn_skip,kU];exact i _ _ h
 | .ok (.defer d) w',h=>by rw [Oper.uponIn_defer];have e:({ plus a ds with defers:=d::(plus a ds).defers }:Act)=plus { a with defers:=d::a.defers } ds:=rfl;rw [e,kU];exact i _ _ h
 | .ok (.enter f args) w',h=>by
  rw [Oper.uponIn_enter];refine ⟨g.one,g.calls (Calls.mono (callsIn_wide.1 h.2) λe q b=>?_)⟩;cases e with
  |returned v=>show next' ((plus a ds).put o.dst v) q;rw [kU];exact i _ _ b
  |panicked c=>exact absurd b (k _ _ _)
  |outgrown=>exact absurd b r
 | .ok (.row row args) w',h=>by rw [Oper.uponIn_row];refine ⟨g.one,λc cs _=>?_⟩;obtain ⟨v,j,b,p⟩:=h.2 c cs (room_wide _);refine ⟨v,j,?_,by rw [g.fenced];exact p⟩;show next' ((plus a ds).put o.dst v) j;rw [kU];exact i _ _ b
 | .ok (.round l f tmps assign body) w',h=>by
  rw [Oper.uponIn_round];refine ⟨g.one,g.fn _,λc cs _=>?_⟩;obtain ⟨e,j,b,p⟩:=h.2.2 c cs (room_wide _);refine ⟨e,j,?_,by rw [g.fenced];exact p⟩;cases e with
  |returned v=>show next' ((plus a ds).put o.dst v) j;rw [kU];exact i _ _ b
  |panicked c=>exact absurd b (k _ _ _)
  |outgrown=>exact absurd b r
 | .halt (.panic v) w',h=>absurd h (k _ _ _)
 | .halt .blocked _,h=>h.elim
 | .halt .waiting _,h=>h.elim
 | .halt (.exit _) _,h=>h.elim
 | .halt (.stuck _) _,h=>h.elim
 | .halt (.unsupported _) _,h=>h.elim
theorem Dd (b:hI F) {ops:Array Oper} (i:∀ a w,Q .normal a w->i' .normal (plus a ds) w) (g:∀ c a w,¬ Q (.panic c) a w) (e:¬ LetsOut Q) :
  ∀ (l:List Oper) (a:Act) (w:ak),(∀ o ∈ l,r8 o=true)->wpListIn Fence.wide 0 P ops Q l a w->wpListIn F n P ops i' l (plus a ds) w
 | [],a,w,_,h=>i _ _ h
 |o::l,a,w,ar,h=>by
  have j:=λa w=>Dd b (ops:=ops) i g e l a w λo k=>ar o (fD _ k)
  unfold wpListIn at h ⊢;split at h
  ·rename_i hw;show (if Region.wanted o (yielded ops a.tmps) then _ else _);rw [if_pos hw];refine ⟨λf _=>b.fn f,?_⟩;have d:=h.2;rw [show Fence.wide.round=none from rfl,Oper.semAt_none] at d;rw [b.Gk (ar o e_),AG];exact JG b j g e d
  ·rename_i hw;show (if Region.wanted o (yielded ops a.tmps) then _ else _);rw [if_neg hw];refine ⟨λf _=>b.fn f,?_⟩;rw [kU];exact j _ _ h.2
end
def mM (ds:List Deferred) (Q:Exit->ax->aE):Exit->Act->aE
 | .panic _,_,_=>False
 | .outgrown,_,_=>False
 |e,a,w=>a.defers=ds/\Q e a.tmps.toList w
theorem gV (h:Q e env w) (he:(∀ c,e≠.panic c)/\e≠.outgrown):mM ds Q e (l8 ds env) w:=by
 cases e with
 |panic c=>exact absurd rfl (he.1 c)
 |outgrown=>exact absurd rfl he.2
 | _=>exact ⟨rfl,by simpa [l8] using h⟩
theorem mj (h:mM ds Q e a w):((∀ c,e≠.panic c)/\e≠.outgrown)/\∃ env,a=l8 ds env/\Q e env w:=by
 have mk:∀ (a:Act),a.defers=ds->a=l8 ds a.tmps.toList:=λa b=>by
  cases a with
  |mk t d=>simp only at b;subst b;simp [l8]
 cases e with
 |panic c=>exact h.elim
 |outgrown=>exact h.elim
 |normal=>exact ⟨⟨λ_=>by simp,by simp⟩,_,mk a h.1,h.2⟩
 |exit i=>exact ⟨⟨λ_=>by simp,by simp⟩,_,mk a h.1,h.2⟩
 |goto i=>exact ⟨⟨λ_=>by simp,by simp⟩,_,mk a h.1,h.2⟩
 |ret=>exact ⟨⟨λ_=>by simp,by simp⟩,_,mk a h.1,h.2⟩
def ko:Code->Bool
 | .region _ ops _=>ops.toList.all r8
 | .seq a b=>ko a && ko b
 | .cond _ a b=>ko a && ko b
 | .block _ c=>ko c
 | .skip=>true
 | .exit _=>true
 | .ret=>true
 | _=>false
theorem O3 (ds:List Deferred) (a:ax):(l8 ds a).eval=b7 a:=by rw [<-Ln,AG,sy]
theorem JH {ops:List Oper} {Q:Exit->Act->aE} (d:Region.noSelect ops.toArray=true)
  (b:∀ env w,K env w->Q .normal (act env) w) (dG:∀ c a w,¬ Q (.panic c) a w) (h:tt P ops env K w):wpAny P .any ops.toArray Q ops.toArray.size (Array.replicate ops.toArray.size false) (act env) { w with drawn:=w.drawn+1 }:=by
 unfold tt at h;split at h
 ·obtain ⟨S,e,h⟩:=h _ rfl;refine ui (S:=S) (nd:=vJ ops (yF ops)) _ _ _ _ ?_;have:=m9 (CK ops _) d b dG _ _ _ _ _ (xh _ _) (λ_=>e) h;simpa using this
 ·refine ui (S:=λ_=>True) (nd:=qN ops) _ _ _ _ ?_;have:=m9 (yG ops) d b dG _ _ _ _ _ (xh _ _) (λ_=>trivial) (h _ rfl);simpa using this
def tC (K:ax->aE):Exit->Act->aE
 | .normal,a,w=>∃ env,a=act env/\K env w
 | _,_,_=>False
theorem m4 {P:Program} (hm:P.follows .mixedOrders=true) {F:Fence} (j:hI F) {n:Nat} {ds:List Deferred}:∀ (c:Code) (env:ax) (Q:Exit->ax->aE) (w:ak),
  ko c=true->W P c env Q w->c.wpIn F n P (mM ds Q) (l8 ds env) w
 | .skip,env,Q,w,ar,h=>by rw [W.eq_def] at h;exact wpIn_skip (gV h ⟨λ_=>by simp,by simp⟩)
 | .region id ops draw,env,Q,w,ar,h=>by
  have d:∀ a w,tC (Q .normal) .normal a w->mM ds Q .normal (plus a ds) w:=by rintro _ w ⟨f,rfl,A⟩;exact gV A ⟨λ_=>by simp,by simp⟩
  have s:∀ c a w,¬ tC (Q .normal) (.panic c) a w:=λc a w h=>h
  have y:¬ LetsOut (tC (Q .normal)):=λ⟨_,_,h⟩=>h
  have k:∀ o ∈ ops.toList,r8 o=true:=gQ.1 ar;rw [W.eq_def] at h;cases draw with
  |true=>
   simp only at h;split at h
   ·rename_i B;have u:=JH (Q:=tC (Q .normal)) (by simpa using B) (λenv w r=>⟨env,rfl,r⟩) s h;simp only [Array.toArray_toList] at u;exact wpIn_region_any hm (DU j k d s y _ _ _ _ u)
   ·exact h.elim
  |false=>simp only at h;exact wpIn_region_list (Dd j d s y _ _ _ k (by simpa using ov (all:=ops.toList) (Q:=tC (Q .normal)) ops.toList env w (Q .normal) (λenv w r=>⟨env,rfl,r⟩) h))
 | .seq a b,env,Q,w,ar,h=>by
  rw [W.eq_def] at h;have ar:(ko a && ko b)=true:=ar;simp only [eY] at ar;have p:=m4 hm j (n:=n) (ds:=ds) a env _ w ar.1 h;refine wpIn_seq (wpIn_mono p λx z w' g=>?_);obtain ⟨e,f,q,d⟩:=mj g;subst q;clear g;cases x with
  |normal=>exact m4 hm j b f Q w' ar.2 d
  |panic c=>exact absurd rfl (e.1 c)
  |outgrown=>exact absurd rfl e.2
  |exit i=>exact gV d e
  |goto i=>exact gV d e
  |ret=>exact gV d e
 | .cond o a b,env,Q,w,ar,h=>by
  rw [W.eq_def] at h;have ar:(ko a && ko b)=true:=ar;simp only [eY] at ar;simp only at h;split at h
  ·rename_i t C;refine wpIn_cond (t:=t) (by rw [O3];exact C) ?_;cases t with
   |true=>exact m4 hm j a env Q w ar.1 h
   |false=>exact m4 hm j b env Q w ar.2 h
  ·exact h.elim
 | .block id c,env,Q,w,ar,h=>by
  rw [W.eq_def] at h;have p:=m4 hm j (n:=n) (ds:=ds) c env _ w ar h;refine wpIn_block (wpIn_mono p λx z w' g=>?_);obtain ⟨e,f,q,d⟩:=mj g;subst q;clear g;cases x with
  |exit i=>
   simp only [aO] at d;simp only [Exit.inBlock];cases l:Nat.beq i id with
   |true=>rw [l] at d;rw [if_pos (kJ l)];exact gV d ⟨λ_=>by simp,by simp⟩
   |false=>rw [l] at d;rw [if_neg (AQ l)];exact gV d e
  |panic c=>exact absurd rfl (e.1 c)
  |outgrown=>exact absurd rfl e.2
  |normal=>exact gV d e
  |goto i=>exact gV d e
  |ret=>exact gV d e
 | .loop c,env,Q,w,ar,h=>by cases ar
 | .exit i,env,Q,w,ar,h=>by rw [W.eq_def] at h;exact wpIn_exit (gV h ⟨λ_=>by simp,by simp⟩)
 | .ret,env,Q,w,ar,h=>by rw [W.eq_def] at h;exact wpIn_ret (gV h ⟨λ_=>by simp,by simp⟩)
 | .rangeFunc ..,_,_,_,ar,_=>by cases ar
 | .scope _,_,_,_,ar,_=>by cases ar
 | .label _,_,_,_,ar,_=>by cases ar
 | .goto _,_,_,_,ar,_=>by cases ar
 | .refuse _,_,_,_,ar,_=>by cases ar
def ki (Q:Exit->ax->aE):Exit->ax->aE
 | .exit i,env,w=>match Nat.beq i 77 with
  |true=>False
  |false=>Q (.exit i) env w
 |e,env,w=>Q e env w
def jY:Code->Bool
 | .region ..=>true
 | .seq a b=>jY a && jY b
 | .cond _ a b=>jY a && jY b
 | .block id c=>!Nat.beq 77 id && jY c
 | .skip=>true
 | .exit i=>!Nat.beq i 77
 | .ret=>true
 | _=>false
theorem yl {N:ax->aE}:ki (aV N Q)=aV N (ki Q):=by funext e env w;cases e<;>rfl
theorem Ba {id:Nat} (h:Nat.beq 77 id=false):ki (aO id Q)=aO id (ki Q):=by
 funext e env w;cases e with
 |exit i=>
  simp only [ki,aO];cases c:Nat.beq i id with
  |true=>
   have a:=kJ c;subst a;have:Nat.beq i 77=false:=by
    cases b:Nat.beq i 77 with
    |false=>rfl
    |true=>have:=kJ b;subst this;rw [Nat.beq_refl] at h;cases h
   rw [this]
  |false=>rfl
 | _=>rfl
theorem p_ {P:Program}:∀ (c:Code) (env:ax) (Q:Exit->ax->aE) (w:ak),jY c=true->W P c env (ki Q) w=W P c env Q w
 | .skip,env,Q,w,_=>by rw [W.eq_def,W.eq_def];rfl
 | .region id ops draw,env,Q,w,_=>by rw [W.eq_def,W.eq_def];rfl
 | .seq a b,env,Q,w,h=>by have h:(jY a && jY b)=true:=h;simp only [eY] at h;rw [W.eq_def P (.seq a b),W.eq_def P (.seq a b)];show W P a env (aV (λenv w=>W P b env (ki Q) w) (ki Q)) w=W P a env (aV (λenv w=>W P b env Q w) Q) w;rw [<-yl,p_ a env _ w h.1];congr 2;funext env w;exact p_ b env Q w h.2
 | .cond c x y,env,Q,w,h=>by have h:(jY x && jY y)=true:=h;simp only [eY] at h;rw [W.eq_def P (.cond c x y),W.eq_def P (.cond c x y)];simp only [p_ x env Q w h.1,p_ y env Q w h.2]
 | .block id c,env,Q,w,h=>by have h:(!Nat.beq 77 id && jY c)=true:=h;simp only [eY,rh] at h;rw [W.eq_def P (.block id c),W.eq_def P (.block id c)];show W P c env (aO id (ki Q)) w=W P c env (aO id Q) w;rw [<-Ba h.1,p_ c env _ w h.2]
 | .exit i,env,Q,w,h=>by have h:(!Nat.beq i 77)=true:=h;rw [W.eq_def,W.eq_def];simp only [rh] at h;simp only [ki,h]
 | .ret,env,Q,w,_=>by rw [W.eq_def,W.eq_def];rfl
 | .loop ..,_,_,_,h=>by cases h
 | .rangeFunc ..,_,_,_,h=>by cases h
 | .scope ..,_,_,_,h=>by cases h
 | .label ..,_,_,_,h=>by cases h
 | .goto ..,_,_,_,h=>by cases h
 | .refuse ..,_,_,_,h=>by cases h
def nK:Code->cQ->Code
 | _,[]=>.exit 77
 | .seq a b,n::p=>match n with | 0=>.seq (nK a p) b | _=>.seq a (nK b p)
 | .block id c,_::p=>.block id (nK c p)
 |c,_=>c
def qa:Code->cQ->Bool
 | _,[]=>true
 | .seq a b,n::p=>match n with | 0=>qa a p && (ko b && jY b) | _=>(ko a && jY a) && qa b p
 | .block id c,_::p=>!Nat.beq 77 id && qa c p
 | _,_=>false
def ru (F:Fence) (n:Nat) (P:Program):Code->cQ->(Exit->Act->aE)->Exit->Act->aE
 | _,[],Q=>Q
 | .seq a b,m::p,Q=>match m with
  | 0=>ru F n P a p (Exit.then (λa w=>b.wpIn F n P Q a w) Q)
  | _=>ru F n P b p Q
 | .block id c,_::p,Q=>ru F n P c p (Exit.inBlock id Q)
 | _,_,Q=>Q
theorem Ny (hm:P.follows .mixedOrders=true) {F:Fence} (y:hI F):∀ (p:cQ) (c:Code) (env:ax) (Q:Exit->ax->aE) (q:Exit->Act->aE) (w:ak),
  qa c p=true->W P (nK c p) env Q w->(∀ env w,Q (.exit 77) env w->(sub c p).wpIn F n P (ru F n P c p q) (l8 ds env) w)->
  (∀ e a w,mM ds (ki Q) e a w->q e a w)->c.wpIn F n P q (l8 ds env) w:=by
 intro p;induction p with
 |nil=>
  intro c env Q q w j h r l;have k:W P (.exit 77) env Q w:=by cases c<;>exact h
  rw [W.eq_def] at k;have o:=r env w k;have z:sub c []=c:=by rw [sub.eq_def]
  have A:ru F n P c [] q=q:=by cases c<;>rfl
  rw [z,A] at o;exact o
 |cons m p x=>
  intro c env Q q w j h r l;cases c with
  |seq a b=>
   cases m with
   |zero=>
    have j:(qa a p && (ko b && jY b))=true:=j;simp only [eY] at j;have k:W P (.seq (nK a p) b) env Q w:=h;rw [W.eq_def] at k;refine wpIn_seq ?_;refine x a env _ (Exit.then (λa w=>b.wpIn F n P q a w) q) w j.1 k (λenv w o=>?_) (λe a w o=>?_)
    ·have:=r env w o;rw [sub.eq_def] at this;exact this
    ·obtain ⟨d,f,rfl,g⟩:=mj o;rw [yl] at g;cases e with
     |normal=>
      have u:W P b f (ki Q) w:=by rw [p_ b f Q w j.2.2];exact g
      exact wpIn_mono (m4 hm y b f _ w j.2.1 u) l
     |panic c=>exact absurd rfl (d.1 c)
     |outgrown=>exact absurd rfl d.2
     |exit i=>exact l _ _ _ (gV g d)
     |goto i=>exact l _ _ _ (gV g d)
     |ret=>exact l _ _ _ (gV g d)
   |succ m=>
    have j:((ko a && jY a) && qa b p)=true:=j;simp only [eY] at j;have k:W P (.seq a (nK b p)) env Q w:=h;rw [W.eq_def] at k;have k:W P a env (aV (λenv w=>W P (nK b p) env Q w) Q) w:=k;rw [<-p_ a env _ w j.1.2,yl] at k;refine wpIn_seq (wpIn_mono (m4 hm y a env _ w j.1.1 k) λe a w o=>?_);obtain ⟨d,f,rfl,g⟩:=mj o;cases e with
    |normal=>refine x b f Q q w j.2 g (λenv w t=>?_) l;have:=r env w t;rw [sub.eq_def] at this;exact this
    |panic c=>exact absurd rfl (d.1 c)
    |outgrown=>exact absurd rfl d.2
    |exit i=>exact l _ _ _ (gV g d)
    |goto i=>exact l _ _ _ (gV g d)
    |ret=>exact l _ _ _ (gV g d)
  |block id c=>
   have j:(!Nat.beq 77 id && qa c p)=true:=j;simp only [eY,rh] at j;have k:W P (.block id (nK c p)) env Q w:=h;rw [W.eq_def] at k;have k:W P (nK c p) env (aO id Q) w:=k;refine wpIn_block ?_;refine x c env (aO id Q) _ w j.2 k (λenv w o=>?_) (λe a w o=>?_)
   ·have t:Q (.exit 77) env w:=by simp only [aO,j.1] at o;exact o
    have:=r env w t;rw [sub.eq_def] at this;exact this
   ·obtain ⟨d,f,rfl,g⟩:=mj o;rw [Ba j.1] at g;cases e with
    |exit i=>
     simp only [aO] at g;simp only [Exit.inBlock];cases s:Nat.beq i id with
     |true=>rw [s] at g;rw [if_pos (kJ s)];exact l _ _ _ (gV g ⟨λ_=>by simp,by simp⟩)
     |false=>rw [s] at g;rw [if_neg (AQ s)];exact l _ _ _ (gV g d)
    |panic c=>exact absurd rfl (d.1 c)
    |outgrown=>exact absurd rfl d.2
    |normal=>exact l _ _ _ (gV g d)
    |goto i=>exact l _ _ _ (gV g d)
    |ret=>exact l _ _ _ (gV g d)
  | _=>cases j
theorem IF {t:TypeId} {x:a4} {K c:cA} {w':ak} (e:∀ bw v,w.cell? bw=some v->w'.cell? bw=some v) (g:∀ v,K v w->c v w') (h:nT P t x K w):nT P t x c w':=by
 have b:∀ (vs:ax) (bw:aU) (i:Nat),b6 w bw i vs->b6 w' bw i vs:=by
  intro vs;induction vs with
  |nil=>intro bw i h;exact trivial
  |cons v vs j=>intro bw i h;exact ⟨e _ _ h.1,j _ _ h.2⟩
 unfold nT at h ⊢;split at h
 ·split at h
  ·exact h.elim
  ·rename_i inf f;split at h
   ·rename_i a;split at h
    ·rename_i k;exact CF (λvs h=>⟨b _ _ _ h.1,g _ h.2⟩) h
    ·exact h.elim
   ·rename_i a;split at h
    ·exact h.elim
    ·rename_i d ar;exact CE (λv h=>⟨e _ _ h.1,g _ h.2⟩) h
 ·exact h.elim
theorem Av {P:Program} {env:ax} {w w':ak} (b:∀ bw v,w.cell? bw=some v->w'.cell? bw=some v):∀ (rs:List ResultVar) {K:ax->Prop},nv P rs env K w->nv P rs env K w'
 | [],K,h=>h
 | .tmp t::rs,K,h=>Av b rs h
 | .cell a t::rs,K,h=>IF b (λv h=>⟨rfl,Av b rs h.2⟩) h
theorem LQ {fn:Func} {D:Nat} (j:∀ v,R v w->w.heap[D]?=some (.deferred (some []))/\hi (.returned v) (w.putObj D (.deferred none)))
  (h:mM [{ target:=.collected D,args:=#[] }] (dB P fn R) e a w):bodyPostM Fence.wide n P fn hi e a w:=by
 have main:∀ env,nv P fn.results.toList env (λvs=>R (sr vs) w) w->LeavesInM Fence.wide n P fn env.toArray hi [{ target:=.collected D,args:=#[] }] .returning w:=by
  intro env h;obtain ⟨vs,_,f⟩:=xP _ _ h;have g:=(j _ f).1;have q:∀ bw v,w.cell? bw=some v->(w.putObj D (.deferred none)).cell? bw=some v:=by
   intro bw v h;obtain ⟨o,k,p⟩:=cells_of_cell h;have d:bw.block≠D:=by intro e;rw [e,g] at k;cases k;cases p
   rw [World.cell?_of_block (w:=w)]
   ·exact h
   ·exact World.putObj_heap_other d
  obtain ⟨v,an,f⟩:=xi (P:=P) (fn:=fn) (env:=env) (w:=w.putObj D (.deferred none)) (K:=λv=>R v w) (Av q _ h);exact ⟨by simp,.inl ⟨_,_,rfl,run_takeDeferred g,⟨_,an,(j v f).2⟩⟩⟩
 obtain ⟨l,env,rfl,b⟩:=mj h;cases e with
 |normal=>exact main env b
 |ret=>exact main env b
 |panic c=>exact absurd rfl (l.1 c)
 |outgrown=>exact absurd rfl l.2
 |exit i=>exact b.elim
 |goto i=>exact b.elim
theorem Lo {fn:Func} (f:∀ v,R v w->hi (.returned v) w)
  (h:mM [] (dB P fn R) e a w):bodyPostM Fence.wide n P fn hi e a w:=by
 have main:∀ env,nv P fn.results.toList env (λvs=>R (sr vs) w) w->LeavesInM Fence.wide n P fn env.toArray hi [] .returning w:=by intro env h;obtain ⟨v,an,g⟩:=xi (P:=P) (fn:=fn) (env:=env) (w:=w) (K:=λv=>R v w) h;exact ⟨_,an,f v g⟩
 obtain ⟨d,env,rfl,b⟩:=mj h;cases e with
 |normal=>exact main env b
 |ret=>exact main env b
 |panic c=>exact absurd rfl (d.1 c)
 |outgrown=>exact absurd rfl d.2
 |exit i=>exact b.elim
 |goto i=>exact b.elim
def oY (K:ax->aE):Exit->ax->aE
 | .exit i,env,w=>match Nat.beq i 77 with
  |true=>K env w
  |false=>False
 | _,_,_=>False
theorem Lp {fn:Func} (h:mM ds (ki (bG P fn R (oY K))) e a w):mM ds (dB P fn R) e a w:=by
 obtain ⟨f,env,rfl,b⟩:=mj h;cases e with
 |normal=>exact b.elim
 |ret=>exact gV b f
 |panic c=>exact absurd rfl (f.1 c)
 |outgrown=>exact absurd rfl f.2
 |exit i=>
  simp only [ki] at b;cases d:Nat.beq i 77 with
  |true=>rw [d] at b;exact b.elim
  |false=>rw [d] at b;have b:oY K (.exit i) env w:=b;simp only [oY,d] at b
 |goto i=>exact b.elim
end
section
open IntKind
variable (w:ak) (R:cA) {s:al} {a b:Nat} {i k:Int} {A B:aU} {X Y Z:a4} {j:aq} {F:Bool}
theorem UV:bf prog f228 [ae s a b,ab i] R w=(aR w #[ab 0,a6] 271 λh m=>cond ((a:Int) != 120) (a8 m (af h 0) 0 [ab 0,a6] λj=>hK j (af h 0) λd=>j=j/\R (.tuple #[d.val,ad false]) j) (hM s a b 8 (a:Nat) (b:Nat) 1 λo u t=>Calls prog 251 #[ae o u t,ab i] m λe p=>bX.ex λf=>∃ c,e=.returned (.tuple #[f.val,ab c])/\aR p #[ab 0,a6] 271 λl q=>a8 q (af l 0) 0 f.cells λn=>hK n (af l 0) λr=>a8 n (af h 0) 0 r.cells λk=>hK k (af h 0) λg=>k=k/\R (.tuple #[g.val,ad ((c:Int) == 0)]) k)):=by kernel_rfl
theorem T2:bf prog f246 [ae s a b,ab i] R w=(aR w #[ab 0,a6] 271 λm y=>Calls prog 228 #[ae s a b,ab i] y λe z=>bX.ex λh=>∃ c,e=.returned (.tuple #[h.val,ad c])/\aR z #[ab 0,a6] 271 λu v=>a8 v (af u 0) 0 h.cells λt=>cond (!c) (a8 t (af m 0) 0 [ab 0,a6] λn=>hK n (af m 0) λj=>n=n/\R (.tuple #[j.val,ad false]) n) (bt t (af u 0) λd=>hs 214 #[ab d] t λf g o=>bk s a 0 1 λA=>dp o A λx=>cond (f != x) (a8 o (af m 0) 0 [ab 0,a6] λp=>hK p (af m 0) λk=>p=p/\R (.tuple #[k.val,ad false]) p) (hK o (af u 0) λr=>a8 o (af m 0) 0 r.cells λq=>hK q (af m 0) λl=>q=q/\R (.tuple #[l.val,ad true]) q))):=by kernel_rfl
noncomputable def dX:Code:=nK (bo f251) [1,1,1,1,1,1,0,1,0]
def F_ (e:al) (a b:Nat) (s1:Int) (c:aU) (s8 d:a4) (j:aq):aq:=ae e a b::ab s1::ag j 0 2 (.pointer (some c)::ag j 2 3 (s8::ag j 5 42 (d::ag j 47 22 [])))
def ii (e:al) (a b:Nat) (s1:Int) (c:aU) (s8:a4) (d:Bool) (f:a4) (j:aq):aq:=ae e a b::ab s1::ag j 0 2 (.pointer (some c)::ag j 2 3 (s8::ag j 5 18 (ad d::ag j 23 23 (f::ag j 46 22 []))))
def Ga (e:al) (a b:Nat) (s1:Int) (c:aU) (s8 d:a4) (j:aq):aq:=ae e a b::ab s1::ag j 0 2 (.pointer (some c)::ag j 2 3 (s8::ag j 5 42 (d::ag j 47 22 [])))
def qz (e:al) (a b:Nat) (s1:Int) (f g:aU) (h:Int) (s8 c d:a4) (j:aq):aq:=ae e a b::ab s1::ag j 0 2 (.pointer (some f)::ag j 2 1 (.pointer (some g)::ab h::s8::ag j 3 41 (c::d::ag j 44 22 [])))
def zX (e:al) (a b:Nat) (s1:Int) (c d:aU) (f:Int) (j:aq):aq:=ae e a b::ab s1::ag j 0 2 (.pointer (some c)::ag j 2 1 (.pointer (some d)::ab f::ag j 3 66 []))
def w3 (a b:aU) (c:Bool) (j:aq):aq:=ag j 0 4 (.pointer (some a)::ag j 4 1 (.pointer (some b)::ag j 5 64 (ad c::ag j 69 2 [])))
def Gb (a b:aU) (j:aq):aq:=ag j 0 4 (.pointer (some a)::ag j 4 1 (.pointer (some b)::ag j 5 67 []))
theorem UW (h:Exit->aq->aE):W prog dX ((ae s a b)::(ab i)::(bd 72 [])) (bG prog f251 R h) w=(aR w #[ab 0,a6] 271 λf j=>du 203 #[ab i] j λc g=>cond (!c) (a8 g (af f 0) 0 [ab 0,a6] λe=>hK e (af f 0) λd=>e=e/\R (.tuple #[d.val,ab 18]) e) (W prog (sub dX [1,1]) (F_ s a b i (af f 0) undef undef (bd 2 (ab 0::bd 2 (ab i::ad c::ad (!c)::bd 61 [])))) (bG prog f251 R h) g)):=by kernel_rfl
theorem Sh (env:aq) (w:ak) (Q:Exit->aq->aE):W prog (sub dX [1,1]) env Q w=W prog (sub dX [1,1,0]) env (aV (λenv w=>W prog (sub dX [1,1,1]) env Q w) Q) w:=by rw [show sub dX [1,1]=.seq (sub dX [1,1,0]) (sub dX [1,1,1]) by kernel_rfl];generalize sub dX [1,1,0]=a;generalize sub dX [1,1,1]=b;kernel_rfl
theorem Sl (env:aq) (w:ak) (Q:Exit->aq->aE):W prog (sub dX [1,1,0]) env Q w=W prog (sub dX [1,1,0,0]) env (aV (λenv w=>W prog (sub dX [1,1,0,1]) env Q w) Q) w:=by rw [show sub dX [1,1,0]=.seq (sub dX [1,1,0,0]) (sub dX [1,1,0,1]) by kernel_rfl];generalize sub dX [1,1,0,0]=a;generalize sub dX [1,1,0,1]=b;kernel_rfl
theorem TN (c:Exit->aq->aE):W prog (sub dX [1,1,0,0]) (F_ s a b i A X Y j) (bG prog f251 R c) w=(cond ((a:Int)<2) (c .normal (ii s a b i A X true Y (ag j 0 9 (ae s a b::c9 a::ad ((a:Int)<2)::ad true::bd 4 (ad true::ad true::bd 4 (ag j 24 45 []))))) w) (bk s a 0 1 λe=>dp w e λx=>cond (x>=1073741824) (c .normal (ii s a b i A X true Y (ag j 0 9 (ae s a b::c9 a::ad ((a:Int)<2)::ad false::ae s a b::jp e::ah x::ad (x>=1073741824)::ad (x>=1073741824)::ad true::bd 4 (ag j 24 45 [])))) w) (bk s a 1 1 λf=>dp w f λd=>c .normal (ii s a b i A X (decide ((d:Int)>12)) Y (ag j 0 9 (ae s a b::c9 a::ad ((a:Int)<2)::ad false::ae s a b::jp e::ah x::ad (x>=1073741824)::ad (x>=1073741824)::ad false::ae s a b::jp f::ah d::ad (d>12)::ag j 24 45 []))) w))):=by kernel_rfl
theorem FC (d:Exit->aq->aE):W prog (sub dX [1,1,0,1]) (ii s a b i A X F Y j) (bG prog f251 R d) w=(cond F (a8 w A 0 [ab 0,a6] λc=>hK c A λg=>c=c/\R (.tuple #[g.val,ab 14]) c) (d .normal (Ga s a b i A X Y (ag j 0 23 (ad F::ag j 23 45 []))) w)):=by kernel_rfl
theorem TO (m:Exit->aq->aE):W prog (sub dX [1,1,1]) (Ga s a b i A X Y j) (bG prog f251 R m) w=(bk s a 0 1 λp=>dp w p λx=>aR w #[ab 0,a6] 271 λn q=>a8 q (af n 0) 0 [ab (i64.wrap x),a6] λe=>bk s a 1 1 λg=>dp e g λc=>cond ((a:Int)<(i64.wrap ((i64.wrap (2+(i64.wrap (9 * (i64.wrap c)))))+1))) (a8 e A 0 [ab 0,a6] λd=>hK d A λh=>d=d/\R (.tuple #[h.val,ab 14]) d) (hM s a b 2 (i64.wrap ((i64.wrap ((i64.wrap (2+(i64.wrap (9 * (i64.wrap c)))))+1)) - 1)) (b:Nat) 1 λk l o=>SL 253 #[ae k l o,ab 9] e λf r=>m (.exit 77) (qz s a b i A (af n 0) (i64.wrap ((i64.wrap (2+(i64.wrap (9 * (i64.wrap c)))))+1)) X f Y (aF j 0::aF j 1::aF j 2::ag j 5 20 (ae s a b::jp p::ah x::ab (i64.wrap x)::.agg #[ab (i64.wrap x),a6]::ae s a b::jp g::ah c::ab (i64.wrap c)::ab (i64.wrap (9 * (i64.wrap c)))::ab (i64.wrap (2+(i64.wrap (9 * (i64.wrap c)))))::ab (i64.wrap ((i64.wrap (2+(i64.wrap (9 * (i64.wrap c)))))+1))::ae s a b::c9 a::ab (i64.wrap ((i64.wrap (2+(i64.wrap (9 * (i64.wrap c)))))+1))::ad ((a:Int)<(i64.wrap ((i64.wrap (2+(i64.wrap (9 * (i64.wrap c)))))+1)))::aF j 41::ae s a b::ab (i64.wrap ((i64.wrap (2+(i64.wrap (9 * (i64.wrap c)))))+1))::ab (i64.wrap ((i64.wrap ((i64.wrap (2+(i64.wrap (9 * (i64.wrap c)))))+1)) - 1))::ae k l o::ag j 47 22 []))) r)):=by kernel_rfl
theorem Si (h:al) (a b:Nat) (s1:Int) (i k:aU) (l:Int) (s8 c d:a4) (y:al) (f g:Nat) (j:aq) (w:ak) (e:aq->aE):W prog (sb f251 [1,1,1,1,1,1,0,1,0,0]) (qz h a b s1 i k l s8 c (ae y f g) (ag j 0 66 [])) (aV e λ_ _ _=>False) w=(e (qz h a b s1 i k l (ae y f g) c (ae y f g) (ag j 0 66 [])) w):=by kernel_rfl
theorem Sm (q:al) (a b:Nat) (s1:Int) (r e:aU) (s:Int) (s8 c d:a4) (y:al) (f g:Nat) (j:aq) (w:ak) (p:aq->aE):W prog (sb f251 [1,1,1,1,1,1,0,1,0,1,0]) (qz q a b s1 r e s (ae y f g) c (ae y f g) (ag j 0 66 [])) (aV p λ_ _ _=>False) w=(cq w λw1 o=>fg o (bM e 1) λh i k=>SM 254 #[ae y f g] w1 λn t=>o t/\aR t n.cells.toArray 73 λb1 u=>o u/\c6 37 (ae h i k) (ae (bm b1) 1 1) u λap l m x=>cH x (bM e 1) (ae ap l m) λz=>p (qz q a b s1 r e s (ae y f g) c (ae y f g) (ag j 0 44 (bI e 1::ae h i k::ae y f g::n.val::ae (bm b1) 1 1::ae ap l m::bI e 1::ag j 51 15 []))) z):=by kernel_rfl
theorem Sn:(qz s a b i A B k X Y Z j)=(zX s a b i A B k (aF j 0::aF j 1::aF j 2::X::ag j 3 41 (Y::Z::ag j 44 22 []))):=by kernel_rfl
theorem Sj (env:aq) (w:ak) (Q:Exit->aq->aE):W prog (sub dX [1,1,1,1,1,1,1]) env Q w=W prog (sub dX [1,1,1,1,1,1,1,0]) env (aV (λenv w=>W prog (sub dX [1,1,1,1,1,1,1,1]) env Q w) Q) w:=by rw [show sub dX [1,1,1,1,1,1,1]=.seq (sub dX [1,1,1,1,1,1,1,0]) (sub dX [1,1,1,1,1,1,1,1]) by kernel_rfl];generalize sub dX [1,1,1,1,1,1,1,0]=a;generalize sub dX [1,1,1,1,1,1,1,1]=b;kernel_rfl
theorem So (env:aq) (w:ak) (Q:Exit->aq->aE):W prog (sub dX [1,1,1,1,1,1,1,0]) env Q w=W prog (sub dX [1,1,1,1,1,1,1,0,0]) env (aV (λenv w=>W prog (sub dX [1,1,1,1,1,1,1,0,1]) env Q w) Q) w:=by rw [show sub dX [1,1,1,1,1,1,1,0]=.seq (sub dX [1,1,1,1,1,1,1,0,0]) (sub dX [1,1,1,1,1,1,1,0,1]) by kernel_rfl];generalize sub dX [1,1,1,1,1,1,1,0,0]=a;generalize sub dX [1,1,1,1,1,1,1,0,1]=b;kernel_rfl
theorem TP (l:Exit->aq->aE):W prog (sub dX [1,1,1,1,1,1,1,0,0]) (zX s a b i A B k j) (bG prog f251 R l) w=(cq w λv d=>sm d B λr=>cm 167 #[r.val,ab i] v λf m=>d m/\cond (f != 0) (l .normal (w3 A B true (ae s a b::ab i::aF j 0::aF j 1::aF j 2::ab k::ag j 3 51 (r.val::ab i::ab f::ad ((f:Int) != 0)::ad true::bd 7 [aF j 67,aF j 68]))) m) (sm d B λt=>hM s a b 0 k (b:Nat) 1 λn p u=>eg 210 #[t.val] m λg h c o=>d o/\du 255 #[ae g h c,ae n p u] o λe q=>d q/\l .normal (w3 A B (!e) (ae s a b::ab i::aF j 0::aF j 1::aF j 2::ab k::ag j 3 51 [r.val,ab i,ab f,ad ((f:Int) != 0),ad false,t.val,ae g h c,ae s a b,ab k,ae n p u,ad e,ad (!e),aF j 67,aF j 68])) q)):=by kernel_rfl
theorem TQ (b:Exit->aq->aE):W prog (sub dX [1,1,1,1,1,1,1,0,1]) (w3 A B F j) (bG prog f251 R b) w=(cond F (a8 w A 0 [ab 0,a6] λa=>hK a A λd=>a=a/\R (.tuple #[d.val,ab 14]) a) (b .normal (Gb A B (ag j 0 69 [ad F,aF j 69,aF j 70])) w)):=by kernel_rfl
theorem TR (b:Exit->aq->aE):W prog (sub dX [1,1,1,1,1,1,1,1]) (Gb A B j) (bG prog f251 R b) w=(hK w B λr=>a8 w A 0 r.cells λa=>hK a A λc=>a=a/\R (.tuple #[c.val,ab 0]) a):=by kernel_rfl
theorem Vd (n:bX) (j:bX):bf prog f252 [n.val,j.val] R w=(aR w n.cells.toArray 271 λl p=>aR p j.cells.toArray 271 λm e=>bt e (af l 0) λa=>bt e (af m 0) λb=>cond (a == b) (b4 e (af l 1) λc d f=>b4 e (af m 1) λg h i=>du 256 #[ae c d f,ae g h i] e λk o=>R (ad k) o) (R (ad false) e)):=by kernel_rfl
theorem Ve:bf prog f254 [ae s a b] R w=(aR w #[ab 0,ah 0,ah 0,ah 0,ah 0,ah 0,ah 0,ah 0,ah 0] 73 λj o=>cq o λp h=>bk s a 0 1 λq=>jF h q λx=>bk s a 1 1 λc=>jF h c λt=>aR p #[ab 0,ah 0,ah 0,ah 0,ah 0,ah 0,ah 0,ah 0,ah 0] 73 λf i=>h i/\a8 i (af f 0) 0 [ab (i64.wrap (if (256:Int)<x then (256:Int) else x)),ah t,ah 0,ah 0,ah 0,ah 0,ah 0,ah 0,ah 0] λm=>∀ k,k=m.drew->hM s a b 2 (a:Nat) (b:Nat) 1 λl u n=>∃ r,∃ g,(Builtin.copy_ #[94,94] 3 #[ae (some (af f 2)) 7 7,ae l u n]).run prog k=.ok (ab r) g/\ht g (af f 0) λv=>a8 g (af j 0) 0 v.cells λe=>ht e (af j 0) λd=>e=e/\R d.val e):=by kernel_rfl
end
section
open IntKind
variable (w:ak) (R:cA) {s:al} {a b:Nat} {i:Int} {X:a4} {A B:aU} {j:aq}
theorem QI:bf prog f253 [ae s a b,ab i] R w=(aR w #[ae s a b] 94 λe f=>aR f #[ab i] 3 λc d=>bt d (af c 0) λx=>cond (x<1) (W prog (sb f253 [1,0,1,0]) [ae s a b,ab i,a9 e,a9 c,.nilFunc,ab x,ad (x<1),undef,undef] (aQ f253 [1,1] R) d) (R (.func (.func 257) #[] #[a9 e,a9 c]) d)):=by kernel_rfl
def v' (a:a4) (s1 s2:aU) (b:Int) (j:aq):aq:=a::.pointer (some s1)::.pointer (some s2)::ag j 0 1 (ab b::ag j 1 26 [])
theorem Qf:bf prog f257 [X,a9 a,a9 b] R w=(cu prog (c0 f257 [1,0,0]) (v' X (af a 0) (af b 0) 0 (bd 27 [])) (aO 0 (b0 f257 R)) w):=by kernel_rfl
theorem PB (r:aq->aE):W prog (sb f257 [1,0,0]) (v' X A B i j) (aV r (aO 0 (b0 f257 R))) w=(b4 w A λx a b=>cond (i<(a:Nat)) (cq w λs v=>cL v B λo=>fg v A λt c d=>hM t c d i (c:Nat) (d:Nat) 1 λy n z=>b4 s A λu f g=>hM u f g i (i64.wrap (i+(if (n:Int)<o then (n:Int) else o))) (i64.wrap (i+(if (n:Int)<o then (n:Int) else o))) 1 λm k l=>iS prog X #[ae m k l] s λe q=>∃ h,e=.returned (ad h)/\cond (!h) (R (.tuple #[]) q) (bt q B λp=>r (v' X A B (i64.wrap (i+p)) [aF j 0,ab (if (n:Int)<o then (n:Int) else o),ab i,ae x a b,c9 a,ad (i<(a:Nat)),ab i,ab p,ab (i64.wrap (i+p)),ab o,ae t c d,ab i,ae y n z,c9 n,ab (if (n:Int)<o then (n:Int) else o),X,ae u f g,ab i,ab i,ab (if (n:Int)<o then (n:Int) else o),ab (i64.wrap (i+(if (n:Int)<o then (n:Int) else o))),ab i,ab (if (n:Int)<o then (n:Int) else o),ab (i64.wrap (i+(if (n:Int)<o then (n:Int) else o))),ae m k l,ad h,ad (!h)]) q)) (R (.tuple #[]) w)):=by kernel_rfl
end
end Go.Proofs.YtmkljjbioomepaaGreat
