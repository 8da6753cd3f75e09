import Derived.Test.YtmkljjbioomepaaGreatd20
set_option linter.all false
namespace Go.Proofs.YtmkljjbioomepaaGreat
open Go.Proofs.Tryz Go.bs
variable {C C':bh} {F cy qn:aE} {c i j k most:Nat} {d:Option aM} {l:cA} {p:cR} {w:ak}
section
def lp (C:bh):Nat:=if C.alive then 1 else 0
def aE.da (F:aE):Nat:=(F.aR.map lp).sum
def mg (F:aE):Prop:=F.bU.length+5 * F.da<=1000
theorem zy:∀ {cs:List bh} {i:Nat} {C C':bh},cs[i]?=some C->((cs.set i C').map lp).sum+lp C=(cs.map lp).sum+lp C'
 | [],i,C,C',h=>by simp at h
 |a::cs,0,C,C',h=>by simp at h;subst h;simp;omega
 |a::cs,i+1,C,C',h=>by have:=zy (cs:=cs) (i:=i) (C:=C) (C':=C') (by simpa using h);simp at this ⊢;omega
structure cd (F:aE):Prop where
 b8:Good F
 gy:mg F
theorem cd.le (h:cd F):F.bU.length<=1000:=by have:=h.gy;unfold mg at this;omega
theorem mg.dO (h:mg F) (b:F.aR[i]?=some C) (a:C'.alive=C.alive):mg { F with aR:=F.aR.set i C' }:=by
 have:=zy (C':=C') b;have e:lp C'=lp C:=by unfold lp;rw [a]
 unfold mg aE.da at *;dsimp only;omega
theorem cd.take {F:aE} (h:cd F) (c:Int):cd (F.take c).2:=by
 refine ⟨h.b8.take c,?_⟩;unfold aE.take;cases b:F.cE c with
 |none=>exact h.gy
 |some C=>
  obtain ⟨d,a⟩:=aE.ox b;dsimp only;split
  ·exact h.gy
  ·cases e:C.batch with
   |none=>exact h.gy
   |some ds=>
    dsimp only;split
    ·exact h.gy
    ·exact h.gy.dO a rfl
theorem cd.post {F:aE} (h:cd F) (c:Int) (vs:List aQ):cd (F.post c vs).2:=by
 refine ⟨h.b8.post c vs,?_⟩;unfold aE.post;cases b:F.cE c with
 |none=>exact h.gy
 |some C=>
  obtain ⟨d,a⟩:=aE.ox b;dsimp only;repeat' split
  all_goals first | exact h.gy | exact h.gy.dO a (AZ vs 0 C).1
theorem cd.iX {F:aE} (h:cd F) (i:Nat):cd (F.iX i).2:=by
 refine ⟨h.b8.iX i,?_⟩;unfold aE.iX;split
 ·exact h.gy
 ·split
  ·exact h.gy
  ·dsimp only;have:=h.gy;unfold mg aE.da at *;dsimp only;have a:∀ (x:cR) (b:Prop) [Decidable b],(if b then F.bU.eraseIdx i else F.bU.set i x).length<=F.bU.length:=by
    intro x b _;split
    ·exact List.length_eraseIdx_le _ _
    ·simp
   exact lE (Nat.add_le_add_right (a _ _) _) this
theorem cd.step {F:aE} (h:cd F) (x:fv):cd (F.step x).2:=by
 refine ⟨h.b8.step x,?_⟩;unfold aE.step;split
 ·exact (h.iX _).gy
 split
 ·exact h.gy
 split
 ·exact h.gy
 rename_i C b;obtain ⟨c,a⟩:=aE.ox b;split
 ·exact h.gy
 split
 ·rename_i l n d e;split
  ·exact h.gy
  dsimp only;refine mg.dO (F:={ F with nodes:=_ }) h.gy a ?_;cases (l.pair.step n).2.2<;>rfl
 ·exact h.gy
theorem cd.drop {F:aE} (h:cd F) (c:Int):cd (F.drop c).2:=by
 refine ⟨h.b8.drop c,?_⟩;unfold aE.drop;split
 ·exact h.gy
 ·have:=h.gy;unfold mg aE.da at *;exact lE (Nat.add_le_add_right (List.length_eraseIdx_le _ _) _) this
theorem cd.die {F:aE} (h:cd F) (c:Int):cd (F.die c).2:=by
 refine ⟨h.b8.die c,?_⟩;unfold aE.die;cases f:F.cE c with
 |none=>exact h.gy
 |some C=>
  obtain ⟨l,b⟩:=aE.ox f;have d:=h.b8.ok.aW _ _ b;dsimp only;split
  ·exact h.gy
  ·rename_i e;have a:C.alive=true:=by simpa using e
   have n:=zy (C':={ C with alive:=false,az:=[],batch:=none,waiting:=0 }) b;have g:lp C=1:=by unfold lp;rw [a];rfl
   have i:lp { C with alive:=false,az:=[],batch:=none,waiting:=0 }=0:=rfl;have j:((C.az.map cA.pair).filter (λp=>decide (0<p.a3.length))).length<=C.az.length:=by have:=vA (λp:cR=>decide (0<p.a3.length)) (C.az.map cA.pair);simpa using this
   have k:C.az.length<=5:=by rw [d.az,a];exact h.b8.ok.nodes.2
   have:=h.gy;unfold mg aE.da at *;dsimp only;rw [dy];omega
theorem cd.nS {F:aE} (h:cd F) (i:Nat) {n':aN} (a:n'.words.length=F.lines * 8):cd { F with nodes:=F.nodes.set i n' }:=⟨h.b8.nS i a,h.gy⟩
theorem cd.fresh {n c lines:Nat} (d:1<=n/\n<=5) (a:1<=c/\c<=6) (b:98<=lines/\lines<=256):cd (aE.fresh n c lines):=by
 refine ⟨Good.fresh d a b,?_⟩;have:∀ (c:Nat),(((List.range c).map (hl n)).map lp).sum=c:=by
  intro c;induction c with
  |zero=>rfl
  |succ c e=>rw [ku,jn,jn,List.sum_append,e];rfl
 unfold mg aE.da;show 0+5 * (((List.range c).map (hl n)).map lp).sum<=1000;rw [this];omega
def t7 (F:aE) (sch:a8) (n:Nat):Nat:=if n<sch.length then (sch.getD n 0 % (F.dU.length:Int)).toNat else 0
def fC (F:aE) (sch:a8) (n:Nat):Bool×aE:=match F.dU[t7 F sch n]? with
 |none=>(false,F)
 |some x=>F.step x
theorem cd.fC {F:aE} (h:cd F) (sch:a8) (n:Nat):cd (fC F sch n).2:=by
 unfold Go.Proofs.YtmkljjbioomepaaGreat.fC;split
 ·exact h
 ·exact h.step _
theorem Kc (h:n9 F):F.dU.length<=30+F.bU.length:=by
 unfold aE.dU;rw [dy,AG];have d:=AF (n:=5) 0 F.aR λC b=>by obtain ⟨i,c⟩:=ei.1 b;have a:=(h.aW i C c).az;have e:=h.nodes.2;split at a<;>omega
 have f:=h.aR.2;omega
theorem Nl {A:a6} {aw:Nat->Tag} {aJ:Nat} {X:bR} (h:b6 A aw w aJ X) (k:cd X.pure) {sch:a8} {sa:an} {sc:Nat} (E:bk w sa (is sch)) (C:∀ x ∈ sch,d9 x) (n:Nat) :
  bb 35 [ptr aJ,.slice sa sch.length sc,.int .i64 n] w λv w'=>v=.bool (fC X.pure sch n).1/\dR A aw w aJ (fC X.pure sch n).2 w' λ_=>True:=by
 have u:X.bU.length<=100000000:=by have:=k.le;simp [bR.pure] at this;omega
 refine bd Tryz.func35 ?_;rw [ptr,WB];refine aD (Ks h k.b8.ok u) ?_;rintro v w1 ⟨a,cap,rfl,c⟩;have l:=h.new c.new;refine ⟨_,_,_,rfl,d' (λz=>?_) (λz=>?_)⟩
 ·have r:X.pure.dU=[]:=fF (by omega);have:fC X.pure sch n=(false,X.pure):=by unfold fC;rw [r];rfl
  rw [this];exact ⟨rfl,dR.same h c.new trivial⟩
 ·refine bc (λD=>?_) (λD=>?_)
  ·have q:n<sch.length:=by omega
   have t:sch[n]?=some sch[n]:=bE q;have f:(is sch)[n]?=some (.int .i64 sch[n]):=by simp [is,t]
   have p:=C _ (b5 t);rcases E.new c.new with he | ⟨b,o,rfl,B⟩
   ·rw [he] at f;simp at f
   refine ej (by omega) (by omega) ⟨sch[n],by simpa using B n _ f,?_⟩;have hlen:X.pure.dU.length<=1000000000:=by have G:=k.le;have H:=Kc k.b8.ok;omega
   refine aD (tt _ _ _ p (by omega)) ?_;rintro v I ⟨rfl,rfl⟩;have s:0<=sch[n] % (X.pure.dU.length:Int)/\sch[n] % (X.pure.dU.length:Int)<X.pure.dU.length:=⟨vm _ (by omega),vG _ (by omega)⟩;rw [if_neg (by omega)];refine ⟨_,rfl,?_⟩;have i:t7 X.pure sch n=(sch[n] % (X.pure.dU.length:Int)).toNat:=by unfold t7;rw [if_pos q,dq,t];rfl
   have d:X.pure.dU[t7 X.pure sch n]?=some X.pure.dU[t7 X.pure sch n]:=bE (by omega);have j:fC X.pure sch n=X.pure.step X.pure.dU[t7 X.pure sch n]:=by unfold fC;rw [d]
   obtain ⟨y,dw,rfl,e,_⟩:=c.own.rd.row (B3 _) (by omega) (B4 d);refine ej s.1 s.2 ?_;rw [<-i];refine ⟨_,_,_,e,?_⟩;refine aD (DX l k.b8.ok X.pure.dU[t7 X.pure sch n]) ?_;rintro v F ⟨rfl,g⟩;rw [j];exact ⟨_,rfl,rfl,dR.trans (h.refl c.new) g⟩
  ·have i:t7 X.pure sch n=0:=by unfold t7;rw [if_neg (by omega)]
   have d:X.pure.dU[0]?=some X.pure.dU[0]:=bE (by omega);have j:fC X.pure sch n=X.pure.step X.pure.dU[0]:=by unfold fC;rw [i,d]
   obtain ⟨y,dw,rfl,e,_⟩:=c.own.rd.row (B3 _) (by omega) (B4 d);refine ej (by omega) (by omega) ?_;refine ⟨_,_,_,e,?_⟩;refine aD (DX l k.b8.ok X.pure.dU[0]) ?_;rintro v F ⟨rfl,g⟩;rw [j];exact ⟨_,rfl,rfl,dR.trans (h.refl c.new) g⟩
structure km where
 at_:Int
 kind:Int
 a:Int
def km.cells (e:km):ax:=[.int .i64 e.at_,.int .i64 e.kind,.int .i64 e.a]
def km.val (e:km):a4:=.agg e.cells.toArray
structure km.t_ (e:km):Prop where
 at_:d9 e.at_
 kind:d9 e.kind
 a:d9 e.a
def aE.nS (F:aE) (i:Nat) (f:aN->aN):aE:=match F.nodes[i]? with
 |none=>F
 |some n=>{ F with nodes:=F.nodes.set i (f n) }
def QU (n:aN):aN:={ n with down:=true }
def zR (n:aN):aN:=n.back.1
theorem Kl (n:aN):(zR n).words.length=n.words.length:=by unfold zR aN.back;split<;>simp
theorem cd.Hf (h:cd F) (i:Nat) {f:aN->aN} (a:∀ n,(f n).words.length=n.words.length):cd (F.nS i f):=by
 unfold aE.nS;split
 ·exact h
 ·rename_i n b;exact h.nS i (by rw [a];exact h.b8.ok.words n (b5 b))
def aE.uF (F:aE) (cs:a8) (e:km):aE:=
 if e.kind % 4=0 then (if cs.length=0 then F else (F.die (cs.getD (e.a % (cs.length:Int)).toNat 0)).2)
 else if e.kind % 4=1 then F.nS (e.a % (F.nodes.length:Int)).toNat QU
 else if e.kind % 4=2 then F.nS (e.a % (F.nodes.length:Int)).toNat zR
 else (F.drop (e.a % 3)).2
theorem cd.uF {F:aE} (h:cd F) (cs:a8) (e:km):cd (F.uF cs e):=by
 unfold aE.uF;split
 ·split
  ·exact h
  ·exact h.die _
 ·split
  ·exact h.Hf _ λ_=>rfl
  ·split
   ·exact h.Hf _ Kl
   ·exact h.drop _
end
section
structure Conv where
 a9:Type
 O:Type
 next:a9->List (List aM)->List aQ×O×Bool
structure bJ (c:Conv) where
 aW:Int
 bQ:c.a9
 a7:List (List aM)
 e4:Bool
 bad:Bool
 out:c.O
section
variable {c:Conv}
def bJ.told (t:bJ c):bJ c:={ t with e4:=(c.next t.bQ t.a7).2.2,out:=(c.next t.bQ t.a7).2.1 }
def bJ.Ao (t:bJ c):Option (List aM)->bJ c
 |none=>t
 |some d=>{ t with a7:=t.a7++[d] }
def bJ.fail (t:bJ c):bJ c:={ t with e4:=true,bad:=true }
def hG (F:aE) (t:bJ c):aE×bJ c:=
 if 200<t.a7.length then (F,t.fail) else if (c.next t.bQ t.a7).2.2=true then (F,t.told)
 else if (F.post t.aW (c.next t.bQ t.a7).1).1≠0 then ((F.post t.aW (c.next t.bQ t.a7).1).2,t.told.fail) else ((F.post t.aW (c.next t.bQ t.a7).1).2,t.told)
def bN (F:aE) (t:bJ c):aE×bJ c:=
 if t.e4=true\/F.alive t.aW=false\/0<F.waiting t.aW then (F,t) else hG (F.take t.aW).2 (t.Ao (F.take t.aW).1)
def turns:aE->List (bJ c)->aE×List (bJ c)
 |F,[]=>(F,[])
 |F,t::ts=>((turns (bN F t).1 ts).1,(bN F t).2::(turns (bN F t).1 ts).2)
def jU (F:aE) (cs:a8) (n:Nat):List km->aE
 | []=>F
 |e::es=>jU (if e.at_ % 60=n then F.uF cs e else F) cs n es
def f_ (cs sch:a8) (es:List km):Nat->Nat->aE->List (bJ c)->aE×List (bJ c)
 | 0,_,F,l=>(F,l)
 |f+1,n,F,l=>
  if (fC (turns (jU F cs n es) l).1 sch n).1=true then f_ cs sch es f (n+1) (fC (turns (jU F cs n es) l).1 sch n).2 (turns (jU F cs n es) l).2
  else ((fC (turns (jU F cs n es) l).1 sch n).2,(turns (jU F cs n es) l).2)
def dK (F:aE) (l:List (bJ c)) (sch:a8) (es:List km) (most:Nat):aE×List (bJ c):=
 turns (f_ (l.map bJ.aW) sch es most 0 F l).1 (f_ (l.map bJ.aW) sch es most 0 F l).2
def ko (F:aE) (t:bJ c):aE×List (bJ c):=dK F [t] [] [] 20000
theorem cd.tail (h:cd F) (t:bJ c):cd (hG F t).1:=by
 unfold hG;split
 ·exact h
 ·split
  ·exact h
  ·split
   ·exact h.post _ _
   ·exact h.post _ _
theorem cd.bN {F:aE} (h:cd F) (t:bJ c):cd (bN F t).1:=by
 unfold Go.Proofs.YtmkljjbioomepaaGreat.bN;split
 ·exact h
 ·exact (h.take _).tail _
theorem cd.turns:∀ (l:List (bJ c)) {F:aE},cd F->cd (turns F l).1
 | [],_,h=>h
 |t::l,F,h=>by unfold Go.Proofs.YtmkljjbioomepaaGreat.turns;exact cd.turns l (h.bN t)
theorem cd.jU {cs:a8} {n:Nat}:∀ (es:List km) {F:aE},cd F->cd (jU F cs n es)
 | [],F,h=>h
 |e::es,F,h=>by
  unfold Go.Proofs.YtmkljjbioomepaaGreat.jU;refine cd.jU es ?_;split
  ·exact h.uF cs e
  ·exact h
theorem cd.f_ (cs sch:a8) (es:List km):∀ (f n:Nat) {F:aE} (l:List (bJ c)),cd F->cd (f_ cs sch es f n F l).1
 | 0,_,_,_,h=>h
 |f+1,n,F,l,h=>by
  unfold Go.Proofs.YtmkljjbioomepaaGreat.f_;have a:=(cd.turns l (cd.jU (cs:=cs) (n:=n) es h)).fC sch n;split
  ·exact cd.f_ cs sch es f (n+1) _ a
  ·exact a
theorem cd.dK {F:aE} (h:cd F) (l:List (bJ c)) (sch:a8) (es:List km) (most:Nat):cd (dK F l sch es most).1:=cd.turns _ (cd.f_ _ _ _ _ _ _ h)
def nb (t:bJ c):Prop:=t.e4=false->t.a7.length<=200
theorem Kd {t:bJ c}:nb (hG F t).2:=by
 unfold hG;split
 ·intro e;cases e
 ·rename_i a;split
  ·intro _;show t.a7.length<=200;omega
  ·split
   ·intro e;cases e
   ·intro _;show t.a7.length<=200;omega
theorem Ke {t:bJ c} (h:nb t):nb (bN F t).2:=by
 unfold bN;split
 ·exact h
 ·exact Kd
structure ml (qn:aE) (cN:List (bJ c)) (i:Nat) (F:aE) (l:List (bJ c)):Prop where
 ck:(turns F (l.drop i)).1=(turns qn cN).1
 rest:l.take i++(turns F (l.drop i)).2=(turns qn cN).2
 len:l.length=cN.length
theorem ml.start (F:aE) (l:List (bJ c)):ml F l 0 F l:=⟨rfl,rfl,rfl⟩
theorem ml.step {cN l:List (bJ c)} (h:ml qn cN i F l) {t:bJ c} (g:l[i]?=some t):ml qn cN (i+1) (bN F t).1 (l.set i (bN F t).2):=by
 obtain ⟨a,he⟩:=lG.1 g;obtain ⟨b,d,f⟩:=h;rw [oZ a,he,turns] at b d;refine ⟨?_,?_,by rw [o0];exact f⟩
 ·rw [List.drop_set_of_lt (by omega)];exact b
 ·rw [List.drop_set_of_lt (by omega),<-d];rw [H_ (by simpa using a)];have e:List.take i (l.set i (bN F t).2)=List.take i l:=by
   apply jK;intro q;rw [m4,m4];split
   ·rw [gN (by omega)]
   ·rfl
  rw [e];simp
theorem ml.done {cN l:List (bJ c)} (h:ml qn cN i F l) (d:i=l.length):turns qn cN=(F,l):=by obtain ⟨b,a,e⟩:=h;subst d;rw [ru,turns] at b a;rw [h0,jJ] at a;exact Prod.ext b.symm a.symm
theorem ym:∀ (F:aE) (l:List (bJ c)),(turns F l).2.length=l.length
 | _,[]=>rfl
 |F,t::ts=>by simp [turns,ym]
theorem H6 (cs sch:a8) (es:List km):∀ (f n:Nat) (F:aE) (l:List (bJ c)),(f_ cs sch es f n F l).2.length=l.length
 | 0,_,_,_=>rfl
 |f+1,n,F,l=>by
  unfold f_;split
  ·rw [H6,ym]
  ·exact ym _ _
theorem K8 (F:aE) (t:bJ c):∃ a,(ko F t).2=[a]:=by
 have:(ko F t).2.length=1:=by unfold ko dK;rw [ym,H6];rfl
 exact tm.1 this
end
def o' (A:a6) (u:ak) (a:an) (xs:ax):Prop:=bk u a xs/\(xs=[]\/gA A a)
theorem o'.aA {A A':a6} {w w':ak} {a:an} {xs:ax} (h:o' A w a xs) (c:ao A w w') (b:∀ k,k<w.heap.size->A' k->A k):o' A' w' a xs:=⟨h.1.aA c h.2,gA.aA h.1 h.2 b⟩
theorem a1.Ub {e sz n cap g:Nat} {rows:List ax} (h:a1 w e sz (some ⟨g,0,none⟩) n cap rows.flatten) (a:∀ r ∈ rows,r.length=sz) (p:rows.length=n) (k:i<n) {vs:ax} (al:vs.length=sz) (d:∀ v ∈ vs,single v=true) :
  eh w ⟨g,i * sz,none⟩ 0 vs/\a1 (cu w ⟨g,i * sz,none⟩ 0 vs) e sz (some ⟨g,0,none⟩) n cap (rows.set i vs).flatten:=by
 subst p;rcases h.2 with ⟨he,_⟩ | ⟨bW,cur,he,b,c,hm,y,x⟩
 ·cases he
 ·simp at he;subst he;have j:=mx a;have l:i * sz+sz<=rows.length * sz:=by rw [<-h2];exact tj _ k
  have s:rows.length * sz<=cap * sz:=tj _ c;refine ⟨gq b (by omega) d,?_⟩;have t:=b.cu (o:=i * sz) (i:=0) (vs:=vs);refine ⟨?_,.inr ⟨g,_,rfl,t,c,hm,?_,?_⟩⟩
  ·rw [mx (sz:=sz),o0];intro r u;rcases lK u with f | rfl
   ·exact a r f
   ·exact al
  ·rw [pB (by omega)];simp;omega
  ·rw [<-HU a (by omega) al,mb,pB (by omega),pB (by omega),<-x];apply jK;intro q;simp only [m4,qb,iG,dy,kv];repeat' split
   all_goals first | rfl | omega | (congr 1;omega) | skip
   all_goals first | rfl | (exfalso;omega) | skip
end
section
section
variable {S a':Type} (st:a'->S->Option S) (ok:S->Prop)
inductive Norm:Nat->S->S->Prop
 |nil {s:S}:(∀ i,st i s=none)->Norm 0 s s
 |cons {k:Nat} {s s1 t:S} (i:a'):st i s=some s1->Norm k s1 t->Norm (k+1) s t
structure zl:Prop where
 aA:∀ {i:a'} {s s1:S},ok s->st i s=some s1->ok s1
 FP:∀ {i j:a'} {s s1 s2:S},ok s->st i s=some s1->st j s=some s2->s1=s2\/∃ G9,st j s1=some G9/\st i s2=some G9
variable {st ok}
theorem Norm.after (aq:zl st ok) {s t:S} (h:Norm st k s t):∀ {s2:S} {j:a'},ok s->st j s=some s2->∃ c,k=c+1/\Norm st c s2 t:=by
 induction h with
 |nil h=>intro s2 j a b;rw [h j] at b;cases b
 | @cons k s s1 t i f n o=>
  intro s2 j a b;rcases aq.FP a f b with e | ⟨p,g,l⟩
  ·subst e;exact ⟨k,rfl,n⟩
  ·obtain ⟨c,rfl,d⟩:=o (aq.aA a f) g;exact ⟨c+1,rfl,.cons i l d⟩
end
def fe (c j:Nat) (F:aE):Option aE:=match F.aR[c]? with
 |none=>none
 |some C=>match C.az[j]?,F.nodes[j]? with
  |some l,some n=>if l.pair.a3.length=0 then none else some { F with nodes:=F.nodes.set j (l.pair.step n).2.1,aR:=F.aR.set c (C.comes j l (l.pair.step n).1 (l.pair.step n).2.2) }
  | _,_=>none
theorem jR:fe c j F=some cy↔∃ C l n,F.aR[c]?=some C/\C.az[j]?=some l/\F.nodes[j]?=some n/\l.pair.a3.length≠0/\cy={ F with nodes:=F.nodes.set j (l.pair.step n).2.1,aR:=F.aR.set c (C.comes j l (l.pair.step n).1 (l.pair.step n).2.2) }:=by
 unfold fe;constructor
 ·intro h;cases b:F.aR[c]? with
  |none=>rw [b] at h;cases h
  |some C=>
   rw [b] at h;simp only at h;cases a:C.az[j]? with
   |none=>rw [a] at h;cases h
   |some l=>
    rw [a] at h;cases d:F.nodes[j]? with
    |none=>rw [d] at h;cases h
    |some n=>
     rw [d] at h;simp only at h;split at h
     ·cases h
     ·rename_i al;exact ⟨C,l,n,rfl,a,rfl,al,(me h).symm⟩
 ·rintro ⟨C,l,n,b,a,d,al,rfl⟩;rw [b];simp only [a,d,if_neg al]
theorem ya (h:fe c j F=some cy):F.step ⟨-1,c,j⟩=(true,cy):=by
 obtain ⟨C,l,n,b,d,e,al,rfl⟩:=jR.1 h;unfold aE.step;have a:F.cE (c:Int)=some C:=by unfold aE.cE;rw [if_neg (by omega)];simpa using b
 simp only [show ¬ (0:Int)<=-1 by omega,show ¬ (-1:Int) < -1 by omega,if_false,a,show ¬ ((j:Nat):Int)<0 by omega,fD,d,e,if_neg al]
structure kp (C:bh):Prop where
 len:∀ (i:Nat) (l:cA),C.az[i]?=some l->l.bC.length=l.pair.a3.length
 apart:∀ (i j:Nat) (l l':cA),i≠j->C.az[i]?=some l->C.az[j]?=some l'->∀ k ∈ l.bC,k ∉ l'.bC
theorem kC (h:i≠j):(C.comes j l p d).az[i]?=C.az[i]?:=by cases d<;>simp [bh.comes,gN (λe=>h e.symm)]
theorem Kf {l':cA} {p':cR} {a:Option aM} (h:i≠j) (c:d.isSome->a.isSome->l.bC.headD 0≠l'.bC.headD 0):(C.comes i l p d).comes j l' p' a=(C.comes j l' p' a).comes i l p d:=by
 cases d with
 |none=>cases a with
  |none=>simp [bh.comes,th _ _ h]
  |some y=>simp [bh.comes,th _ _ h]
 |some x=>cases a with
  |none=>simp [bh.comes,th _ _ h]
  |some y=>
   have b:=c rfl rfl;unfold bh.comes;simp only [th _ _ h];cases e:C.batch with
   |none=>rfl
   |some ds=>simp only [mc];rw [th _ _ b]
theorem QV (p:cR) (n:aN):((p.step n).2.2=none/\(p.step n).1.a3=p.a3)\/(∃ d,(p.step n).2.2=some d/\(p.step n).1.a3=p.a3.tail):=by
 unfold cR.step;cases al:p.a3 with
 |nil=>left;exact ⟨rfl,al⟩
 |cons x xs=>
  simp only;split
  ·right;exact ⟨_,rfl,by simp [cR.done,al]⟩
  ·split
   ·left;exact ⟨rfl,rfl⟩
   ·right;exact ⟨_,rfl,by simp [cR.done,al]⟩
theorem Kg {n:aN} (e:C.az[j]?=some l):∃ l',(C.comes j l (l.pair.step n).1 (l.pair.step n).2.2).az[j]?=some l'/\((l'.bC=l.bC/\l'.pair.a3=l.pair.a3)\/(l'.bC=l.bC.tail/\l'.pair.a3=l.pair.a3.tail)):=by
 have a:=b3 e;rcases QV l.pair n with ⟨b,c⟩ | ⟨d,b,c⟩
 ·rw [b];exact ⟨{ l with pair:=(l.pair.step n).1 },by simp only [bh.comes];rw [g5 a],.inl ⟨rfl,c⟩⟩
 ·rw [b];exact ⟨⟨(l.pair.step n).1,l.bC.tail⟩,by simp only [bh.comes];rw [g5 a],.inr ⟨rfl,c⟩⟩
theorem kp.comes {C:bh} {j:Nat} {l:cA} {n:aN} (h:kp C) (p:C.az[j]?=some l):kp (C.comes j l (l.pair.step n).1 (l.pair.step n).2.2):=by
 obtain ⟨l',g,w⟩:=Kg (n:=n) p;have f:∀ k ∈ l'.bC,k ∈ l.bC:=λk d=>by
  rcases w with ⟨e,_⟩ | ⟨e,_⟩
  ·rw [e] at d;exact d
  ·rw [e] at d;exact rD d
 refine ⟨λi li b=>?_,λi q li o c b a k d=>?_⟩
 ·by_cases e:i=j
  ·subst e;rw [g] at b;cases b;have hlen:=h.len i l p;rcases w with ⟨r,s⟩ | ⟨r,s⟩
   ·rw [r,s,hlen]
   ·rw [r,s,o1,o1,hlen]
  ·rw [kC e] at b;exact h.len i li b
 ·by_cases e:i=j
  ·subst e;rw [g] at b;cases b;rw [kC (λe=>c e.symm)] at a;exact h.apart i q l o c p a k (f k d)
  ·rw [kC e] at b;by_cases u:q=j
   ·subst u;rw [g] at a;cases a;exact λt=>h.apart i q li l c b p k d (f k t)
   ·rw [kC u] at a;exact h.apart i q li o c b a k d
def EC (c:Nat) (F:aE):Prop:=∀ C,F.aR[c]?=some C->kp C
theorem Cr (c:Nat):zl (fe c) (EC c):=by
 refine ⟨λ{j F B} o h=>?_,λ{i j F B E} o u s=>?_⟩
 ·obtain ⟨C,l,n,p,q,w,al,rfl⟩:=jR.1 h;intro C' a;have d:=b3 p;simp only [g5 d] at a;cases a;exact (o C p).comes q
 ·by_cases e:i=j
  ·subst e;rw [u] at s;exact .inl (me s)
  ·right;obtain ⟨C,l,n,p,q,w,al,rfl⟩:=jR.1 u;obtain ⟨C',l',n',a,k,t,r,rfl⟩:=jR.1 s;rw [p] at a;cases a;have d:=b3 p;have g:=o C p;have hlen:=g.len i l q;have b:=g.len j l' k;have D:l.bC.headD 0≠l'.bC.headD 0:=by
    cases z:l.bC with
    |nil=>rw [z] at hlen;exact absurd hlen.symm al
    |cons x xs=>cases A:l'.bC with
     |nil=>rw [A] at b;exact absurd b.symm r
     |cons y ys=>intro f;have f:x=y:=f;exact g.apart i j l l' e q k x (by rw [z];exact eO) (by rw [A,f];exact eO)
   refine ⟨_,jR.2 ⟨_,l',n',g5 d,by rw [kC (λf=>e f.symm)];exact k,by simp only [gN e];exact t,r,rfl⟩,jR.2 ⟨_,l,n,g5 d,by rw [kC e];exact q,by simp only [gN (λf=>e f.symm)];exact w,al,?_⟩⟩;simp only [List.set_set];rw [th _ _ e,Kf e λ_ _=>D]
end
section
theorem ii {x:fv} {i:Nat}:∀ {ls:List cA} {j:Nat},x ∈ j' i j ls↔∃ q l,ls[q]?=some l/\0<l.pair.a3.length/\x=⟨-1,i,(j+q:Nat)⟩
 | [],j=>by simp [j']
 |l::ls,j=>by
  unfold j';rw [iq,ii (ls:=ls) (j:=j+1)];constructor
  ·rintro (h | ⟨q,l',a,b,c⟩)
   ·split at h
    ·rename_i al;simp at h;exact ⟨0,l,rfl,al,by rw [h];simp⟩
    ·cases h
   ·exact ⟨q+1,l',by simpa using a,b,by rw [c];congr 2;omega⟩
  ·rintro ⟨q,l',a,b,c⟩;cases q with
   |zero=>left;simp at a;subst a;rw [if_pos b,c];simp
   |succ q=>exact .inr ⟨q,l',by simpa using a,b,by rw [c];congr 2;omega⟩
theorem sw {x:fv}:∀ {cs:List bh} {i:Nat},x ∈ jw i cs↔∃ q C,cs[q]?=some C/\x ∈ j' (i+q) 0 C.az
 | [],i=>by simp [jw]
 |C::cs,i=>by
  unfold jw;rw [iq,sw (cs:=cs) (i:=i+1)];constructor
  ·rintro (h | ⟨q,C',a,b⟩)
   ·exact ⟨0,C,rfl,h⟩
   ·exact ⟨q+1,C',by simpa using a,by rw [show i+(q+1)=i+1+q by omega];exact b⟩
  ·rintro ⟨q,C',a,b⟩;cases q with
   |zero=>left;simp at a;subst a;exact b
   |succ q=>exact .inr ⟨q,C',by simpa using a,by rw [show i+1+q=i+(q+1) by omega];exact b⟩
structure g7 (c:Nat) (F:aE):Prop where
 gX:F.bU=[]
 idle:∀ (i:Nat) (C:bh),i≠c->F.aR[i]?=some C->∀ (j:Nat) (l:cA),C.az[j]?=some l->l.pair.a3=[]
 apart:EC c F
 az:∀ C,F.aR[c]?=some C->C.az.length<=F.nodes.length
theorem g7.choice (h:g7 c F) {x:fv} (a:x ∈ F.dU):∃ (j:Nat) (cy:aE),x=⟨-1,c,j⟩/\fe c j F=some cy:=by
 unfold aE.dU at a;rw [h.gX] at a;rcases iq.1 a with a | a
 ·obtain ⟨q,C,b,a⟩:=sw.1 a;obtain ⟨j,l,d,al,rfl⟩:=ii.1 a;rw [gM] at *;by_cases e:q=c
  ·subst e;have f:=b3 d;have hlen:=h.az C b;exact ⟨j,_,by rw [gM],jR.2 ⟨C,l,F.nodes[j],b,d,bE (by omega),by omega,rfl⟩⟩
  ·rw [h.idle q C e b j l d] at al;simp at al
 ·simp [lW] at a
theorem Je (h:fe c j F=some cy):(⟨-1,c,j⟩:fv) ∈ F.dU:=by obtain ⟨C,l,n,a,b,d,al,rfl⟩:=jR.1 h;unfold aE.dU;refine iq.2 (.inl (sw.2 ⟨c,C,a,ii.2 ⟨j,l,b,by omega,?_⟩⟩));simp
theorem g7.fC {c:Nat} {F:aE} (h:g7 c F) (sch:a8) (n:Nat):(fC F sch n=(false,F)/\∀ j,fe c j F=none)\/∃ j cy,fe c j F=some cy/\fC F sch n=(true,cy):=by
 unfold Go.Proofs.YtmkljjbioomepaaGreat.fC;cases f:F.dU[t7 F sch n]? with
 |some x=>obtain ⟨j,cy,rfl,d⟩:=h.choice (b5 f);exact .inr ⟨j,cy,d,ya d⟩
 |none=>
  refine .inl ⟨rfl,λj=>?_⟩
  cases d:fe c j F with
  |none=>rfl
  |some cy=>
   have hm:=Je d;have a:0<F.dU.length:=List.length_pos_of_mem hm;have e:t7 F sch n<F.dU.length:=by
    unfold t7;split
    ·have g:=vm (sch.getD n 0) (b:=(F.dU.length:Int)) (by omega);have i:=vG (sch.getD n 0) (b:=(F.dU.length:Int)) (by omega);omega
    ·exact a
   rw [bE e] at f;cases f
end
section
def Below (C:bh) (k:Nat):Prop:=∀ (i:Nat) (l:cA),C.az[i]?=some l->∀ q ∈ l.bC,q<k
theorem uP {v:aQ} (h:(C.e5 k v).az[i]?=some l):∃ cN,C.az[i]?=some cN/\((l.bC=cN.bC/\l.pair.a3=cN.pair.a3/\v.node.toNat≠i)\/(l.bC=cN.bC++[k]/\l.pair.a3=cN.pair.a3++[v]/\v.node.toNat=i)):=by
 unfold bh.e5 at h;simp only [rA] at h;cases a:C.az[i]? with
 |none=>rw [a] at h;simp at h
 |some cN=>
  rw [a] at h;refine ⟨cN,rfl,?_⟩;by_cases e:v.node.toNat=i
  ·right;simp [e] at h;subst h;exact ⟨rfl,rfl,e⟩
  ·left;simp [e] at h;subst h;exact ⟨rfl,rfl,e⟩
theorem kp.e5 {C:bh} {k:Nat} {v:aQ} (h:kp C) (p:Below C k):kp (C.e5 k v)/\Below (C.e5 k v) (k+1):=by
 refine ⟨⟨λi l n=>?_,λi j l l' o n t q c a=>?_⟩,λi l n q c=>?_⟩
 ·obtain ⟨cN,d,f⟩:=uP n;have hlen:=h.len i cN d;rcases f with ⟨b,r,_⟩ | ⟨b,r,_⟩
  ·rw [b,r,hlen]
  ·rw [b,r,dy,dy,hlen];rfl
 ·obtain ⟨cN,d,f⟩:=uP n;obtain ⟨c9,w,s⟩:=uP t;have e:=h.apart i j cN c9 o d w;rcases f with ⟨b,_,u⟩ | ⟨b,_,u⟩<;>rcases s with ⟨f1,_,f3⟩ | ⟨f1,_,f3⟩
  ·rw [b] at c;rw [f1] at a;exact e q c a
  ·rw [b] at c;rw [f1] at a;rcases iq.1 a with g | g
   ·exact e q c g
   ·simp at g;have:=p i cN d q c;omega
  ·rw [b] at c;rw [f1] at a;rcases iq.1 c with g | g
   ·exact e q g a
   ·simp at g;have:=p j c9 w q a;omega
  ·exact o (u.symm.trans f3)
 ·obtain ⟨cN,d,f⟩:=uP n;rcases f with ⟨b,_,_⟩ | ⟨b,_,_⟩
  ·rw [b] at c;have:=p i cN d q c;omega
  ·rw [b] at c;rcases iq.1 c with g | g
   ·have:=p i cN d q g;omega
   ·simp at g <;> omega
theorem kp.fc:∀ (vs:List aQ) {C:bh} {k:Nat},kp C->Below C k->kp (C.fc k vs)
 | [],C,k,h,a=>h
 |v::vs,C,k,h,a=>by obtain ⟨b,c⟩:=h.e5 (v:=v) a;exact kp.fc vs b c
theorem Db (h:kp C) (e:C'.az=C.az):kp C':=⟨by rw [e];exact h.len,by rw [e];exact h.apart⟩
theorem Mx:∀ {ls:List cA} {j:Nat} {l:cA},ls[j]?=some l->l.pair.a3≠[]->0<gz ls:=by
 intro ls j l a al;rcases vp (gz ls) with e | e
 ·exact absurd (u7 e l (b5 a)) al
 ·exact e
theorem yn {cv:Conv} {t:bJ cv} (h:0<F.waiting t.aW):bN F t=(F,t):=by unfold bN;rw [if_pos (.inr (.inr h))]
theorem rY (d:cd F) (h:fe c j F=some cy):0<F.waiting c:=by
 obtain ⟨C,l,n,a,f,g,al,rfl⟩:=jR.1 h;have hw:=(d.b8.ok.aW c C a).waiting;have i:=Mx f (λe=>al (by rw [e];rfl));unfold aE.waiting;have b:F.cE (c:Int)=some C:=by unfold aE.cE;rw [if_neg (by omega)];simpa using a
 rw [b];show 0<C.waiting;omega
end
section
theorem h9 (F:aE) (c:Nat):F.cE (c:Int)=F.aR[c]?:=by unfold aE.cE;rw [if_neg (by omega)];simp
theorem Hx:∀ (vs:List aQ) (C:bh) (k:Nat),(C.fc k vs).az.length=C.az.length
 | [],C,k=>rfl
 |v::vs,C,k=>by rw [Hz,Hx vs];simp [bh.e5]
theorem g7.dO {c:Nat} {F:aE} (h:g7 c F) {C':bh} (f:kp C') (g:C'.az.length<=F.nodes.length):g7 c (F.dO (c:Int) C'):=by
 unfold aE.dO;rw [fD];refine ⟨h.gX,λi C d a=>?_,λC a=>?_,λC a=>?_⟩
 ·simp only [gN (λe=>d e.symm)] at a;exact h.idle i C d a
 ·have b:c<F.aR.length:=by have:=b3 a;simpa using this
  simp only [g5 b] at a;cases a;exact f
 ·have b:c<F.aR.length:=by have:=b3 a;simpa using this
  simp only [g5 b] at a;cases a;exact g
def tW (c:Nat) (F:aE):Prop:=∀ C,F.aR[c]?=some C->∀ l ∈ C.az,l.pair.a3=[]
theorem g7.post {c:Nat} {F:aE} (h:g7 c F) (k:tW c F) (vs:List aQ):g7 c (F.post (c:Int) vs).2:=by
 unfold aE.post;rw [h9];cases e:F.aR[c]? with
 |none=>exact h
 |some C=>
  simp only;split
  ·exact h
  split
  ·exact h
  split
  ·exact h
  split
  ·exact h
  split
  ·exact h
  have a:=h.apart C e;have f:Below C 0:=λi l j q d=>by have g:=a.len i l j;rw [k C e l (b5 j)] at g;rw [fF g] at d;cases d
  have b:=kp.fc vs a f;exact h.dO (C':=C.j0 vs) (Db b rfl) (by show (C.fc 0 vs).az.length<=_;rw [Hx];exact h.az C e)
theorem g7.take {c:Nat} {F:aE} (h:g7 c F):g7 c (F.take (c:Int)).2/\(tW c F->tW c (F.take (c:Int)).2):=by
 unfold aE.take;rw [h9];cases b:F.aR[c]? with
 |none=>exact ⟨h,id⟩
 |some C=>
  simp only;split
  ·exact ⟨h,id⟩
  cases e:C.batch with
  |none=>exact ⟨h,id⟩
  |some ds=>
   simp only;split
   ·exact ⟨h,id⟩
   refine ⟨h.dO (C':={ C with batch:=none }) (Db (h.apart C b) rfl) (h.az C b),λd C' a=>?_⟩;unfold aE.dO at a;rw [fD] at a;simp only [g5 (b3 b)] at a;cases a;exact d C b
theorem My (b:cd F) (h:¬ 0<F.waiting (c:Int)):tW c F:=by intro C a l d;have hw:=(b.b8.ok.aW c C a).waiting;unfold aE.waiting at h;rw [h9,a] at h;have h:¬ 0<C.waiting:=h;exact u7 (by omega) l d
theorem g7.tail {cv:Conv} {t:bJ cv} (h:g7 c F) (a:tW c F) (b:t.aW=(c:Int)):g7 c (hG F t).1:=by
 unfold hG;rw [b];split
 ·exact h
 split
 ·exact h
 split
 ·exact h.post a _
 ·exact h.post a _
theorem g7.bN {cv:Conv} {c:Nat} {F:aE} {t:bJ cv} (h:g7 c F) (b:cd F) (a:t.aW=(c:Int)):g7 c (bN F t).1:=by
 unfold Go.Proofs.YtmkljjbioomepaaGreat.bN;rw [a];split
 ·exact h
 ·rename_i d;have f:=My b (c:=c) λe=>d (.inr (.inr e))
  refine g7.tail h.take.1 (h.take.2 f) ?_;cases (F.take (c:Int)).1<;>exact a
theorem A6 {cv:Conv} {t:bJ cv}:(bN F t).2.aW=t.aW:=by
 unfold Go.Proofs.YtmkljjbioomepaaGreat.bN;split
 ·rfl
 ·unfold hG;split
  ·cases (F.take t.aW).1<;>rfl
  split
  ·cases (F.take t.aW).1<;>rfl
  split
  ·cases (F.take t.aW).1<;>rfl
  ·cases (F.take t.aW).1<;>rfl
theorem g7.step {c j:Nat} {F cy:aE} (h:g7 c F) (g:fe c j F=some cy):g7 c cy:=by
 have b:=(Cr c).aA h.apart g;obtain ⟨C,l,n,d,o,p,al,rfl⟩:=jR.1 g;refine ⟨h.gX,λi C' f a=>?_,b,λC' a=>?_⟩
 ·simp only [gN (λe=>f e.symm)] at a;exact h.idle i C' f a
 ·simp only [g5 (b3 d)] at a;cases a;have k:=h.az C d;simp only [o0];cases (l.pair.step n).2.2<;>simp [bh.comes]<;>exact k
end
section
section
variable {cv:Conv}
def ic (c j:Nat) (s:aE×bJ cv):Option (aE×bJ cv):=(fe c j s.1).map λcy=>bN cy s.2
structure kx (c:Nat) (s:aE×bJ cv):Prop where
 fl:cd s.1
 x9:g7 c s.1
 cE:s.2.aW=(c:Int)
theorem cd.fe (h:cd F) (b:fe c j F=some cy):cd cy:=by have a:=h.step ⟨-1,c,j⟩;rw [ya b] at a;exact a
theorem pE {s a:aE×bJ cv}:ic c j s=some a↔∃ cy,fe c j s.1=some cy/\a=bN cy s.2:=by
 unfold ic;cases h:fe c j s.1 with
 |none=>simp
 |some cy=>simp [eq_comm]
theorem kx.bN {c:Nat} {F:aE} {t:bJ cv} (h:kx c (F,t)):kx c (bN F t):=
 ⟨h.fl.bN t,h.x9.bN h.fl h.cE,by rw [A6];exact h.cE⟩
theorem kx.fe {c j:Nat} {F cy:aE} {t:bJ cv} (h:kx c (F,t)) (a:fe c j F=some cy):kx c (cy,t):=⟨h.fl.fe a,h.x9.step a,h.cE⟩
theorem Cs (c:Nat):zl (ic (cv:=cv) c) (kx c):=by
 refine ⟨λ{i s s1} a h=>?_,λ{i j s s1 s2} a p q=>?_⟩
 ·obtain ⟨F,t⟩:=s;obtain ⟨cy,r,rfl⟩:=pE.1 h;exact (a.fe r).bN
 ·obtain ⟨F,t⟩:=s;obtain ⟨g,b,rfl⟩:=pE.1 p;obtain ⟨k,d,rfl⟩:=pE.1 q;rcases (Cr c).FP a.x9.apart b d with e | ⟨f,l,n⟩
  ·exact .inl (by rw [e])
  ·have o:t.aW=(c:Int):=a.cE;have w1:bN g t=(g,t):=yn (by rw [o];exact rY (a.fe b).fl l);have u:bN k t=(k,t):=yn (by rw [o];exact rY (a.fe d).fl n);refine .inr ⟨bN f t,?_,?_⟩
   ·simp only [w1];exact pE.2 ⟨f,l,rfl⟩
   ·simp only [u];exact pE.2 ⟨f,n,rfl⟩
theorem K9 (F:aE) (t:bJ cv):turns F [t]=((bN F t).1,[(bN F t).2]):=rfl
theorem HP {c:Nat} (cs sch:a8):∀ (f n:Nat) {F:aE} {t:bJ cv} {k:Nat} {e:aE×bJ cv},kx c (F,t)->Norm (ic c) k (bN F t) e->k<f->f_ cs sch [] f n F [t]=(e.1,[e.2])
 | 0,n,F,t,k,e,b,h,r=>by omega
 |f+1,n,F,t,k,e,b,h,r=>by
  have a:=b.bN;unfold f_;have p:jU F cs n []=F:=rfl;rw [p,K9];rcases a.x9.fC sch n with ⟨d,g⟩ | ⟨j,cy,d,g⟩
  ·rw [d,if_neg (by simp)];cases h with
   |nil _=>rfl
   |cons i q _=>obtain ⟨cy,o,_⟩:=pE.1 q;rw [g i] at o;cases o
  ·rw [g,if_pos rfl];obtain ⟨s,rfl,l⟩:=h.after (Cs c) a (pE.2 ⟨cy,d,rfl⟩);exact HP cs sch f (n+1) (kx.fe a d) l (by omega)
theorem Kh {t:bJ cv} (a:kx c (F,t)) {e:aE×bJ cv} (d:Norm (ic c) k (bN F t) e) (sch:a8) (b:k<most):dK F [t] sch [] most=((bN e.1 e.2).1,[(bN e.1 e.2).2]):=by unfold dK;rw [HP _ sch most 0 a d b];rfl
def nV (c:Nat) (s:aE×bJ cv):Nat->Nat->Option (aE×bJ cv)
 | 0,_=>none
 |q+1,j=>match ic c j s with
  |some a=>some a
  |none=>nV c s q (j+1)
theorem H7 {c:Nat} {s b:aE×bJ cv}:∀ {q j:Nat},nV c s q j=some b->∃ i,ic c i s=some b
 | 0,j,h=>by cases h
 |q+1,j,h=>by
  unfold nV at h;cases a:ic c j s with
  |some s1=>rw [a] at h;exact ⟨j,a.trans h⟩
  |none=>rw [a] at h;exact H7 h
theorem H8 {c:Nat} {s:aE×bJ cv}:∀ {q j:Nat},nV c s q j=none->∀ i,j<=i->i<j+q->ic c i s=none
 | 0,j,h,i,b,d=>by omega
 |q+1,j,h,i,b,d=>by
  unfold nV at h;cases a:ic c j s with
  |some s1=>rw [a] at h;cases h
  |none=>
   rw [a] at h;by_cases e:i=j
   ·rw [e];exact a
   ·exact H8 h i (by omega) (by omega)
def q8 (c:Nat):Nat->aE×bJ cv->Option (Nat×(aE×bJ cv))
 | 0,_=>none
 |f+1,s=>match nV c s 5 0 with
  |none=>some (0,s)
  |some a=>(q8 c f a).map λx=>(x.1+1,x.2)
theorem Ct {c:Nat}:∀ {f:Nat} {s:aE×bJ cv} {k:Nat} {e:aE×bJ cv},kx c s->q8 c f s=some (k,e)->Norm (ic c) k s e
 | 0,s,k,e,a,h=>by cases h
 |f+1,s,k,e,a,h=>by
  unfold q8 at h;cases b:nV c s 5 0 with
  |none=>
   rw [b] at h;cases h;refine .nil λi=>?_
   by_cases d:i<5
   ·exact H8 b i (by omega) (by omega)
   ·cases q:ic c i s with
    |none=>rfl
    |some j=>obtain ⟨cy,o,_⟩:=pE.1 q;obtain ⟨C,l,n,u,w,p,_⟩:=jR.1 o;have r:=b3 p;have t:=a.fl.b8.ok.nodes;omega
  |some j=>
   rw [b] at h;obtain ⟨i,d⟩:=H7 b;simp only at h;cases g:q8 c f j with
   |none=>rw [g] at h;cases h
   |some x=>rw [g] at h;cases h;exact .cons i d (Ct ((Cs c).aA a d) g)
theorem K_ {t:bJ cv} (a:kx c (F,t)) {f:Nat} {e:aE×bJ cv} (d:q8 c f (bN F t)=some (k,e)) (sch:a8) (b:k<most):dK F [t] sch [] most=((bN e.1 e.2).1,[(bN e.1 e.2).2]):=
 Kh a (Ct a.bN d) sch b
end
end
end Go.Proofs.YtmkljjbioomepaaGreat
