import Derived.Test.YtmkljjbioomepaaGreate22
set_option linter.all false
namespace Go.Proofs.YtmkljjbioomepaaGreat
open Go.Proofs.Tryz Go.bn
variable {c i j k:Nat} {w:al}
section
def kO (C:bf):Nat:=if C.alive then 1 else 0
def aB.cW (F:aB):Nat:=(F.aU.map kO).sum
def k3 (F:aB):Prop:=F.bP.length+5 * F.cW<=1000
theorem xY:∀ {cs:List bf} {i:Nat} {C C':bf},cs[i]?=some C->((cs.set i C').map kO).sum+kO C=(cs.map kO).sum+kO C'
 | [],i,C,C',h=>by simp at h
 |a::cs,0,C,C',h=>by simp at h;subst h;simp;omega
 |a::cs,i+1,C,C',h=>by have:=xY (cs:=cs) (i:=i) (C:=C) (C':=C') (by simpa using h);simp at this ⊢;omega
structure cb (F:aB):Prop where
 ca:Good F
 fC:k3 F
theorem cb.le {F:aB} (h:cb F):F.bP.length<=1000:=by have:=h.fC;unfold k3 at this;omega
theorem k3.fS {F:aB} (h:k3 F) {C C':bf} (b:F.aU[i]?=some C) (a:C'.alive=C.alive):k3 { F with aU:=F.aU.set i C' }:=by
 have:=xY (C':=C') b;have e:kO C'=kO C:=by unfold kO;rw [a]
 unfold k3 aB.cW at *;dsimp only;omega
theorem cb.take {F:aB} (h:cb F) (c:Int):cb (F.take c).2:=by
 refine ⟨h.ca.take c,?_⟩;unfold aB.take;cases b:F.cC c with
 |none=>exact h.fC
 |some C=>
  obtain ⟨d,a⟩:=aB.nz b;dsimp only;split
  ·exact h.fC
  ·cases e:C.batch with
   |none=>exact h.fC
   |some ds=>
    dsimp only;split
    ·exact h.fC
    ·exact h.fC.fS a rfl
theorem cb.post {F:aB} (h:cb F) (c:Int) (vs:List aG):cb (F.post c vs).2:=by
 refine ⟨h.ca.post c vs,?_⟩;unfold aB.post;cases b:F.cC c with
 |none=>exact h.fC
 |some C=>
  obtain ⟨d,a⟩:=aB.nz b;dsimp only;repeat' split
  all_goals first | exact h.fC | exact h.fC.fS a (y7 vs 0 C).1
theorem cb.jb {F:aB} (h:cb F) (i:Nat):cb (F.jb i).2:=by
 refine ⟨h.ca.jb i,?_⟩;unfold aB.jb;split
 ·exact h.fC
 ·split
  ·exact h.fC
  ·dsimp only;have:=h.fC;unfold k3 aB.cW at *;dsimp only;have a:∀ (x:cF) (b:Prop) [Decidable b],(if b then F.bP.eraseIdx i else F.bP.set i x).length<=F.bP.length:=by
    intro x b _;split
    ·exact List.length_eraseIdx_le _ _
    ·simp
   exact kq (Nat.add_le_add_right (a _ _) _) this
theorem cb.step {F:aB} (h:cb F) (x:fw):cb (F.step x).2:=by
 refine ⟨h.ca.step x,?_⟩;unfold aB.step;split
 ·exact (h.jb _).fC
 split
 ·exact h.fC
 split
 ·exact h.fC
 rename_i C b;obtain ⟨c,a⟩:=aB.nz b;split
 ·exact h.fC
 split
 ·rename_i l n d e;split
  ·exact h.fC
  dsimp only;refine k3.fS (F:={ F with nodes:=_ }) h.fC a ?_;cases (l.pair.step n).2.2<;>rfl
 ·exact h.fC
theorem cb.drop {F:aB} (h:cb F) (c:Int):cb (F.drop c).2:=by
 refine ⟨h.ca.drop c,?_⟩;unfold aB.drop;split
 ·exact h.fC
 ·have:=h.fC;unfold k3 aB.cW at *;exact kq (Nat.add_le_add_right (List.length_eraseIdx_le _ _) _) this
theorem cb.die {F:aB} (h:cb F) (c:Int):cb (F.die c).2:=by
 refine ⟨h.ca.die c,?_⟩;unfold aB.die;cases f:F.cC c with
 |none=>exact h.fC
 |some C=>
  obtain ⟨l,b⟩:=aB.nz f;have d:=h.ca.ok.aP _ _ b;dsimp only;split
  ·exact h.fC
  ·rename_i e;have a:C.alive=true:=by simpa using e
   have n:=xY (C':={ C with alive:=false,ay:=[],batch:=none,waiting:=0 }) b;have g:kO C=1:=by unfold kO;rw [a];rfl
   have i:kO { C with alive:=false,ay:=[],batch:=none,waiting:=0 }=0:=rfl;have j:((C.ay.map cH.pair).filter (λp=>decide (0<p.a6.length))).length<=C.ay.length:=by have:=z1 (λp:cF=>decide (0<p.a6.length)) (C.ay.map cH.pair);simpa using this
   have k:C.ay.length<=5:=by rw [d.ay,a];exact h.ca.ok.nodes.2
   have:=h.fC;unfold k3 aB.cW at *;dsimp only;rw [c8];omega
theorem cb.mU {F:aB} (h:cb F) (i:Nat) {n':aH} (a:n'.words.length=F.lines * 8):cb { F with nodes:=F.nodes.set i n' }:=⟨h.ca.mU i a,h.fC⟩
theorem cb.fresh {n c lines:Nat} (d:1<=n/\n<=5) (a:1<=c/\c<=6) (b:98<=lines/\lines<=256):cb (aB.fresh n c lines):=by
 refine ⟨Good.fresh d a b,?_⟩;have:∀ (c:Nat),(((List.range c).map (jN n)).map kO).sum=c:=by
  intro c;induction c with
  |zero=>rfl
  |succ c e=>rw [k0,jx,jx,List.sum_append,e];rfl
 unfold k3 aB.cW;show 0+5 * (((List.range c).map (jN n)).map kO).sum<=1000;rw [this];omega
def kn (F:aB) (sch:a4) (n:Nat):Nat:=if n<sch.length then (sch.getD n 0 % (F.eV.length:Int)).toNat else 0
def fL (F:aB) (sch:a4) (n:Nat):Bool×aB:=match F.eV[kn F sch n]? with
 |none=>(false,F)
 |some x=>F.step x
theorem cb.fL {F:aB} (h:cb F) (sch:a4) (n:Nat):cb (fL F sch n).2:=by
 unfold Go.Proofs.YtmkljjbioomepaaGreat.fL;split
 ·exact h
 ·exact h.step _
theorem HQ {F:aB} (h:nb F):F.eV.length<=30+F.bP.length:=by
 unfold aB.eV;rw [c8,y1];have d:=y0 (n:=5) 0 F.aU λC b=>by obtain ⟨i,c⟩:=gh.1 b;have a:=(h.aP i C c).ay;have e:=h.nodes.2;split at a<;>omega
 have f:=h.aU.2;omega
theorem LB {A:a2} {ar:Nat->Tag} {aM:Nat} {X:bl} (h:bX A ar w aM X) (k:cb X.pure) {sch:a4} {sa:an} {sc:Nat} (E:bg w sa (is sch)) (C:∀ x ∈ sch,dO x) (n:Nat) :
  ba 35 [ptr aM,.slice sa sch.length sc,.int .i64 n] w λv w'=>v=.bool (fL X.pure sch n).1/\dD A ar w aM (fL X.pure sch n).2 w' λ_=>True:=by
 have u:X.bP.length<=100000000:=by have:=k.le;simp [bl.pure] at this;omega
 refine bc Tryz.func35 ?_;rw [ptr,Tf];refine aD (IJ h k.ca.ok u) ?_;rintro v w1 ⟨a,cap,rfl,c⟩;have l:=h.new c.new;refine ⟨_,_,_,rfl,dJ (λz=>?_) (λz=>?_)⟩
 ·have r:X.pure.eV=[]:=fb (by omega);have:fL X.pure sch n=(false,X.pure):=by unfold fL;rw [r];rfl
  rw [this];exact ⟨rfl,dD.same h c.new trivial⟩
 ·refine a9 (λD=>?_) (λD=>?_)
  ·have q:n<sch.length:=by omega
   have t:sch[n]?=some sch[n]:=bM q;have f:(is sch)[n]?=some (.int .i64 sch[n]):=by simp [is,t]
   have p:=C _ (cj t);rcases E.new c.new with he | ⟨b,o,rfl,B⟩
   ·rw [he] at f;simp at f
   refine dT (by omega) (by omega) ⟨sch[n],by simpa using B n _ f,?_⟩;have hlen:X.pure.eV.length<=1000000000:=by have G:=k.le;have H:=HQ k.ca.ok;omega
   refine aD (p0 _ _ _ p (by omega)) ?_;rintro v I ⟨rfl,rfl⟩;have s:0<=sch[n] % (X.pure.eV.length:Int)/\sch[n] % (X.pure.eV.length:Int)<X.pure.eV.length:=⟨w4 _ (by omega),w3 _ (by omega)⟩;rw [if_neg (by omega)];refine ⟨_,rfl,?_⟩;have i:kn X.pure sch n=(sch[n] % (X.pure.eV.length:Int)).toNat:=by unfold kn;rw [if_pos q,cK,t];rfl
   have d:X.pure.eV[kn X.pure sch n]?=some X.pure.eV[kn X.pure sch n]:=bM (by omega);have j:fL X.pure sch n=X.pure.step X.pure.eV[kn X.pure sch n]:=by unfold fL;rw [d]
   obtain ⟨y,dg,rfl,e,_⟩:=c.own.rd.row (Gb _) (by omega) (Gc d);refine dT s.1 s.2 ?_;rw [<-i];refine ⟨_,_,_,e,?_⟩;refine aD (BZ l k.ca.ok X.pure.eV[kn X.pure sch n]) ?_;rintro v F ⟨rfl,g⟩;rw [j];exact ⟨_,rfl,rfl,dD.trans (h.refl c.new) g⟩
  ·have i:kn X.pure sch n=0:=by unfold kn;rw [if_neg (by omega)]
   have d:X.pure.eV[0]?=some X.pure.eV[0]:=bM (by omega);have j:fL X.pure sch n=X.pure.step X.pure.eV[0]:=by unfold fL;rw [i,d]
   obtain ⟨y,dg,rfl,e,_⟩:=c.own.rd.row (Gb _) (by omega) (Gc d);refine dT (by omega) (by omega) ?_;refine ⟨_,_,_,e,?_⟩;refine aD (BZ l k.ca.ok X.pure.eV[0]) ?_;rintro v F ⟨rfl,g⟩;rw [j];exact ⟨_,rfl,rfl,dD.trans (h.refl c.new) g⟩
structure jP where
 at_:Int
 kind:Int
 a:Int
def jP.cells (e:jP):aw:=[.int .i64 e.at_,.int .i64 e.kind,.int .i64 e.a]
def jP.val (e:jP):a0:=.agg e.cells.toArray
structure jP.sv (e:jP):Prop where
 at_:dO e.at_
 kind:dO e.kind
 a:dO e.a
def aB.mU (F:aB) (i:Nat) (f:aH->aH):aB:=match F.nodes[i]? with
 |none=>F
 |some n=>{ F with nodes:=F.nodes.set i (f n) }
def Nj (n:aH):aH:={ n with down:=true }
def x9 (n:aH):aH:=n.back.1
theorem Jp (n:aH):(x9 n).words.length=n.words.length:=by unfold x9 aH.back;split<;>simp
theorem cb.Fe {F:aB} (h:cb F) (i:Nat) {f:aH->aH} (a:∀ n,(f n).words.length=n.words.length):cb (F.mU i f):=by
 unfold aB.mU;split
 ·exact h
 ·rename_i n b;exact h.mU i (by rw [a];exact h.ca.ok.words n (cj b))
def aB.sV (F:aB) (cs:a4) (e:jP):aB:=
 if e.kind % 4=0 then (if cs.length=0 then F else (F.die (cs.getD (e.a % (cs.length:Int)).toNat 0)).2)
 else if e.kind % 4=1 then F.mU (e.a % (F.nodes.length:Int)).toNat Nj
 else if e.kind % 4=2 then F.mU (e.a % (F.nodes.length:Int)).toNat x9
 else (F.drop (e.a % 3)).2
theorem cb.sV {F:aB} (h:cb F) (cs:a4) (e:jP):cb (F.sV cs e):=by
 unfold aB.sV;split
 ·split
  ·exact h
  ·exact h.die _
 ·split
  ·exact h.Fe _ λ_=>rfl
  ·split
   ·exact h.Fe _ Jp
   ·exact h.drop _
end
section
structure Conv where
 a8:Type
 O:Type
 next:a8->List (List aC)->List aG×O×Bool
structure bL (c:Conv) where
 aP:Int
 bs:c.a8
 a7:List (List aC)
 e0:Bool
 bad:Bool
 out:c.O
section
variable {c:Conv}
def bL.told (t:bL c):bL c:={ t with e0:=(c.next t.bs t.a7).2.2,out:=(c.next t.bs t.a7).2.1 }
def bL.qU (t:bL c):Option (List aC)->bL c
 |none=>t
 |some d=>{ t with a7:=t.a7++[d] }
def bL.fail (t:bL c):bL c:={ t with e0:=true,bad:=true }
def hE (F:aB) (t:bL c):aB×bL c:=
 if 200<t.a7.length then (F,t.fail) else if (c.next t.bs t.a7).2.2=true then (F,t.told)
 else if (F.post t.aP (c.next t.bs t.a7).1).1≠0 then ((F.post t.aP (c.next t.bs t.a7).1).2,t.told.fail) else ((F.post t.aP (c.next t.bs t.a7).1).2,t.told)
def b4 (F:aB) (t:bL c):aB×bL c:=
 if t.e0=true\/F.alive t.aP=false\/0<F.waiting t.aP then (F,t) else hE (F.take t.aP).2 (t.qU (F.take t.aP).1)
def turns:aB->List (bL c)->aB×List (bL c)
 |F,[]=>(F,[])
 |F,t::ts=>((turns (b4 F t).1 ts).1,(b4 F t).2::(turns (b4 F t).1 ts).2)
def iP (F:aB) (cs:a4) (n:Nat):List jP->aB
 | []=>F
 |e::es=>iP (if e.at_ % 60=n then F.sV cs e else F) cs n es
def gl (cs sch:a4) (es:List jP):Nat->Nat->aB->List (bL c)->aB×List (bL c)
 | 0,_,F,l=>(F,l)
 |f+1,n,F,l=>
  if (fL (turns (iP F cs n es) l).1 sch n).1=true then gl cs sch es f (n+1) (fL (turns (iP F cs n es) l).1 sch n).2 (turns (iP F cs n es) l).2
  else ((fL (turns (iP F cs n es) l).1 sch n).2,(turns (iP F cs n es) l).2)
def eX (F:aB) (l:List (bL c)) (sch:a4) (es:List jP) (most:Nat):aB×List (bL c):=
 turns (gl (l.map bL.aP) sch es most 0 F l).1 (gl (l.map bL.aP) sch es most 0 F l).2
def ut (F:aB) (t:bL c):aB×List (bL c):=eX F [t] [] [] 20000
theorem cb.tail {F:aB} (h:cb F) (t:bL c):cb (hE F t).1:=by
 unfold hE;split
 ·exact h
 ·split
  ·exact h
  ·split
   ·exact h.post _ _
   ·exact h.post _ _
theorem cb.b4 {F:aB} (h:cb F) (t:bL c):cb (b4 F t).1:=by
 unfold Go.Proofs.YtmkljjbioomepaaGreat.b4;split
 ·exact h
 ·exact (h.take _).tail _
theorem cb.turns:∀ (l:List (bL c)) {F:aB},cb F->cb (turns F l).1
 | [],_,h=>h
 |t::l,F,h=>by unfold Go.Proofs.YtmkljjbioomepaaGreat.turns;exact cb.turns l (h.b4 t)
theorem cb.iP {cs:a4} {n:Nat}:∀ (es:List jP) {F:aB},cb F->cb (iP F cs n es)
 | [],F,h=>h
 |e::es,F,h=>by
  unfold Go.Proofs.YtmkljjbioomepaaGreat.iP;refine cb.iP es ?_;split
  ·exact h.sV cs e
  ·exact h
theorem cb.gl (cs sch:a4) (es:List jP):∀ (f n:Nat) {F:aB} (l:List (bL c)),cb F->cb (gl cs sch es f n F l).1
 | 0,_,_,_,h=>h
 |f+1,n,F,l,h=>by
  unfold Go.Proofs.YtmkljjbioomepaaGreat.gl;have a:=(cb.turns l (cb.iP (cs:=cs) (n:=n) es h)).fL sch n;split
  ·exact cb.gl cs sch es f (n+1) _ a
  ·exact a
theorem cb.eX {F:aB} (h:cb F) (l:List (bL c)) (sch:a4) (es:List jP) (most:Nat):cb (eX F l sch es most).1:=cb.turns _ (cb.gl _ _ _ _ _ _ h)
def mh (t:bL c):Prop:=t.e0=false->t.a7.length<=200
theorem HR {F:aB} {t:bL c}:mh (hE F t).2:=by
 unfold hE;split
 ·intro e;cases e
 ·rename_i a;split
  ·intro _;show t.a7.length<=200;omega
  ·split
   ·intro e;cases e
   ·intro _;show t.a7.length<=200;omega
theorem HS {F:aB} {t:bL c} (h:mh t):mh (b4 F t).2:=by
 unfold b4;split
 ·exact h
 ·exact HR
structure lG (BO:aB) (c3:List (bL c)) (i:Nat) (F:aB) (l:List (bL c)):Prop where
 b9:(turns F (l.drop i)).1=(turns BO c3).1
 rest:l.take i++(turns F (l.drop i)).2=(turns BO c3).2
 len:l.length=c3.length
theorem lG.start (F:aB) (l:List (bL c)):lG F l 0 F l:=⟨rfl,rfl,rfl⟩
theorem lG.step {b F:aB} {c3 l:List (bL c)} (h:lG b c3 i F l) {t:bL c} (j:l[i]?=some t):lG b c3 (i+1) (b4 F t).1 (l.set i (b4 F t).2):=by
 obtain ⟨a,he⟩:=kY.1 j;obtain ⟨d,f,g⟩:=h;rw [qa a,he,turns] at d f;refine ⟨?_,?_,by rw [je];exact g⟩
 ·rw [List.drop_set_of_lt (by omega)];exact d
 ·rw [List.drop_set_of_lt (by omega),<-f];rw [Gm (by simpa using a)];have e:List.take i (l.set i (b4 F t).2)=List.take i l:=by
   apply kr;intro q;rw [jX,jX];split
   ·rw [gg (by omega)]
   ·rfl
  rw [e];simp
theorem lG.done {b F:aB} {c3 l:List (bL c)} (h:lG b c3 i F l) (e:i=l.length):turns b c3=(F,l):=by obtain ⟨d,a,f⟩:=h;subst e;rw [qb,turns] at d a;rw [hq,g_] at a;exact Prod.ext d.symm a.symm
theorem wv:∀ (F:aB) (l:List (bL c)),(turns F l).2.length=l.length
 | _,[]=>rfl
 |F,t::ts=>by simp [turns,wv]
theorem F8 (cs sch:a4) (es:List jP):∀ (f n:Nat) (F:aB) (l:List (bL c)),(gl cs sch es f n F l).2.length=l.length
 | 0,_,_,_=>rfl
 |f+1,n,F,l=>by
  unfold gl;split
  ·rw [F8,wv]
  ·exact wv _ _
theorem Jq (F:aB) (t:bL c):∃ a,(ut F t).2=[a]:=by
 have:(ut F t).2.length=1:=by unfold ut eX;rw [wv,F8];rfl
 exact wZ.1 this
end
def oa (A:a2) (u:al) (a:an) (xs:aw):Prop:=bg u a xs/\(xs=[]\/fM A a)
theorem oa.ax {A A':a2} {w w':al} {a:an} {xs:aw} (h:oa A w a xs) (c:ao A w w') (b:∀ k,k<w.heap.size->A' k->A k):oa A' w' a xs:=⟨h.1.ax c h.2,fM.ax h.1 h.2 b⟩
theorem aY.Rf {e sz n cap g:Nat} {rows:List aw} (h:aY w e sz (some ⟨g,0,none⟩) n cap rows.flatten) (a:∀ r ∈ rows,r.length=sz) (p:rows.length=n) (k:i<n) {vs:aw} (aj:vs.length=sz) (d:∀ v ∈ vs,single v=true) :
  dR w ⟨g,i * sz,none⟩ 0 vs/\aY (cl w ⟨g,i * sz,none⟩ 0 vs) e sz (some ⟨g,0,none⟩) n cap (rows.set i vs).flatten:=by
 subst p;rcases h.2 with ⟨he,_⟩ | ⟨y,cur,he,b,c,hm,z,x⟩
 ·cases he
 ·simp at he;subst he;have j:=lN a;have l:i * sz+sz<=rows.length * sz:=by rw [<-hK];exact rZ _ k
  have s:rows.length * sz<=cap * sz:=rZ _ c;refine ⟨fI b (by omega) d,?_⟩;have t:=b.cl (o:=i * sz) (i:=0) (vs:=vs);refine ⟨?_,.inr ⟨g,_,rfl,t,c,hm,?_,?_⟩⟩
  ·rw [lN (sz:=sz),je];intro r u;rcases ks u with f | rfl
   ·exact a r f
   ·exact aj
  ·rw [oA (by omega)];simp;omega
  ·rw [<-F1 a (by omega) aj,lz,oA (by omega),oA (by omega),<-x];apply kr;intro q;simp only [jX,o3,gR,c8,kW];repeat' split
   all_goals first | rfl | omega | (congr 1;omega) | skip
   all_goals first | rfl | (exfalso;omega) | skip
end
section
section
variable {S a5:Type} (st:a5->S->Option S) (ok:S->Prop)
inductive Norm:Nat->S->S->Prop
 |nil {s:S}:(∀ i,st i s=none)->Norm 0 s s
 |cons {k:Nat} {s s1 t:S} (i:a5):st i s=some s1->Norm k s1 t->Norm (k+1) s t
structure xF:Prop where
 ax:∀ {i:a5} {s s1:S},ok s->st i s=some s1->ok s1
 DT:∀ {i j:a5} {s s1 s2:S},ok s->st i s=some s1->st j s=some s2->s1=s2\/∃ E_,st j s1=some E_/\st i s2=some E_
variable {st ok}
theorem Norm.after (aA:xF st ok) {s t:S} (h:Norm st k s t):∀ {s2:S} {j:a5},ok s->st j s=some s2->∃ c,k=c+1/\Norm st c s2 t:=by
 induction h with
 |nil h=>intro s2 j a b;rw [h j] at b;cases b
 | @cons k s s1 t i f n o=>
  intro s2 j a b;rcases aA.DT a f b with e | ⟨p,g,l⟩
  ·subst e;exact ⟨k,rfl,n⟩
  ·obtain ⟨c,rfl,d⟩:=o (aA.ax a f) g;exact ⟨c+1,rfl,.cons i l d⟩
end
def ft (c j:Nat) (F:aB):Option aB:=match F.aU[c]? with
 |none=>none
 |some C=>match C.ay[j]?,F.nodes[j]? with
  |some l,some n=>if l.pair.a6.length=0 then none else some { F with nodes:=F.nodes.set j (l.pair.step n).2.1,aU:=F.aU.set c (C.comes j l (l.pair.step n).1 (l.pair.step n).2.2) }
  | _,_=>none
theorem jk {F cw:aB}:ft c j F=some cw↔∃ C l n,F.aU[c]?=some C/\C.ay[j]?=some l/\F.nodes[j]?=some n/\l.pair.a6.length≠0/\cw={ F with nodes:=F.nodes.set j (l.pair.step n).2.1,aU:=F.aU.set c (C.comes j l (l.pair.step n).1 (l.pair.step n).2.2) }:=by
 unfold ft;constructor
 ·intro h;cases b:F.aU[c]? with
  |none=>rw [b] at h;cases h
  |some C=>
   rw [b] at h;simp only at h;cases a:C.ay[j]? with
   |none=>rw [a] at h;cases h
   |some l=>
    rw [a] at h;cases d:F.nodes[j]? with
    |none=>rw [d] at h;cases h
    |some n=>
     rw [d] at h;simp only at h;split at h
     ·cases h
     ·rename_i aj;exact ⟨C,l,n,rfl,a,rfl,aj,(p_ h).symm⟩
 ·rintro ⟨C,l,n,b,a,d,aj,rfl⟩;rw [b];simp only [a,d,if_neg aj]
theorem wn {F cw:aB} (h:ft c j F=some cw):F.step ⟨-1,c,j⟩=(true,cw):=by
 obtain ⟨C,l,n,b,d,e,aj,rfl⟩:=jk.1 h;unfold aB.step;have a:F.cC (c:Int)=some C:=by unfold aB.cC;rw [if_neg (by omega)];simpa using b
 simp only [show ¬ (0:Int)<=-1 by omega,show ¬ (-1:Int) < -1 by omega,if_false,a,show ¬ ((j:Nat):Int)<0 by omega,fT,d,e,if_neg aj]
structure jQ (C:bf):Prop where
 len:∀ (i:Nat) (l:cH),C.ay[i]?=some l->l.bt.length=l.pair.a6.length
 apart:∀ (i j:Nat) (l l':cH),i≠j->C.ay[i]?=some l->C.ay[j]?=some l'->∀ k ∈ l.bt,k ∉ l'.bt
theorem ld {C:bf} {l:cH} {p:cF} {d:Option aC} (h:i≠j):(C.comes j l p d).ay[i]?=C.ay[i]?:=by cases d<;>simp [bf.comes,gg (λe=>h e.symm)]
theorem HT {C:bf} {l l':cH} {p p':cF} {d a:Option aC} (h:i≠j) (c:d.isSome->a.isSome->l.bt.headD 0≠l'.bt.headD 0):(C.comes i l p d).comes j l' p' a=(C.comes j l' p' a).comes i l p d:=by
 cases d with
 |none=>cases a with
  |none=>simp [bf.comes,rY _ _ h]
  |some y=>simp [bf.comes,rY _ _ h]
 |some x=>cases a with
  |none=>simp [bf.comes,rY _ _ h]
  |some y=>
   have b:=c rfl rfl;unfold bf.comes;simp only [rY _ _ h];cases e:C.batch with
   |none=>rfl
   |some ds=>simp only [nX];rw [rY _ _ b]
theorem Nk (p:cF) (n:aH):((p.step n).2.2=none/\(p.step n).1.a6=p.a6)\/(∃ d,(p.step n).2.2=some d/\(p.step n).1.a6=p.a6.tail):=by
 unfold cF.step;cases aj:p.a6 with
 |nil=>left;exact ⟨rfl,aj⟩
 |cons x xs=>
  simp only;split
  ·right;exact ⟨_,rfl,by simp [cF.done,aj]⟩
  ·split
   ·left;exact ⟨rfl,rfl⟩
   ·right;exact ⟨_,rfl,by simp [cF.done,aj]⟩
theorem HU {C:bf} {l:cH} {n:aH} (e:C.ay[j]?=some l):∃ l',(C.comes j l (l.pair.step n).1 (l.pair.step n).2.2).ay[j]?=some l'/\((l'.bt=l.bt/\l'.pair.a6=l.pair.a6)\/(l'.bt=l.bt.tail/\l'.pair.a6=l.pair.a6.tail)):=by
 have a:=cz e;rcases Nk l.pair n with ⟨b,c⟩ | ⟨d,b,c⟩
 ·rw [b];exact ⟨{ l with pair:=(l.pair.step n).1 },by simp only [bf.comes];rw [ei a],.inl ⟨rfl,c⟩⟩
 ·rw [b];exact ⟨⟨(l.pair.step n).1,l.bt.tail⟩,by simp only [bf.comes];rw [ei a],.inr ⟨rfl,c⟩⟩
theorem jQ.comes {C:bf} {j:Nat} {l:cH} {n:aH} (h:jQ C) (p:C.ay[j]?=some l):jQ (C.comes j l (l.pair.step n).1 (l.pair.step n).2.2):=by
 obtain ⟨l',g,w⟩:=HU (n:=n) p;have f:∀ k ∈ l'.bt,k ∈ l.bt:=λk d=>by
  rcases w with ⟨e,_⟩ | ⟨e,_⟩
  ·rw [e] at d;exact d
  ·rw [e] at d;exact qi d
 refine ⟨λi li b=>?_,λi q li o c b a k d=>?_⟩
 ·by_cases e:i=j
  ·subst e;rw [g] at b;cases b;have hlen:=h.len i l p;rcases w with ⟨r,s⟩ | ⟨r,s⟩
   ·rw [r,s,hlen]
   ·rw [r,s,n0,n0,hlen]
  ·rw [ld e] at b;exact h.len i li b
 ·by_cases e:i=j
  ·subst e;rw [g] at b;cases b;rw [ld (λe=>c e.symm)] at a;exact h.apart i q l o c p a k (f k d)
  ·rw [ld e] at b;by_cases u:q=j
   ·subst u;rw [g] at a;cases a;exact λt=>h.apart i q li l c b p k d (f k t)
   ·rw [ld u] at a;exact h.apart i q li o c b a k d
def CS (c:Nat) (F:aB):Prop:=∀ C,F.aU[c]?=some C->jQ C
theorem AO (c:Nat):xF (ft c) (CS c):=by
 refine ⟨λ{j F B} o h=>?_,λ{i j F B E} o u s=>?_⟩
 ·obtain ⟨C,l,n,p,q,w,aj,rfl⟩:=jk.1 h;intro C' a;have d:=cz p;simp only [ei d] at a;cases a;exact (o C p).comes q
 ·by_cases e:i=j
  ·subst e;rw [u] at s;exact .inl (p_ s)
  ·right;obtain ⟨C,l,n,p,q,w,aj,rfl⟩:=jk.1 u;obtain ⟨C',l',n',a,k,t,r,rfl⟩:=jk.1 s;rw [p] at a;cases a;have d:=cz p;have g:=o C p;have hlen:=g.len i l q;have b:=g.len j l' k;have D:l.bt.headD 0≠l'.bt.headD 0:=by
    cases z:l.bt with
    |nil=>rw [z] at hlen;exact absurd hlen.symm aj
    |cons x xs=>cases A:l'.bt with
     |nil=>rw [A] at b;exact absurd b.symm r
     |cons y ys=>intro f;have f:x=y:=f;exact g.apart i j l l' e q k x (by rw [z];exact d_) (by rw [A,f];exact d_)
   refine ⟨_,jk.2 ⟨_,l',n',ei d,by rw [ld (λf=>e f.symm)];exact k,by simp only [gg e];exact t,r,rfl⟩,jk.2 ⟨_,l,n,ei d,by rw [ld e];exact q,by simp only [gg (λf=>e f.symm)];exact w,aj,?_⟩⟩;simp only [mi];rw [rY _ _ e,HT e λ_ _=>D]
end
section
theorem y2 {x:fw} {i:Nat}:∀ {ls:List cH} {j:Nat},x ∈ kA i j ls↔∃ q l,ls[q]?=some l/\0<l.pair.a6.length/\x=⟨-1,i,(j+q:Nat)⟩
 | [],j=>by simp [kA]
 |l::ls,j=>by
  unfold kA;rw [gH,y2 (ls:=ls) (j:=j+1)];constructor
  ·rintro (h | ⟨q,l',a,b,c⟩)
   ·split at h
    ·rename_i aj;simp at h;exact ⟨0,l,rfl,aj,by rw [h];simp⟩
    ·cases h
   ·exact ⟨q+1,l',by simpa using a,b,by rw [c];congr 2;omega⟩
  ·rintro ⟨q,l',a,b,c⟩;cases q with
   |zero=>left;simp at a;subst a;rw [if_pos b,c];simp
   |succ q=>exact .inr ⟨q,l',by simpa using a,b,by rw [c];congr 2;omega⟩
theorem yY {x:fw}:∀ {cs:List bf} {i:Nat},x ∈ ji i cs↔∃ q C,cs[q]?=some C/\x ∈ kA (i+q) 0 C.ay
 | [],i=>by simp [ji]
 |C::cs,i=>by
  unfold ji;rw [gH,yY (cs:=cs) (i:=i+1)];constructor
  ·rintro (h | ⟨q,C',a,b⟩)
   ·exact ⟨0,C,rfl,h⟩
   ·exact ⟨q+1,C',by simpa using a,by rw [show i+(q+1)=i+1+q by omega];exact b⟩
  ·rintro ⟨q,C',a,b⟩;cases q with
   |zero=>left;simp at a;subst a;exact b
   |succ q=>exact .inr ⟨q,C',by simpa using a,by rw [show i+1+q=i+(q+1) by omega];exact b⟩
structure fN (c:Nat) (F:aB):Prop where
 hC:F.bP=[]
 idle:∀ (i:Nat) (C:bf),i≠c->F.aU[i]?=some C->∀ (j:Nat) (l:cH),C.ay[j]?=some l->l.pair.a6=[]
 apart:CS c F
 ay:∀ C,F.aU[c]?=some C->C.ay.length<=F.nodes.length
theorem fN.choice {F:aB} (h:fN c F) {x:fw} (a:x ∈ F.eV):∃ (j:Nat) (cw:aB),x=⟨-1,c,j⟩/\ft c j F=some cw:=by
 unfold aB.eV at a;rw [h.hC] at a;rcases gH.1 a with a | a
 ·obtain ⟨q,C,b,a⟩:=yY.1 a;obtain ⟨j,l,d,aj,rfl⟩:=y2.1 a;rw [gG] at *;by_cases e:q=c
  ·subst e;have f:=cz d;have hlen:=h.ay C b;exact ⟨j,_,by rw [gG],jk.2 ⟨C,l,F.nodes[j],b,d,bM (by omega),by omega,rfl⟩⟩
  ·rw [h.idle q C e b j l d] at aj;simp at aj
 ·simp [lO] at a
theorem F9 {F cw:aB} (h:ft c j F=some cw):(⟨-1,c,j⟩:fw) ∈ F.eV:=by obtain ⟨C,l,n,a,b,d,aj,rfl⟩:=jk.1 h;unfold aB.eV;refine gH.2 (.inl (yY.2 ⟨c,C,a,y2.2 ⟨j,l,b,by omega,?_⟩⟩));simp
theorem fN.fL {c:Nat} {F:aB} (h:fN c F) (sch:a4) (n:Nat):(fL F sch n=(false,F)/\∀ j,ft c j F=none)\/∃ j cw,ft c j F=some cw/\fL F sch n=(true,cw):=by
 unfold Go.Proofs.YtmkljjbioomepaaGreat.fL;cases f:F.eV[kn F sch n]? with
 |some x=>obtain ⟨j,cw,rfl,d⟩:=h.choice (cj f);exact .inr ⟨j,cw,d,wn d⟩
 |none=>
  refine .inl ⟨rfl,λj=>?_⟩
  cases d:ft c j F with
  |none=>rfl
  |some cw=>
   have hm:=F9 d;have a:0<F.eV.length:=List.length_pos_of_mem hm;have e:kn F sch n<F.eV.length:=by
    unfold kn;split
    ·have g:=w4 (sch.getD n 0) (b:=(F.eV.length:Int)) (by omega);have i:=w3 (sch.getD n 0) (b:=(F.eV.length:Int)) (by omega);omega
    ·exact a
   rw [bM e] at f;cases f
end
section
def Below (C:bf) (k:Nat):Prop:=∀ (i:Nat) (l:cH),C.ay[i]?=some l->∀ q ∈ l.bt,q<k
theorem s3 {C:bf} {v:aG} {l:cH} (h:(C.eK k v).ay[i]?=some l):∃ c3,C.ay[i]?=some c3/\((l.bt=c3.bt/\l.pair.a6=c3.pair.a6/\v.node.toNat≠i)\/(l.bt=c3.bt++[k]/\l.pair.a6=c3.pair.a6++[v]/\v.node.toNat=i)):=by
 unfold bf.eK at h;simp only [qf] at h;cases a:C.ay[i]? with
 |none=>rw [a] at h;simp at h
 |some c3=>
  rw [a] at h;refine ⟨c3,rfl,?_⟩;by_cases e:v.node.toNat=i
  ·right;simp [e] at h;subst h;exact ⟨rfl,rfl,e⟩
  ·left;simp [e] at h;subst h;exact ⟨rfl,rfl,e⟩
theorem jQ.eK {C:bf} {k:Nat} {v:aG} (h:jQ C) (p:Below C k):jQ (C.eK k v)/\Below (C.eK k v) (k+1):=by
 refine ⟨⟨λi l n=>?_,λi j l l' o n t q c a=>?_⟩,λi l n q c=>?_⟩
 ·obtain ⟨c3,d,f⟩:=s3 n;have hlen:=h.len i c3 d;rcases f with ⟨b,r,_⟩ | ⟨b,r,_⟩
  ·rw [b,r,hlen]
  ·rw [b,r,c8,c8,hlen];rfl
 ·obtain ⟨c3,d,f⟩:=s3 n;obtain ⟨b6,w,s⟩:=s3 t;have e:=h.apart i j c3 b6 o d w;rcases f with ⟨b,_,u⟩ | ⟨b,_,u⟩<;>rcases s with ⟨f1,_,f3⟩ | ⟨f1,_,f3⟩
  ·rw [b] at c;rw [f1] at a;exact e q c a
  ·rw [b] at c;rw [f1] at a;rcases gH.1 a with g | g
   ·exact e q c g
   ·simp at g;have:=p i c3 d q c;omega
  ·rw [b] at c;rw [f1] at a;rcases gH.1 c with g | g
   ·exact e q g a
   ·simp at g;have:=p j b6 w q a;omega
  ·exact o (u.symm.trans f3)
 ·obtain ⟨c3,d,f⟩:=s3 n;rcases f with ⟨b,_,_⟩ | ⟨b,_,_⟩
  ·rw [b] at c;have:=p i c3 d q c;omega
  ·rw [b] at c;rcases gH.1 c with g | g
   ·have:=p i c3 d q g;omega
   ·simp at g <;> omega
theorem jQ.eS:∀ (vs:List aG) {C:bf} {k:Nat},jQ C->Below C k->jQ (C.eS k vs)
 | [],C,k,h,a=>h
 |v::vs,C,k,h,a=>by obtain ⟨b,c⟩:=h.eK (v:=v) a;exact jQ.eS vs b c
theorem BK {C C':bf} (h:jQ C) (e:C'.ay=C.ay):jQ C':=⟨by rw [e];exact h.len,by rw [e];exact h.apart⟩
theorem Ka:∀ {ls:List cH} {j:Nat} {l:cH},ls[j]?=some l->l.pair.a6≠[]->0<f0 ls:=by
 intro ls j l a aj;rcases wP (f0 ls) with e | e
 ·exact absurd (ti e l (cj a)) aj
 ·exact e
theorem wc {cv:Conv} {F:aB} {t:bL cv} (h:0<F.waiting t.aP):b4 F t=(F,t):=by unfold b4;rw [if_pos (.inr (.inr h))]
theorem qn {F:aB} (d:cb F) {cw:aB} (h:ft c j F=some cw):0<F.waiting c:=by
 obtain ⟨C,l,n,a,f,g,aj,rfl⟩:=jk.1 h;have hw:=(d.ca.ok.aP c C a).waiting;have i:=Ka f (λe=>aj (by rw [e];rfl));unfold aB.waiting;have b:F.cC (c:Int)=some C:=by unfold aB.cC;rw [if_neg (by omega)];simpa using a
 rw [b];show 0<C.waiting;omega
end
section
theorem iw (F:aB) (c:Nat):F.cC (c:Int)=F.aU[c]?:=by unfold aB.cC;rw [if_neg (by omega)];simp
theorem Fy:∀ (vs:List aG) (C:bf) (k:Nat),(C.eS k vs).ay.length=C.ay.length
 | [],C,k=>rfl
 |v::vs,C,k=>by rw [FH,Fy vs];simp [bf.eK]
theorem fN.fS {c:Nat} {F:aB} (h:fN c F) {C':bf} (f:jQ C') (g:C'.ay.length<=F.nodes.length):fN c (F.fS (c:Int) C'):=by
 unfold aB.fS;rw [fT];refine ⟨h.hC,λi C d a=>?_,λC a=>?_,λC a=>?_⟩
 ·simp only [gg (λe=>d e.symm)] at a;exact h.idle i C d a
 ·have b:c<F.aU.length:=by have:=cz a;simpa using this
  simp only [ei b] at a;cases a;exact f
 ·have b:c<F.aU.length:=by have:=cz a;simpa using this
  simp only [ei b] at a;cases a;exact g
def sq (c:Nat) (F:aB):Prop:=∀ C,F.aU[c]?=some C->∀ l ∈ C.ay,l.pair.a6=[]
theorem fN.post {c:Nat} {F:aB} (h:fN c F) (k:sq c F) (vs:List aG):fN c (F.post (c:Int) vs).2:=by
 unfold aB.post;rw [iw];cases e:F.aU[c]? with
 |none=>exact h
 |some C=>
  simp only;split
  ·exact h
  split
  ·exact h
  split
  ·exact h
  split
  ·exact h
  split
  ·exact h
  have a:=h.apart C e;have f:Below C 0:=λi l j q d=>by have g:=a.len i l j;rw [k C e l (cj j)] at g;rw [fb g] at d;cases d
  have b:=jQ.eS vs a f;exact h.fS (C':=C.jL vs) (BK b rfl) (by show (C.eS 0 vs).ay.length<=_;rw [Fy];exact h.ay C e)
theorem fN.take {c:Nat} {F:aB} (h:fN c F):fN c (F.take (c:Int)).2/\(sq c F->sq c (F.take (c:Int)).2):=by
 unfold aB.take;rw [iw];cases b:F.aU[c]? with
 |none=>exact ⟨h,id⟩
 |some C=>
  simp only;split
  ·exact ⟨h,id⟩
  cases e:C.batch with
  |none=>exact ⟨h,id⟩
  |some ds=>
   simp only;split
   ·exact ⟨h,id⟩
   refine ⟨h.fS (C':={ C with batch:=none }) (BK (h.apart C b) rfl) (h.ay C b),λd C' a=>?_⟩;unfold aB.fS at a;rw [fT] at a;simp only [ei (cz b)] at a;cases a;exact d C b
theorem Kb {F:aB} (b:cb F) (h:¬ 0<F.waiting (c:Int)):sq c F:=by intro C a l d;have hw:=(b.ca.ok.aP c C a).waiting;unfold aB.waiting at h;rw [iw,a] at h;have h:¬ 0<C.waiting:=h;exact ti (by omega) l d
theorem fN.tail {cv:Conv} {F:aB} {t:bL cv} (h:fN c F) (a:sq c F) (b:t.aP=(c:Int)):fN c (hE F t).1:=by
 unfold hE;rw [b];split
 ·exact h
 split
 ·exact h
 split
 ·exact h.post a _
 ·exact h.post a _
theorem fN.b4 {cv:Conv} {c:Nat} {F:aB} {t:bL cv} (h:fN c F) (b:cb F) (a:t.aP=(c:Int)):fN c (b4 F t).1:=by
 unfold Go.Proofs.YtmkljjbioomepaaGreat.b4;rw [a];split
 ·exact h
 ·rename_i d;have f:=Kb b (c:=c) λe=>d (.inr (.inr e))
  refine fN.tail h.take.1 (h.take.2 f) ?_;cases (F.take (c:Int)).1<;>exact a
theorem Hz {cv:Conv} {F:aB} {t:bL cv}:(b4 F t).2.aP=t.aP:=by
 unfold Go.Proofs.YtmkljjbioomepaaGreat.b4;split
 ·rfl
 ·unfold hE;split
  ·cases (F.take t.aP).1<;>rfl
  split
  ·cases (F.take t.aP).1<;>rfl
  split
  ·cases (F.take t.aP).1<;>rfl
  ·cases (F.take t.aP).1<;>rfl
theorem fN.step {c j:Nat} {F cw:aB} (h:fN c F) (g:ft c j F=some cw):fN c cw:=by
 have b:=(AO c).ax h.apart g;obtain ⟨C,l,n,d,o,p,aj,rfl⟩:=jk.1 g;refine ⟨h.hC,λi C' f a=>?_,b,λC' a=>?_⟩
 ·simp only [gg (λe=>f e.symm)] at a;exact h.idle i C' f a
 ·simp only [ei (cz d)] at a;cases a;have k:=h.ay C d;simp only [je];cases (l.pair.step n).2.2<;>simp [bf.comes]<;>exact k
end
section
section
variable {cv:Conv}
def h8 (c j:Nat) (s:aB×bL cv):Option (aB×bL cv):=(ft c j s.1).map λcw=>b4 cw s.2
structure ha (c:Nat) (s:aB×bL cv):Prop where
 fg:cb s.1
 lp:fN c s.1
 cC:s.2.aP=(c:Int)
theorem cb.ft {F cw:aB} (h:cb F) (b:ft c j F=some cw):cb cw:=by have a:=h.step ⟨-1,c,j⟩;rw [wn b] at a;exact a
theorem lQ {s a:aB×bL cv}:h8 c j s=some a↔∃ cw,ft c j s.1=some cw/\a=b4 cw s.2:=by
 unfold h8;cases h:ft c j s.1 with
 |none=>simp
 |some cw=>simp [eq_comm]
theorem ha.b4 {c:Nat} {F:aB} {t:bL cv} (h:ha c (F,t)):ha c (b4 F t):=
 ⟨h.fg.b4 t,h.lp.b4 h.fg h.cC,by rw [Hz];exact h.cC⟩
theorem ha.ft {c j:Nat} {F cw:aB} {t:bL cv} (h:ha c (F,t)) (a:ft c j F=some cw):ha c (cw,t):=⟨h.fg.ft a,h.lp.step a,h.cC⟩
theorem AP (c:Nat):xF (h8 (cv:=cv) c) (ha c):=by
 refine ⟨λ{i s s1} a h=>?_,λ{i j s s1 s2} a p q=>?_⟩
 ·obtain ⟨F,t⟩:=s;obtain ⟨cw,r,rfl⟩:=lQ.1 h;exact (a.ft r).b4
 ·obtain ⟨F,t⟩:=s;obtain ⟨g,b,rfl⟩:=lQ.1 p;obtain ⟨k,d,rfl⟩:=lQ.1 q;rcases (AO c).DT a.lp.apart b d with e | ⟨f,l,n⟩
  ·exact .inl (by rw [e])
  ·have o:t.aP=(c:Int):=a.cC;have w1:b4 g t=(g,t):=wc (by rw [o];exact qn (a.ft b).fg l);have u:b4 k t=(k,t):=wc (by rw [o];exact qn (a.ft d).fg n);refine .inr ⟨b4 f t,?_,?_⟩
   ·simp only [w1];exact lQ.2 ⟨f,l,rfl⟩
   ·simp only [u];exact lQ.2 ⟨f,n,rfl⟩
theorem AQ (F:aB) (t:bL cv):turns F [t]=((b4 F t).1,[(b4 F t).2]):=rfl
theorem FT {c:Nat} (cs sch:a4):∀ (f n:Nat) {F:aB} {t:bL cv} {k:Nat} {e:aB×bL cv},ha c (F,t)->Norm (h8 c) k (b4 F t) e->k<f->gl cs sch [] f n F [t]=(e.1,[e.2])
 | 0,n,F,t,k,e,b,h,r=>by omega
 |f+1,n,F,t,k,e,b,h,r=>by
  have a:=b.b4;unfold gl;have p:iP F cs n []=F:=rfl;rw [p,AQ];rcases a.lp.fL sch n with ⟨d,g⟩ | ⟨j,cw,d,g⟩
  ·rw [d,if_neg (by simp)];cases h with
   |nil _=>rfl
   |cons i q _=>obtain ⟨cw,o,_⟩:=lQ.1 q;rw [g i] at o;cases o
  ·rw [g,if_pos rfl];obtain ⟨s,rfl,l⟩:=h.after (AP c) a (lQ.2 ⟨cw,d,rfl⟩);exact FT cs sch f (n+1) (ha.ft a d) l (by omega)
theorem HV {F:aB} {t:bL cv} (a:ha c (F,t)) {e:aB×bL cv} (d:Norm (h8 c) k (b4 F t) e) (sch:a4) {most:Nat} (b:k<most):eX F [t] sch [] most=((b4 e.1 e.2).1,[(b4 e.1 e.2).2]):=by unfold eX;rw [FT _ sch most 0 a d b];rfl
end
end
end Go.Proofs.YtmkljjbioomepaaGreat
