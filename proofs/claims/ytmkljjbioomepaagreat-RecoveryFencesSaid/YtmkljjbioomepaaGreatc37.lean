import Derived.Test.YtmkljjbioomepaaGreatc36
import Derived.Test.YtmkljjbioomepaaGreatc23
set_option linter.all false
namespace Go.Proofs.YtmkljjbioomepaaGreat
open Go.Proofs.Tryz Go.br
variable {A A':bA} {C:bP} {E:Env} {F:aM} {L c c' i j m bY q:Nat} {jg:Conv} {n x:a0} {p:aJ} {rs:cQ} {v:aP} {vs:List aP} {ws:bb}
section
open e1
structure gC where
 aB:Nat
 bs:Nat->Option aL
def l0 (E:Env) (A:bA) (v:aP):Prop:=(∀ m p,p ∈ bJ E->v=fz m p->A.bS m (bp p)=2)/\∀ m,v=cw m 32 [c7 E]->A.dK m=true
def mX (E:Env) (A:bA) (vs:List aP) (bs:Nat->Option aL):Prop:=∀ (q:Nat) (v:aP) (d:aL),vs[q]?=some v->bs q=some d->d.code=0->l0 E A v
theorem l0.mono (h:l0 E A v) (hm:dm E A A'):l0 E A' v:=⟨λm p a e=>hm.bS m _ (h.1 m p a e),λm e=>hm.dK m (h.2 m e)⟩
theorem mX.mono {E:Env} {A A':bA} {vs:List aP} {bs:Nat->Option aL} (h:mX E A vs bs) (hm:dm E A A'):mX E A' vs bs:=λq v d a b c=>(h q v d a b c).mono hm
def eZ (E:Env) (A:bA) (g:gC):Prop:=match g.aB with
 | 0=>fP E A/\(∀ m,m<E.n->A.dK m=false)/\(∀ m,m<E.n->∀ p ∈ bJ E,A.bS m (bp p)=0)/\∀ m,m<E.n->∀ d,g.bs m=some d->d.code=0->A.ey m=true
 | 1=>h7 E A/\fP E A/\∀ (q:Nat) (p:aJ),(bJ E)[q]?=some p->(g.bs q=none->A.bS 0 (bp p)=0)/\∀ d,g.bs q=some d->d.code=0->dZ d=p.Head/\(A.bS 0 (bp p)=1\/iZ E A)
 | 2=>h7 E A/\(fP E A->(∀ p ∈ bJ E,A.bS 0 (bp p)=1)\/iZ E A)/\∀ m,m<E.n->∀ d,g.bs m=some d->d.code=0->A.cF m=true
 | 3=>im E A/\mX E A (fG E (bJ E)) g.bs
 | 4=>im E A/\p6 E A/\mX E A (fV E (bJ E)) g.bs
 | 6=>l1 E A
 | _=>True
def m0 (E:Env) (A:bA) (g:gC):Prop:=∀ (q:Nat) (d:aL),g.bs q=some d->∃ v,(dV E g.aB)[q]?=some v/\((d.code=0/\(d.words.length:Int)=v.v.iE)\/(d.code=5/\d.words=[]/\A.dh v.node.toNat=true))
structure c8 where
 aB:Nat
 bs:Nat->Option aL
 eM:cQ
 aT:List bb
 cG:Int
 sp:cQ
 l:List aJ
 ev:List aJ
 c3:Int×Int
def cM (E:Env) (c:Nat) (g:c8):List aP:=match g.aB with
 | 0=>iv E.n
 | 1=>hg g.eM
 | 2=>gW c
 | 3=>gJ E.n
 | 4=>gz E g.sp
 | 5=>gL (bJ E)
 | 6=>fG E g.l
 | 7=>fV E g.l
 | 8=>ih g.ev
 | 9=>gF c
 | _=>[]
def ez (E:Env) (c:Nat) (g:c8):List (List aL)->cn×dz:=match g.aB with
 | 0=>qD E c
 | 1=>me E c g.eM
 | 2=>kQ E c
 | 3=>og E c
 | 4=>λX=>ft E c g.aT g.cG g.c3 (km E g.sp X)
 | 5=>λX=>ft E c g.aT g.cG g.c3 (kl E X)
 | 6=>λX=>ft E c g.aT g.cG g.c3 (jS E g.l X)
 | 7=>λX=>ft E c g.aT g.cG g.c3 (mg E g.l X)
 | 8=>λX=>ft E c g.aT g.cG g.c3 (nf g.ev X)
 | _=>m8 E c g.aT g.cG g.c3
def Own (E:Env) (A:bA) (c:Nat):Prop:=iZ E A/\A.dU=gy c
def vV (E:Env) (A:bA) (l:List aJ):Prop:=(∀ p ∈ l,p ∈ bJ E)/\l.length<=12/\∀ p ∈ bJ E,p ∈ l\/A.bS 0 (bp p)=2
def Fin (E:Env) (A:bA) (g:c8):Prop:=(l1 E A/\g.c3.1=2/\jA E.L g.cG g.aT=c7 E+1)\/(o1 E A/\g.c3.1≠2)
def gE (g:c8):Prop:=(g.aB=2/\∃ d,g.bs 0=some d/\dZ d=0)\/(3<=g.aB/\g.aB<=10)
def rz (bz:List a0) (v:aP):bb:=match bz[v.node.toNat]? with
 |none=>[]
 |some x=>(x.words.drop v.at_.toNat).take v.n.toNat
def cB (E:Env) (rs:cQ) (A:bA) (bz:List a0) (gr:Nat->c8) (c:Nat):Prop:=match (gr c).aB with
 | 0=>∀ m,m<E.n->∀ d,(gr c).bs m=some d->dZ d=1\/(dZ d=2/\A.dh m=true)
 | 1=>(∀ m,m<E.n->m ∉ (gr c).eM->A.dh m=true)/\(∀ m ∈ (gr c).eM,m<E.n)/\∀ (q m:Nat) (d:aL),(gr c).eM[q]?=some m->(gr c).bs q=some d->A.dh m=true/\(dZ d=1\/dZ d=2)
 | 2=>iZ E A/\∀ d,(gr c).bs 0=some d->(dZ d=0/\A.dU=gy c)\/∃ c' ∈ rs,c'≠c/\dZ d=gy c'/\gE (gr c')
 | 3=>Own E A c/\∀ (q:Nat) (v:aP) (d:aL),(gJ E.n)[q]?=some v->(gr c).bs q=some d->d.words=rz bz v
 | 4=>Own E A c/\h7 E A/\(∃ m,m<E.n/\A.cF m=true)/\(∀ p ∈ bJ E,A.bS 0 (bp p)≠0)/\(∀ m,m<E.n->m ∉ (gr c).sp->A.cF m=true)/\(∀ m ∈ (gr c).sp,m<E.n)/\(gr c).sp.Nodup/\(∀ (k m:Nat),(gr c).sp[k]?=some m->(gr c).bs (k * 3)=none->A.cF m=false)/\∀ (q m:Nat) (d:aL),(gz E (gr c).sp)[q]?=some (cw m 48 [h4 E])->(gr c).bs q=some d->A.cF m=true
 | 5=>Own E A c/\im E A/\∀ (q:Nat) (p:aJ) (d:aL),(bJ E)[q]?=some p->(gr c).bs q=some d->(dZ d=eJ p.Head 0↔A.bS 0 (bp p)=1)
 | 6=>Own E A c/\im E A/\vV E A (gr c).l/\mX E A (fG E (gr c).l) (gr c).bs
 | 7=>Own E A c/\im E A/\p6 E A/\vV E A (gr c).l/\mX E A (fV E (gr c).l) (gr c).bs
 | 8=>Own E A c/\fP E A/\((gr c).ev=bJ E\/∀ p ∈ bJ E,A.bS 0 (bp p)=0)/\(gr c).ev.length<=12/\(∀ p ∈ (gr c).ev,96<=p.bn/\p.bn<E.L)/\∀ (q:Nat) (p:aJ) (d:aL),(gr c).ev[q]?=some p->(gr c).bs q=some d->p ∈ bJ E->A.bS 0 (bp p)=0
 | 9=>iZ E A/\((gr c).bs 0=none->A.dU=gy c)/\Fin E A (gr c)
 | 10=>iZ E A/\Fin E A (gr c)
 | 11=>∃ c' ∈ rs,c'≠c/\gE (gr c')
 | _=>True
def lx (E:Env) (g:c8):Prop:=(4<=g.aB/\g.aB<=7->g.c3.1=2/\jA E.L g.cG g.aT=c7 E+1)/\(g.aB=8->g.c3.1≠2)
def l4 (E:Env) (c:Nat) (g:c8):Prop:=∀ (q:Nat) (d:aL),g.bs q=some d->∃ v,(cM E c g)[q]?=some v/\d.code=0/\(d.words.length:Int)=v.v.iE
def hY (g:c8):Prop:=(g.aB=2/\∃ d,g.bs 0=some d/\dZ d=0)\/(3<=g.aB/\g.aB<=8)\/(g.aB=9/\g.bs 0=none)
def tH (rs:cQ) (A:bA) (gr:Nat->c8):Prop:=A.dU=0\/∃ c ∈ rs,A.dU=gy c/\hY (gr c)
theorem Cz (h:gy c=gy c'):c=c':=by unfold gy at h;omega
theorem yt (c:Nat):gy c≠0:=by unfold gy;omega
theorem cB.own {bz:List a0} {gr:Nat->c8} (h:cB E rs A bz gr c) (f:hY (gr c)):Own E A c:=by
 unfold cB at h;rcases f with ⟨e,d,a,b⟩ | ⟨i,j⟩ | ⟨e,a⟩
 ·rw [e] at h;rcases h.2 d a with g | ⟨c',_,_,g,_⟩
  ·exact ⟨h.1,g.2⟩
  ·rw [b] at g;exact absurd g.symm (yt c')
 ·obtain e | e | e | e | e | e:(gr c).aB=3\/(gr c).aB=4\/(gr c).aB=5\/(gr c).aB=6\/(gr c).aB=7\/(gr c).aB=8:=by omega
  all_goals
   rw [e] at h;exact h.1
 ·rw [e] at h;exact ⟨h.1,h.2.1 a⟩
structure n3 (E:Env) (A A':bA):Prop where
 mono:dm E A A'
 qO:iZ E A->fP E A->fP E A'
 jm:iZ E A->fP E A->∀ p ∈ bJ E,A.bS 0 (bp p)=0->A'.bS 0 (bp p)=0
theorem n3.Pt (h:n3 E A A') (g:o1 E A):o1 E A':=⟨h.mono.bs g.1,h.qO g.1 g.2.1,λp a=>h.jm g.1 g.2.1 p a (g.2.2 p a)⟩
theorem n3.fin (h:n3 E A A') {g:c8} (c:Fin E A g):Fin E A' g:=by
 rcases c with ⟨a,b⟩ | ⟨a,b⟩
 ·exact .inl ⟨h.mono.EX a,b⟩
 ·exact .inr ⟨h.Pt a,b⟩
theorem Own.one (h:Own E A c) (a:Own E A c'):c=c':=Cz (h.2.symm.trans a.2)
theorem cB.gw {bz l:List a0} {gr f:Nat->c8} (h:cB E rs A bz gr c) (s:f c=gr c) (a:¬ hY (gr c)) (b:n3 E A A') (hw:∀ c',gE (gr c')->gE (f c')):cB E rs A' l f c:=by
 unfold cB at h ⊢;rw [s];split at h
 ·exact λm hm d ar=>by
   rcases h m hm d ar with g | ⟨i,j⟩
   ·exact .inl g
   ·exact .inr ⟨i,b.mono.dh m j⟩
 ·exact ⟨λm hm r=>b.mono.dh m (h.1 m hm r),h.2.1,λq m d n o=>⟨b.mono.dh m (h.2.2 q m d n o).1,(h.2.2 q m d n o).2⟩⟩
 ·rename_i e;refine ⟨b.mono.bs h.1,λd ar=>?_⟩;rcases h.2 d ar with g | ⟨c',i,j,k,p⟩
  ·exact absurd (.inl ⟨e,d,ar,g.1⟩) a
  ·exact .inr ⟨c',i,j,k,hw c' p⟩
 ·rename_i e;exact absurd (.inr (.inl ⟨by omega,by omega⟩)) a
 ·rename_i e;exact absurd (.inr (.inl ⟨by omega,by omega⟩)) a
 ·rename_i e;exact absurd (.inr (.inl ⟨by omega,by omega⟩)) a
 ·rename_i e;exact absurd (.inr (.inl ⟨by omega,by omega⟩)) a
 ·rename_i e;exact absurd (.inr (.inl ⟨by omega,by omega⟩)) a
 ·rename_i e;exact absurd (.inr (.inl ⟨by omega,by omega⟩)) a
 ·rename_i e;refine ⟨b.mono.bs h.1,λar=>absurd (.inr (.inr ⟨e,ar⟩)) a,b.fin h.2.2⟩
 ·exact ⟨b.mono.bs h.1,b.fin h.2⟩
 ·obtain ⟨c',i,j,k⟩:=h;exact ⟨c',i,j,hw c' k⟩
 ·trivial
theorem cB.stay {bz:List a0} {gr a:Nat->c8} (h:cB E rs A bz gr c) (j:a c=gr c) (hw:∀ c',gE (gr c')->gE (a c')):cB E rs A bz a c:=by
 unfold cB at h ⊢;rw [j];split at h
 ·exact h
 ·exact h
 ·refine ⟨h.1,λd ar=>?_⟩;rcases h.2 d ar with g | ⟨c',b,e,f,i⟩
  ·exact .inl g
  ·exact .inr ⟨c',b,e,f,hw c' i⟩
 all_goals first | exact h | skip
 ·obtain ⟨c',b,e,f⟩:=h;exact ⟨c',b,e,hw c' f⟩
structure n6 (E:Env) (A A':bA):Prop where
 mono:dm E A A'
 qO:fP E A->fP E A'
 some_:fP E A'->fP E A
 dK:fP E A->∀ m,m<E.n->A.dK m=false->A'.dK m=false
 uj:fP E A->∀ m,m<E.n->∀ p ∈ bJ E,A.bS m (bp p)=0->A'.bS m (bp p)=0
 FO:fP E A->∀ p ∈ bJ E,A.bS 0 (bp p)=1->A'.bS 0 (bp p)=1\/iZ E A
theorem eZ.rec {E:Env} (r:1<=E.n) {A A':bA} {g:gC} (h:eZ E A g) (e:n6 E A A'):eZ E A' g:=by
 unfold eZ at h ⊢;split at h
 ·obtain ⟨a,b,c,d⟩:=h;exact ⟨e.qO a,λm hm=>e.dK a m hm (b m hm),λm hm p f=>e.uj a m hm p f (c m hm p f),λm hm x l o=>e.mono.ey m (d m hm x l o)⟩
 ·obtain ⟨a,b,c⟩:=h;refine ⟨e.mono.lb a,e.qO b,λq p f=>⟨λar=>?_,λd ar t=>?_⟩⟩
  ·exact e.uj b 0 r p (cg f) ((c q p f).1 ar)
  ·obtain ⟨s,j⟩:=(c q p f).2 d ar t;refine ⟨s,?_⟩;rcases j with j | j
   ·rcases e.FO b p (cg f) j with i | i
    ·exact .inl i
    ·exact .inr (e.mono.bs i)
   ·exact .inr (e.mono.bs j)
 ·obtain ⟨a,b,c⟩:=h;refine ⟨e.mono.lb a,λr=>?_,λm hm d l o=>e.mono.cF m (c m hm d l o)⟩;have k:=e.some_ r;rcases b k with g | g
  ·by_cases ar:iZ E A
   ·exact .inr (e.mono.bs ar)
   ·refine .inl λp f=>?_
    rcases e.FO k p f (g p f) with i | i
    ·exact i
    ·exact absurd i ar
  ·exact .inr (e.mono.bs g)
 ·exact ⟨e.mono.am h.1,h.2.mono e.mono⟩
 ·exact ⟨e.mono.am h.1,e.mono.qv h.2.1,h.2.2.mono e.mono⟩
 ·exact e.mono.EX h
 ·trivial
end
section
open e1
theorem vk {α:Type} {k:Nat} (g:0<k):∀ {hj:List (List α)} {q:Nat} {v:α},(∀ b ∈ hj,b.length=k)->hj.flatten[q]?=some v->∃ (i:Nat) (b:List α),hj[i]?=some b/\i * k<=q/\b[q - i * k]?=some v
 | [],q,v,_,h=>by simp at h
 |b::hj,q,v,a,h=>by
  have n:=a b e_;rw [gR] at h;by_cases j:q<b.length
  ·rw [hP j] at h;exact ⟨0,b,rfl,by omega,by simpa using h⟩
  ·rw [hQ (by omega)] at h;obtain ⟨i,c,d,l,e⟩:=vk g (λc f=>a c (fD _ f)) h;refine ⟨i+1,c,by simpa using d,by rw [h5];omega,?_⟩;rw [h5,<-e];congr 1;omega
theorem sL {α:Type} {k:Nat}:∀ {hj:List (List α)} {i r:Nat} {b:List α} {v:α},(∀ b ∈ hj,b.length=k)->hj[i]?=some b->b[r]?=some v->hj.flatten[i * k+r]?=some v
 | [],i,r,b,v,_,h,_=>by simp at h
 |c::hj,0,r,b,v,d,h,a=>by simp at h;subst h;rw [gR,hP (by have:=ch a;omega),uV,g3];exact a
 |c::hj,i+1,r,b,v,d,h,a=>by have f:=d c e_;rw [gR,hQ (by rw [h5];omega),f,h5,show i * k+k+r - k=i * k+r by omega];exact sL (λc e=>d c (fD _ e)) (by simpa using h) a
theorem gB.before {bs:Nat->Option aL} (h:gB C vs bs) {l:cP} (f:C.aD[j]?=some l) {b_:cQ} (g:l.bT=q::b_) {cx:Nat} {bj:aP} (k:cx<q) (an:vs[cx]?=some bj) (n:bj.node.toNat=j):∃ d,bs cx=some d:=by
 cases ar:bs cx with
 |some d=>exact ⟨d,rfl⟩
 |none=>
  exfalso;obtain ⟨p,l',a,hm⟩:=h.left cx (ch an) ar;obtain ⟨t,o⟩:=eF.1 hm;obtain ⟨v,c,_,i,_⟩:=(h.lane p l' a).at_ t cx o
  rw [an] at c;cases c;rw [<-i,n] at a;rw [f] at a;cases a;have b:=(h.lane j l f).v5;rw [g,List.pairwise_cons] at b;rw [g] at hm;rcases e9.1 hm with e | e
  ·omega
  ·have:=b.1 cx e;omega
section
variable {E:Env} {l:List aJ}
theorem vR (h:(fG E l)[q]?=some v):∃ m,m+1<E.n/\v.node=((m+1:Nat):Int)/\((∃ p ∈ l,v=fz (m+1) p)\/(v=cw (m+1) 32 [c7 E]/\∀ p ∈ l,∃ cx,cx<q/\(fG E l)[cx]?=some (fz (m+1) p))):=by
 have e:∀ b ∈ (List.range (E.n - 1)).map (λm=>l.map (fz (m+1))++[cw (m+1) 32 [c7 E]]),b.length=l.length+1:=λb e=>by obtain ⟨m,_,rfl⟩:=cW.1 e;simp
 obtain ⟨i,b,c,t,a⟩:=vk (by omega) e h;have k:=ch c;simp only [fC,lr] at k;have f:=c;rw [d',ka k] at c;simp only [mV,e8] at c;subst c;refine ⟨i,by omega,?_⟩;by_cases o:q - i * (l.length+1)<l.length
 ·rw [hP (by simpa using o),d'] at a;obtain ⟨p,g,rfl⟩:=kK.1 a;exact ⟨rfl,.inl ⟨p,cg g,rfl⟩⟩
 ·rw [hQ (by simpa using o)] at a;have:=ch a;simp only [fC,s3] at this;have s:q - i * (l.length+1) - (l.map (fz (i+1))).length=0:=by simp only [fC];omega
  rw [s] at a;simp only [rf,e8] at a;subst a;refine ⟨rfl,.inr ⟨rfl,λp g=>?_⟩⟩;obtain ⟨r,d⟩:=eF.1 g;have j:=ch d;refine ⟨i * (l.length+1)+r,by omega,sL e f ?_⟩;rw [hP (by simpa using j),d',d];rfl
theorem vS (h:(fV E l)[q]?=some v):v.node=0/\((q=0/\v=cw 0 32 [c7 E])\/(0<q/\∃ p ∈ l,v=fz 0 p)):=by
 cases q with
 |zero=>simp [fV] at h;subst h;exact ⟨rfl,.inl ⟨rfl,rfl⟩⟩
 |succ q=>unfold fV at h;rw [nO,d'] at h;obtain ⟨p,a,rfl⟩:=kK.1 h;exact ⟨rfl,.inr ⟨by omega,p,cg a,rfl⟩⟩
theorem O_ {p':aJ} (h:fz m p=fz bY p') (d:0<=p.bn) (a:0<=p'.bn):m=bY/\bp p=bp p':=by
 have b:(m:Int)=bY:=congrArg aP.node h;have c:p.bn * 8=p'.bn * 8:=congrArg aP.at_ h;refine ⟨by omega,?_⟩;show p.bn.toNat=p'.bn.toNat
 have:p.bn=p'.bn:=by omega
 rw [this]
theorem D3 (b:96<=p.bn):fz m p≠cw bY 32 [c7 E]:=λh=>by have a:p.bn * 8=32:=congrArg aP.at_ h;omega
theorem Ux {a:Int} (h:cw m a ws=cw bY a ws):m=bY:=by have b:(m:Int)=bY:=congrArg aP.node h;omega
theorem D4 (ay:b5 E) (f:p ∈ bJ E) (h:A.bS m (bp p)=2):l0 E A (fz m p):=by have g:=ay.pl f;refine ⟨λbY p' c e=>?_,λbY e=>absurd e (D3 (by omega))⟩;have d:=ay.pl c;obtain ⟨a,b⟩:=O_ e (by omega) (by omega);rw [<-a,<-b];exact h
theorem D5 (ay:b5 E) (h:A.dK m=true):l0 E A (cw m 32 [c7 E]):=by refine ⟨λbY p' a e=>absurd e.symm (D3 (by have:=ay.pl a;omega)),λbY e=>?_⟩;rw [<-Ux e];exact h
theorem rA (ay:b5 E) (hm:m<E.n) (b:p ∈ bJ E):h9 E.n E.L (fz m p):=by have d:=ay.pl b;have a:=ay.e.n;have c:=ay.e.L;exact nJ a.2 hm (by omega) (by omega) (by show 1<=8;omega) (by show 8<=1000;omega) (by show p.bn * 8+(8:Int)<=_;omega)
theorem rm (ay:b5 E) (hm:m<E.n):h9 E.n E.L (cw m 32 [c7 E]):=by have a:=ay.e.n;have b:=ay.e.L;exact nJ a.2 hm (by omega) (by omega) (by simp) (by simp) (by simp;omega)
end
theorem Ey {p:c4} {eU:List aP} {a:Nat} (i:fH p) (d:p.ba=cw m a ws::eU) (l:p.refusal (cw m a ws) x=0) (j:a % 8=0) (ar:p.words=[]) (k:a+ws.length<=x.words.length) (h:ws.length<=8):p.step x=(p.done,x.write a ws,some ⟨0,[]⟩):=by
 obtain ⟨n,b,_,_,c⟩:=y_ i d l j ar k;have e:p.bD=0:=by omega
 rw [e] at b c;rcases c with c | ⟨_,f,g⟩
 ·omega
 ·have hw:(ws.drop (8 * 0)).take 8=ws:=by rw [Nat.mul_zero,sW,hO h]
  rw [hw] at b;exact Prod.ext f (Prod.ext b g)
section
variable {E:Env} {A:bA} {bz:List a0} {l:List aJ}
theorem D6 (ay:b5 E) (r:jv E A bz) (w:e2 E A) (z:im E A) (n:∀ p ∈ l,p ∈ bJ E) (an:(fG E l)[q]?=some v) (F:v.node.toNat=j) (t:bz[j]?=some x) (h:∀ (cx:Nat) (bj:aP),cx<q->(fG E l)[cx]?=some bj->bj.node.toNat=j->l0 E A bj) (G:∀ p ∈ bJ E,p ∈ l\/A.bS j (bp p)=2) :
  ∃ (a:Nat) (ws:bb) (A':bA),v=cw j (a:Int) ws/\a % 8=0/\ws.length<=8/\a+ws.length<=x.words.length/\jv E A' (bz.set j (x.write a ws))/\e2 E A'/\l0 E A' v/\dm E A A'/\(A'.dU,A'.dh)=(A.dU,A.dh)/\A'.cF=A.cF/\(∀ m l',A'.bS m l'=A.bS m l'\/1<=m):=by
 obtain ⟨m,hm,d,D⟩:=vR an;have s:j=m+1:=by rw [<-F,d];simp
 subst s;have b:=r.mem _ x t;have J:=b.aQ.len;have I:=ay.mn;rcases D with ⟨p,o,rfl⟩ | ⟨rfl,i⟩
 ·have f:=n p o;have H:=ay.pl f;refine ⟨bp p * 8,ir p,A.gO (m+1) (bp p) 2,?_,by omega,by show 8<=8;omega,by show bp p * 8+8<=_;omega,r.fh t (b.new ay f) λbY c y u=>?_,w.jm (by omega) (λ_=>by omega) (λe=>by omega) (λ_=>z) (λ_ e=>by omega) (λ_ _=>rfl),D4 ay f ?_,vg λ_=>rfl,rfl,rfl,λk l'=>?_⟩
  ·show cw (m+1) (p.bn * 8) (ir p)=_;rw [show p.bn * 8=((bp p * 8:Nat):Int) by omega]
  ·exact u.same (λp' _=>by simp [bA.gO,c]) rfl rfl rfl rfl (λ_=>rfl)
  ·simp [bA.gO]
  ·simp only [bA.gO];split
   ·rename_i g;exact .inr (by omega)
   ·exact .inl rfl
 ·refine ⟨32,[c7 E],A.k_ (m+1),rfl,by omega,by simp,by simp;omega,r.fh t (b.tT ay) λbY c y u=>?_,w.tT z (λe=>by omega) (λ_ p o=>?_),D5 ay (by simp [bA.k_]),Db,rfl,rfl,λk l'=>.inl rfl⟩
  ·exact u.same (λp' _=>rfl) rfl (by simp [bA.k_,c]) rfl rfl (λ_=>rfl)
  ·rcases G p o with g | g
   ·obtain ⟨cx,B,C⟩:=i p g;exact (h cx _ B C (by simp [fz,cw])).1 _ p o rfl
   ·exact g
theorem D7 (ay:b5 E) (i:jv E A bz) (s:e2 E A) (t:im E A) (w:p6 E A) (h:∀ p ∈ l,p ∈ bJ E) (an:(fV E l)[q]?=some v) (B:v.node.toNat=j) (o:bz[j]?=some x) (g:∀ (cx:Nat) (bj:aP),cx<q->(fV E l)[cx]?=some bj->bj.node.toNat=j->l0 E A bj) :
  ∃ (a:Nat) (ws:bb) (A':bA),j=0/\v=cw j (a:Int) ws/\a % 8=0/\ws.length<=8/\a+ws.length<=x.words.length/\jv E A' (bz.set j (x.write a ws))/\e2 E A'/\l0 E A' v/\dm E A A'/\(A'.dU,A'.dh)=(A.dU,A.dh)/\A'.cF=A.cF:=by
 obtain ⟨d,z⟩:=vS an;have n:j=0:=by rw [<-B,d];rfl
 subst n;have b:=i.mem _ x o;have G:=b.aQ.len;have D:=ay.mn;rcases z with ⟨_,rfl⟩ | ⟨u,p,F,rfl⟩
 ·refine ⟨32,[c7 E],A.k_ 0,rfl,rfl,by omega,by simp,by simp;omega,i.fh o (b.tT ay) λbY c y r=>?_,s.tT t (λ_=>w) (λe=>by omega),D5 ay (by simp [bA.k_]),Db,rfl,rfl⟩;exact r.same (λp' _=>rfl) rfl (by simp [bA.k_,c]) rfl rfl (λ_=>rfl)
 ·have f:=h p F;have C:=ay.pl f;have k:=(g 0 (cw 0 32 [c7 E]) u rfl rfl).2 0 rfl;refine ⟨bp p * 8,ir p,A.gO 0 (bp p) 2,rfl,?_,by omega,by show 8<=8;omega,by show bp p * 8+8<=_;omega,i.fh o (b.new ay f) λbY c y r=>?_,s.jm (by omega) (λe=>by omega) (λe=>by omega) (λ_=>t) (λ_ _=>k) (λe=>by omega),D4 ay f ?_,vg λ_=>rfl,rfl,rfl⟩
  ·show cw 0 (p.bn * 8) (ir p)=_;rw [show p.bn * 8=((bp p * 8:Nat):Int) by omega]
  ·exact r.same (λp' _=>by simp [bA.gO,c]) rfl rfl rfl rfl (λ_=>rfl)
  ·simp [bA.gO]
end
end
section
open e1
section
variable {E:Env} {bz:List a0} {i m:Nat} {x gm:a0}
end
end
section
open e1
theorem eu.pl {j:cS} (h:eu E i j) (c:p ∈ j.writes):p.bn=((p.bn.toNat:Nat):Int)/\96<=p.bn.toNat/\p.bn.toNat<E.L:=by obtain ⟨l,e,a,b⟩:=h.line p c;rw [e,fY];exact ⟨rfl,a,b⟩
end
section
open e1
section
variable {E:Env} {i:Nat} {j:cS}
theorem MS (h:eu E i j) (c:1<=E.n) (an:(dF j)[q]?=some v):(∃ p ∈ j.writes,j.writes[q]?=some p/\v=wa (p.bn * 8) p.Head (eJ p.Head i))\/∃ s ∈ j.reads,v=Ac (s.bn * 8):=by
 rw [h.Fw c] at an;by_cases a:q<j.writes.length
 ·rw [hP (by simpa using a),d',bF a] at an;cases an;exact .inl ⟨_,kb a,bF a,rfl⟩
 ·rw [hQ (by simpa using a),d'] at an;cases b:j.reads[q - (j.writes.map λp=>wa (p.bn * 8) p.Head (eJ p.Head i)).length]? with
  |none=>rw [b] at an;cases an
  |some s=>rw [b] at an;cases an;exact .inr ⟨s,cg b,rfl⟩
end
end
section
open e1
section
variable {n L:Nat} {p:c4} {x:a0} {eU:List aP}
end
section
variable {E:Env} {i:Nat} {j:cS}
end
end
section
open e1
section
variable {E:Env} {bz:List a0} {i m q:Nat} {p:c4} {x:a0} {v:aP} {bs:Nat->Option aL} {D:List aL}
end
end
section
open e1
def iB (l:cP):Nat:=(l.pair.ba.map λv=>v.v.pieces.length).sum - l.pair.bD
def iA (C:bP):Nat:=(C.aD.map iB).sum
theorem yu:∀ {l:cQ} {i:Nat} {a b:Nat},l[i]?=some a->(l.set i b).sum+a=l.sum+b
 | [],i,a,b,h=>by simp at h
 |x::l,0,a,b,h=>by simp only [rf,e8] at h;subst h;simp only [x3,j_];omega
 |x::l,i+1,a,b,h=>by have:=yu (l:=l) (i:=i) (a:=a) (b:=b) (by simpa using h);simp only [AP,j_];omega
theorem Kt {p:c4} (c:fH p) (f:∀ v eU,p.ba=v::eU->p.refusal v n=0) {l l':cP} (d:l.pair=p) (b:l'.pair=(p.step n).1) (an:p.ba≠[]):iB l'<iB l:=by
 obtain ⟨v,eU,a⟩:=sX an;have g:=c.hL v eU a;unfold iB;rw [d,b,uM a (f v eU a),a];simp only [gA,j_];split
 ·rename_i e;show ((v::eU).map _).sum - (p.bD+1)<_;simp only [gA,j_];omega
 ·show (p.ba.tail.map _).sum - 0<_;rw [a];simp only [List.tail_cons];omega
def vp (p:c4):Prop:=∀ v eU,p.ba=v::eU->v.kind=2->p.words=[]
theorem KF {p:c4} (ar:vp p):vp (p.step n).1:=by
 unfold c4.step;cases an:p.ba with
 |nil=>exact ar
 |cons x xs=>
  simp only;split
  ·exact λ_ _ _ _=>rfl
  ·split
   ·intro v eU e a;have e:x::xs=v::eU:=e;cases e;show p.words++(exec x _ n).2=[];rw [ar x xs an a];unfold exec;rw [if_neg (by omega),if_pos a];rfl
   ·exact λ_ _ _ _=>rfl
def hr (C:bP):Prop:=∀ (k:Nat) (l:cP),C.aD[k]?=some l->l.pair.ba=[]
end
section
open e1
def oB:Nat->Nat
 | 0=>106
 | 1=>70
 | 2=>65
 | 3=>13
 | 8=>700
 | _=>0
def cost (vs:List aP):Nat:=(vs.map λv=>v.v.pieces.length).sum
theorem lK {k:Nat}:∀ {vs:List aP},(∀ v ∈ vs,v.v.count.toNat<=k)->cost vs<=vs.length * k
 | [],_=>by simp [cost]
 |v::vs,h=>by
  have a:=lK λu hu=>h u (fD _ hu)
  have b:=h v e_;have c:v.v.pieces.length<=v.v.count.toNat:=ms _ _ _;unfold cost at a ⊢;simp only [gA,j_,hh];rw [h5];omega
section
variable {E:Env} {i:Nat} {j:cS}
theorem Ku (ay:p9 E) (h:eu E i j):cost (nH j)<=555:=by
 have d:=ps j.seq j.writes;have c:=h.eA;have a:cost (nH j)<=(nH j).length * 111:=lK λv an=>by rw [h.zw] at an;obtain ⟨m,_,rfl⟩:=cW.1 an;show ((fc j.seq j.writes).length:Int).toNat<=111;omega
 have b:(nH j).length=E.n:=by rw [h.zw];simp
 have:=ay.n;rw [b] at a;omega
theorem Kv (ay:p9 E) (h:eu E i j):cost (nI j)<=5:=by
 have a:cost (nI j)<=(nI j).length * 1:=lK λv an=>by rw [h.zW] at an;obtain ⟨m,_,rfl⟩:=cW.1 an;exact cO _
 have b:(nI j).length=E.n:=by rw [h.zW];simp
 have:=ay.n;omega
theorem Kw (ay:p9 E) (h:eu E i j):cost (dF j)<=36:=by
 have b:cost (dF j)<=(dF j).length * 1:=lK λv an=>by
  obtain ⟨q,a⟩:=eF.1 an;rcases MS h ay.n.1 a with ⟨p,_,_,rfl⟩ | ⟨s,_,rfl⟩
  ·exact cO _
  ·exact cO _
 have c:(dF j).length=j.writes.length+j.reads.length:=by unfold dF;simp
 have:=h.eA;have:=h.xn;omega
theorem CA (ay:p9 E) (h:eu E i j):cost (hU j)<=13:=by
 have k:=h.eA;have c:∀ l:List aJ,(∀ p ∈ l,p ∈ j.writes)->cost (l.map (fz 0))<=l.length:=λl a=>by
  induction l with
  |nil=>simp [cost]
  |cons p l f=>
   have:=f λq e=>a q (fD _ e)
   unfold cost at this ⊢;simp only [gA,j_,hh];have b:=h.pl (a p e_);have:(fz 0 p).v.pieces=[(p.bn * 8,8)]:=qJ (v:=(fz 0 p).v) (by show (1:Int)<=8;omega) (by show p.bn * 8 % 8+8<=8;omega) (by show 0<=p.bn * 8;omega);rw [this,s3];omega
 have d:=c j.writes λp b=>b
 rw [h.EY ay.n.1];unfold cost at d ⊢;simp only [gA,j_];have g:=h.i6;have:(ob i j.seq 0).v.pieces=[(32+(i:Int),1)]:=qJ (v:=(ob i j.seq 0).v) (by show (1:Int)<=1;omega) (by show (32+(i:Int)) % 8+1<=8;omega) (by show 0<=32+(i:Int);omega);rw [this,s3];omega
theorem oo (a b:List aP):cost (a++b)=cost a+cost b:=by simp [cost]
theorem If (ay:p9 E) (h:eu E i j):cost (p8 j)<=52:=by
 have r:=h.eA;have o:=h.i6;have c:∀ (m:Nat) (l:List aJ),(∀ p ∈ l,p ∈ j.writes)->cost (l.map (fz m))<=l.length:=λm l d=>by
  induction l with
  |nil=>simp [cost]
  |cons p l f=>
   have:=f λq g=>d q (fD _ g)
   unfold cost at this ⊢;simp only [gA,j_,hh];have e:=h.pl (d p e_);have:(fz m p).v.pieces=[(p.bn * 8,8)]:=qJ (v:=(fz m p).v) (by show (1:Int)<=8;omega) (by show p.bn * 8 % 8+8<=8;omega) (by show 0<=p.bn * 8;omega);rw [this,s3];omega
 have b:∀ m,cost [ob i j.seq m]=1:=λm=>by have:(ob i j.seq m).v.pieces=[(32+(i:Int),1)]:=qJ (v:=(ob i j.seq m).v) (by show (1:Int)<=1;omega) (by show (32+(i:Int)) % 8+1<=8;omega) (by show 0<=32+(i:Int);omega);simp [cost,this]
 have a:∀ k:Nat,cost ((List.range k).map λm=>j.writes.map (fz (m+1))++[ob i j.seq (m+1)]).flatten<=k * 13:=λk=>by
  induction k with
  |zero=>simp [cost]
  |succ k f=>
   rw [j9,iX,AU,oo];simp only [gA,rk,gR,List.flatten_nil,iW];rw [oo,b];have:=c (k+1) j.writes λp e=>e
   omega
 rw [h.EM];have:=a (E.n - 1);have:=ay.n;omega
variable (ay:p9 E) (h:eu E i j)
include ay h
end
end
section
open e1
theorem KG {α:Type} {l:List α} {a:α} (h:l[i]?=some a):l.set i a=l:=by
 apply j';intro k;by_cases e:i=k
 ·subst e;rw [jK (ch h),h]
 ·rw [h6 e]
def g0 (F:aM) (i:Nat) (C:bP):aM:={ F with aX:=F.aX.set i C }
theorem Dt (a:F.aX[i]?=some C) (b:C.alive=true) (hw:C.waiting=0):F.take (i:Int)=(C.batch,g0 F i { C with batch:=none }):=by
 unfold aM.take;rw [jX,a];simp only;rw [if_neg (by rw [b];simp)];cases c:C.batch with
 |none=>
  have e:({ C with batch:=none }:bP)=C:=by rw [<-c]
  simp only;rw [e];unfold g0;rw [KG a]
 |some ds=>simp only;rw [if_neg (by omega)];rfl
theorem Hb {n L:Nat} {N:Int} (a:(n:Int)=N) (b:n<=5):∀ {vs:List aP},(∀ v ∈ vs,h9 n L v)->jz N L vs=0
 | [],_=>rfl
 |v::vs,h=>by unfold jz;rw [if_neg (by rw [(h v e_).valid N (by omega) (by omega)];simp)];exact Hb a b λu hu=>h u (fD _ hu)
theorem MT {n:Nat} (b:F.aX[i]?=some C) (d:C.alive=true) (f:C.batch=none) (an:vs≠[]) (j:vs.length<=1024) (h:F.nodes.length=n) (a:n<=5) (c:F.lines=L) (g:∀ v ∈ vs,h9 n L v):F.post (i:Int) vs=(0,g0 F i (C.kz vs)):=by
 unfold aM.post;rw [jX,b];simp only;rw [if_neg (by rw [d];simp),if_neg (by rw [f];simp),if_neg (λe=>an (nP.1 e)),if_neg (by omega),if_neg]
 ·rfl
 ·rw [c,Hb (n:=n) (by rw [h]) a g];simp
def e6 (t:b9 jg) (C:bP):List (List aL):=match C.batch with
 |none=>t.a7
 |some ds=>t.a7++[ds]
theorem Du (t:b9 jg) (C:bP):t.zJ C.batch={ t with a7:=e6 t C }:=by unfold e6 b9.zJ;cases C.batch<;>rfl
theorem BI {n:Nat} {t:b9 jg} (a:F.aX[i]?=some C) (d:C.alive=true) (hw:C.waiting=0) (b:t.a3=(i:Int)) (r:t.eK=false) (l:(e6 t C).length<=200) {o:jg.O} (h:jg.next t.bN (e6 t C)=(vs,o,false)) (an:vs≠[]) (p:vs.length<=1024) (q:F.nodes.length=n) (f:n<=5) (j:F.lines=L) (k:∀ v ∈ vs,h9 n L v) :
  cV F t=(g0 F i (({ C with batch:=none }:bP).kz vs),{ t with a7:=e6 t C,eK:=false,out:=o }):=by
 have e:F.alive t.a3=true:=by unfold aM.alive;rw [b,jX,a];exact d
 have g:F.waiting t.a3=0:=by unfold aM.waiting;rw [b,jX,a];exact hw
 unfold cV;rw [if_neg (by rw [r,e,g];simp),b,Dt a d hw];simp only;rw [Du];unfold kH;simp only;rw [if_neg (by omega),h];simp only;rw [if_neg (by simp),b];have c:(g0 F i { C with batch:=none }).aX[i]?=some { C with batch:=none }:=jK (ch a);rw [MT (F:=g0 F i { C with batch:=none }) c d rfl an p q f j k];rw [if_neg (by simp)];unfold b9.told;simp only;rw [h];unfold g0;simp only [List.set_set]
theorem BJ {t:b9 jg} (b:F.aX[i]?=some C) (e:C.alive=true) (hw:C.waiting=0) (a:t.a3=(i:Int)) (h:t.eK=false) (g:(e6 t C).length<=200) {o:jg.O} (f:jg.next t.bN (e6 t C)=([],o,true)) :
  cV F t=(g0 F i { C with batch:=none },{ t with a7:=e6 t C,eK:=true,out:=o }):=by
 have c:F.alive t.a3=true:=by unfold aM.alive;rw [a,jX,b];exact e
 have d:F.waiting t.a3=0:=by unfold aM.waiting;rw [a,jX,b];exact hw
 unfold cV;rw [if_neg (by rw [h,c,d];simp),a,Dt b e hw];simp only;rw [Du];unfold kH;simp only;rw [if_neg (by omega),f];simp only;rw [if_pos trivial];unfold b9.told;simp only;rw [f,a]
theorem MU {k:Nat} (he:∀ (m:Nat) (l:cP),C.aD[m]?=some l->l.pair.bD=0) (h:v.node.toNat<C.aD.length):iA (C.gk k v)=iA C+v.v.pieces.length/\∀ (m:Nat) (l:cP),(C.gk k v).aD[m]?=some l->l.pair.bD=0:=by
 have c:∀ m,(C.gk k v).aD[m]?=(C.aD[m]?).map λl=>if v.node.toNat=m then (⟨{ l.pair with ba:=l.pair.ba++[v] },l.bT++[k]⟩:cP) else l:=λm=>by
  unfold bP.gk;simp only [sY];cases C.aD[m]? with
  |none=>rfl
  |some l=>by_cases e:v.node.toNat=m<;>simp [e]
 obtain ⟨cU,d⟩:∃ l,C.aD[v.node.toNat]?=some l:=⟨_,bF h⟩;have f:(C.gk k v).aD.map iB=(C.aD.map iB).set v.node.toNat (iB cU+v.v.pieces.length):=by
  apply j';intro m;rw [d',c];by_cases e:v.node.toNat=m
  ·subst e;rw [jK (by simpa using h),d];simp only [mV,if_true];congr 1;have:=he _ cU d;unfold iB;simp [this]
  ·rw [h6 e,d'];cases C.aD[m]? with
   |none=>rfl
   |some l=>simp [e]
 refine ⟨?_,λm l hm=>?_⟩
 ·unfold iA;rw [f];have:=yu (l:=C.aD.map iB) (i:=v.node.toNat) (a:=iB cU) (b:=iB cU+v.v.pieces.length) (by rw [d',d];rfl);omega
 ·rw [c] at hm;cases g:C.aD[m]? with
  |none=>rw [g] at hm;cases hm
  |some dd=>
   rw [g] at hm;simp only [mV,e8] at hm;subst hm;have:=he m dd g;split
   ·exact this
   ·exact this
theorem CB:∀ (vs:List aP) {C:bP} {k:Nat},(∀ (m:Nat) (l:cP),C.aD[m]?=some l->l.pair.bD=0)->(∀ v ∈ vs,v.node.toNat<C.aD.length)->iA (C.gN k vs)=iA C+cost vs
 | [],C,k,he,a=>by simp [bP.gN,cost]
 |v::vs,C,k,he,a=>by
  obtain ⟨b,c⟩:=MU (k:=k) he (a v e_);have d:(C.gk k v).aD.length=C.aD.length:=by simp [bP.gk]
  have:=CB vs (k:=k+1) c (λu hu=>by rw [d];exact a u (fD _ hu));show iA ((C.gk k v).gN (k+1) vs)=_;rw [this,b];unfold cost;simp only [gA,j_];omega
theorem AZ:∀ (vs:List aP) (C:bP) (k:Nat),(C.gN k vs).aD.length=C.aD.length/\(C.gN k vs).inc=C.inc
 | [],C,k=>⟨rfl,rfl⟩
 |v::vs,C,k=>by obtain ⟨a,b⟩:=AZ vs (C.gk k v) (k+1);exact ⟨a.trans (by simp [bP.gk]),b⟩
theorem uF (h:hr C):iA C=0:=by
 unfold iA;have:∀ ls:List cP,(∀ l ∈ ls,l.pair.ba=[])->(ls.map iB).sum=0:=λls=>by
  induction ls with
  |nil=>intro _;rfl
  |cons l ls d=>intro a;rw [gA,j_,d λx c=>a x (fD _ c)];unfold iB;rw [a l e_];simp
 exact this C.aD λl a=>by obtain ⟨k,b⟩:=eF.1 a;exact h k l b
def dS (F:aM) (i:Nat):Nat:=match F.aX[i]? with
 |some C=>iA C
 |none=>0
end
end Go.Proofs.YtmkljjbioomepaaGreat
