import Derived.Test.YtmkljjbioomepaaGreatc35
import Derived.Test.YtmkljjbioomepaaGreatProg
import Derived.Test.YtmkljjbioomepaaGreatc03
import Derived.Test.YtmkljjbioomepaaGreatc23
set_option linter.all false
set_option maxHeartbeats 4000000
set_option maxRecDepth 100000
namespace Go.Proofs.YtmkljjbioomepaaGreat
open Go.Proofs.Tryz Go.br
section
open e1
section
variable {E:Env} {c:Nat}
def mg (E:Env) (l:List aJ) (X:List (List aL)):cn:=bL X (fV E l)
def jS (E:Env) (l:List aJ) (X:List (List aL)):cn:=if (bL X (fG E l)).ok=false then bL X (fG E l) else mg E l (bL X (fG E l)).a7
def hZ (E:Env) (D:List aL):List aJ:=gj (cv E 0) (bJ E) D (bJ E).length
def kl (E:Env) (X:List (List aL)):cn:=
 if (bL X (gL (bJ E))).ok=false then bL X (gL (bJ E)) else if (hZ E (bL X (gL (bJ E))).done).length=0 then bL X (gL (bJ E)) else jS E (hZ E (bL X (gL (bJ E))).done) (bL X (gL (bJ E))).a7
def km (E:Env) (sp:cQ) (X:List (List aL)):cn:=if (bL X (gz E sp)).ok=false then bL X (gz E sp) else kl E (bL X (gz E sp)).a7
def nf (ev:List aJ) (X:List (List aL)):cn:=bL X (ih ev)
def jG (E:Env) (A:bA):cQ:=(List.range E.n).filter λm=>!A.cF m
theorem Nj (b:1<=E.n):(cv E c).v.mem.tail=(List.range (E.n - 1)).map λm=>bg (m+1):=by
 rw [q_];cases a:E.n with
 |zero=>omega
 |succ k=>rw [sT];simp
theorem K1 (a:1<=E.n) (l:List aJ):tj (cv E c) (c7 E) l=fG E l:=by unfold tj fG;rw [Nj a,rj];rfl
theorem Nk (l:List aJ):vN (cv E c) (bg 0) (c7 E) l=fV E l:=rfl
theorem Nl (X:List (List aL)):fl (cv E c) (bg 0) (bJ E) X=bL X (gL (bJ E)):=rfl
theorem BE (ay:b5 E) {A:bA} {aT:List bb} (h:o4 E A aT) (b:h7 E A):∀ k,k<=E.n->ny (cv E c) (c7 E) (bJ E) aT k=gz E ((List.range k).filter λm=>!A.cF m)
 | 0,_=>rfl
 |k+1,e=>by
  rw [BB,BE ay h b k (by omega)];obtain ⟨L,a⟩:∃ L,aT[k]?=some L:=⟨_,bF (by rw [h.len];omega)⟩;have d:=(h.at_ k L a).holds ay (b k (by omega)) (j:=cv E c) rfl;unfold xu gz;rw [dD,a,Option.getD_some,d,Ed (by omega),j9,AT,iX,AU];congr 1;cases hm:A.cF k with
  |true=>simp [hm]
  |false=>simp [hm];rfl
theorem Nm (g:1<=E.n) (X:List (List aL)):pj (cv E c) (bg 0) (c7 E) (bJ E) (fl (cv E c) (bg 0) (bJ E) X)=kl E X:=by
 unfold pj kl jS mg qE;rw [Nl];have b:∀ D:List aL,D.length=(bJ E).length->gj (cv E c) (bJ E) D D.length=hZ E D:=λD e=>by unfold hZ;rw [e];rfl
 by_cases a:(bL X (gL (bJ E))).ok=true
 ·have f:=C9 a;have d:¬ (bL X (gL (bJ E))).ok=false:=by rw [a];simp
  rw [if_neg d,if_neg d,b _ (by rw [f];unfold gL;simp),K1 g,Nk]
 ·rw [if_pos (by simpa using a),if_pos (by simpa using a)]
theorem JD (ay:b5 E) {A:bA} {aT:List bb} (h:o4 E A aT) (b:h7 E A) (X:List (List aL)):pP (cv E c) (bg 0) (c7 E) (bJ E) aT X=km E (jG E A) X:=by
 unfold pP km kZ;have a:(cv E c).v.mem.length=E.n:=by rw [q_];simp
 rw [a,BE ay h b _ (cO _)];show (if (bL X (gz E (jG E A))).ok=false then bL X (gz E (jG E A)) else pj _ _ _ _ (fl _ _ _ (bL X (gz E (jG E A))).a7))=_;rw [Nm ay.e.n.1]
theorem K2 (ay:b5 E) {A:bA} {aT:List bb} (h:o4 E A aT) (b:h7 E A) (hm:∃ m,m<E.n/\A.cF m=true) (X:List (List aL)):hB (cv E c) (bg 0) aT X=((2,c7 E),km E (jG E A) X):=by have a:eb (cv E c).lines aT=((c7 E,bJ E),true):=K0 ay h b hm;unfold hB;rw [a,if_pos rfl];exact congrArg _ (JD ay h b X)
theorem K3 (ay:b5 E) {A:bA} {aT:List bb} (h:o4 E A aT) (q:fP E A):∃ c3 ev,(∀ X,hB (cv E c) (bg 0) aT X=(c3,nf ev X))/\c3.1≠2/\(h7 E A->ev=bJ E/\c3=(3,c7 E))/\ev.length<=12/\∀ p ∈ ev,96<=p.bn/\p.bn<E.L:=by
 have d:eb (cv E c).lines aT=((0,[]),false):=Nb h q;have r:=ay.e.n;obtain ⟨L,l⟩:∃ L,aT[0]?=some L:=⟨_,bF (by rw [h.len];omega)⟩;have k:aT.getD 0 []=L:=by rw [dD,l];rfl
 have hw:h7 E A->fJ L E.L=true/\cT L E.L=(c7 E,bJ E):=λi=>(h.at_ 0 L l).whole ay (i 0 (by omega))
 cases g:fJ L E.L with
 |true=>
  refine ⟨(3,(cT L E.L).1),(cT L E.L).2,λX=>?_,by simp,λi=>by rw [(hw i).2];exact ⟨rfl,rfl⟩,?_⟩
  ·unfold hB;rw [d,if_neg (by simp),k,if_pos (show fJ L (cv E c).lines=true from g)];rfl
  ·have j:=g;unfold fJ at j;simp only [eY,decide_eq_true_eq,beq_iff_eq] at j;have f:=j.2;have o:cT L E.L=((L.drop 8).getD 0 0,hn (L.drop 8) ((L.drop 8).getD 1 0).toNat):=by unfold cT et;rw [if_pos g,if_pos f]
   unfold ef at f;split at f
   ·omega
   split at f
   ·omega
   split at f
   ·omega
   split at f
   ·omega
   rename_i t;obtain ⟨_,a,b,_⟩:=ji (by omega:fr ((L.drop 8).getD 0 0) (hn (L.drop 8) ((L.drop 8).getD 1 0).toNat) E.L=0);rw [o];exact ⟨a.2.2.2,b⟩
 |false=>refine ⟨(1,0),[],λX=>?_,by simp,λi=>(by rw [(hw i).1] at g;cases g),by simp,λp s=>by cases s⟩;unfold hB;rw [d,if_neg (by simp),k,if_neg (show ¬ fJ L (cv E c).lines=true by show ¬ fJ L E.L=true;rw [g];simp)];unfold nf ih;rw [rk,tk];rfl
def r9 (D:List aL) (X:List (List aL)):cn:=⟨true,D,(0,0),X,none,false⟩
def pd (vs:List aP):cn:=⟨false,[],(0,0),[],some vs,false⟩
theorem zl {sp:cQ} (h:sp≠[]):gz E sp≠[]:=by
 cases sp with
 |nil=>exact absurd rfl h
 |cons a l=>simp [gz]
theorem zc (ay:b5 E):gL (bJ E)≠[]:=by unfold gL;have:=ay.bN.some_;simpa using this
theorem vO (b:1<E.n) (l:List aJ):fG E l≠[]:=by obtain ⟨k,a⟩:∃ k,E.n - 1=k+1:=⟨E.n - 2,by omega⟩;unfold fG;rw [a,sT];simp
theorem yW (a:E.n=1) (l:List aJ):fG E l=[]:=by unfold fG;rw [a];rfl
theorem Oy (X:List (List aL)):km E [] X=kl E X:=by unfold km;rw [show gz E []=[] from rfl,tk];exact if_neg (by simp [k0])
theorem Oz {sp:cQ} (h:sp≠[]):km E sp []=pd (gz E sp):=by unfold km;rw [nE (zl h)];rfl
theorem MJ {sp:cQ} (h:sp≠[]) {D:List aL} (a:Fit (gz E sp) D) (X:List (List aL)):km E sp (D::X)=kl E X:=by unfold km;rw [ol (zl h) a];exact if_neg (by simp)
theorem OA (ay:b5 E):kl E []=pd (gL (bJ E)):=by unfold kl;rw [nE (zc ay)];rfl
theorem MK (ay:b5 E) {D:List aL} (a:Fit (gL (bJ E)) D) (X:List (List aL)):kl E (D::X)=if hZ E D=[] then r9 D X else jS E (hZ E D) X:=by
 unfold kl;rw [ol (zc ay) a,if_neg (by simp)];simp only;by_cases h:hZ E D=[]
 ·rw [if_pos (by rw [h];rfl),if_pos h];rfl
 ·rw [if_neg (λe=>h (nP.1 e)),if_neg h]
theorem OB (a:E.n=1) (l:List aJ) (X:List (List aL)):jS E l X=mg E l X:=by unfold jS;rw [yW a,tk];exact if_neg (by simp [k0])
theorem OC (a:1<E.n) (l:List aJ):jS E l []=pd (fG E l):=by unfold jS;rw [nE (vO a l)];rfl
theorem ML (b:1<E.n) {l:List aJ} {D:List aL} (a:Fit (fG E l) D) (X:List (List aL)):jS E l (D::X)=mg E l X:=by unfold jS;rw [ol (vO b l) a];exact if_neg (by simp)
theorem OD (l:List aJ):mg E l []=pd (fV E l):=nE (by simp [fV])
theorem MM {l:List aJ} {D:List aL} (a:Fit (fV E l) D) (X:List (List aL)):mg E l (D::X)=r9 D X:=ol (by simp [fV]) a X
theorem OE (X:List (List aL)):nf [] X=k0 X:=tk X
theorem OF {ev:List aJ} (h:ev≠[]):nf ev []=pd (ih ev):=nE (by unfold ih;simpa using h)
theorem MN {ev:List aJ} (h:ev≠[]) {D:List aL} (a:Fit (ih ev) D) (X:List (List aL)):nf ev (D::X)=r9 D X:=ol (by unfold ih;simpa using h) a X
def m8 (E:Env) (c:Nat) (aT:List bb) (cG:Int) (c3:Int×Int) (X:List (List aL)):cn×dz:=
 if (bL X (gF c)).ok=false then (bL X (gF c),iz (bL X (gF c)).out) else (bL X (gF c),⟨0,c3.1,c3.2,jA E.L cG aT,0⟩)
variable {aT:List bb} {cG:Int} {c3:Int×Int}
theorem OH (a:c<6) (X:List (List aL)):hA (cv E c) (bg 0) X=bL X (gF c):=by unfold hA gF;rw [Af];show bL X [fR 0 49 (gl 1 c) 0]=_;rw [(vv a).2]
theorem vP (a:c<6) {S:cn} (h:S.ok=true):ft E c aT cG c3 S=m8 E c aT cG c3 S.a7:=by unfold ft qX m8;rw [if_neg (by rw [h];simp),OH a];rfl
theorem tl (vs:List aP):(ft E c aT cG c3 (pd vs)).1.ask=some vs:=by unfold ft qX;rw [if_pos (show (pd vs).ok=false from rfl)];rfl
theorem OI:(m8 E c aT cG c3 []).1.ask=some (gF c):=by unfold m8;rw [nE (by simp [gF])];rfl
theorem MO {D:List aL} (a:Fit (gF c) D) (X:List (List aL)):m8 E c aT cG c3 (D::X)=(r9 D X,⟨0,c3.1,c3.2,jA E.L cG aT,0⟩):=by unfold m8;rw [ol (by simp [gF]) a];exact if_neg (by simp)
end
end
section
open e1
structure o2 (vs:List aP) (ds:List aL):Prop where
 len:ds.length=vs.length
 each:∀ (q:Nat) (v:aP) (d:aL),vs[q]?=some v->ds[q]?=some d->(d.code=0/\(d.words.length:Int)=v.v.iE)\/(d.code=5/\d.words=[])
theorem BF:∀ {ds:List aL},(∀ d ∈ ds,d.code=0\/d.code=5)->(ho ds=5/\∃ d ∈ ds,d.code=5)\/(ho ds=0/\∀ d ∈ ds,d.code=0)
 | [],_=>.inr ⟨rfl,λd ar=>by cases ar⟩
 |d::ds,h=>by
  unfold ho;rcases h d e_ with e | e
  ·rw [if_pos e];rcases BF λx a=>h x (fD _ a) with ⟨b,x,c,f⟩ | ⟨b,c⟩
   ·exact .inl ⟨b,x,fD _ c,f⟩
   ·exact .inr ⟨b,λx a=>by rcases e9.1 a with rfl | a;exact e;exact c x a⟩
  ·rw [if_neg (by omega)];exact .inl ⟨e,d,e_,e⟩
theorem o2.get {vs:List aP} {ds:List aL} (h:o2 vs ds) {d:aL} (ar:d ∈ ds):∃ v,v ∈ vs/\((d.code=0/\(d.words.length:Int)=v.v.iE)\/(d.code=5/\d.words=[])):=by
 obtain ⟨q,c⟩:=eF.1 ar;have b:=ch c;have a:q<vs.length:=by rw [<-h.len];exact b
 exact ⟨vs[q],kb a,h.each q vs[q] d (bF a) c⟩
theorem o2.cases {vs:List aP} {ds:List aL} (h:o2 vs ds):Fit vs ds\/ho ds=5/\∃ d ∈ ds,d.code=5:=by
 rcases BF (ds:=ds) (λd ar=>by obtain ⟨v,_,g | g⟩:=h.get ar;exact .inl g.1;exact .inr g.1) with g | ⟨_,g⟩
 ·exact .inr g
 ·refine .inl ⟨h.len,λq v d an ar=>?_⟩;rcases h.each q v d an ar with e | e
  ·exact e
  ·have:=g d (cg ar);omega
theorem BG {vs:List aP} {d:List aL} (G:List (List aL)) (an:vs≠[]) (h:o2 vs d) (i:ho d=5) (a:Int):cb (d::G) vs a=⟨false,[],(5,a),G,none,false⟩:=by
 have l:vs.length≠0:=λe=>an (nP.1 e)
 have k:kk vs d=true:=by
  unfold kk;rw [eY,decide_eq_true_eq,gQ];refine ⟨h.len.symm,λp n=>?_⟩;obtain ⟨q,o⟩:=eF.1 n;obtain ⟨f,g⟩:=AW.1 o;unfold r2;rcases h.each q p.1 p.2 f g with ⟨b,c⟩ | ⟨b,c⟩
  ·rw [if_pos b];exact decide_eq_true c
  ·rw [if_neg (by omega),if_pos (.inr b),c];rfl
 have j:batch (d::G) vs=⟨d,true,G,none,false⟩:=by unfold batch;rw [if_neg l];simp only [k,if_true]
 unfold cb;rw [j];simp only [i];rfl
section
variable {E:Env}
def dV (E:Env):Nat->List aP
 | 0=>(List.range E.n).map λm=>cw m 56 (gP E)
 | 1=>(bJ E).map λp=>fR 0 (p.bn * 8) p.Head (eJ p.Head 0)
 | 2=>(List.range E.n).map λm=>cw m 48 [h4 E]
 | 3=>fG E (bJ E)
 | _=>fV E (bJ E)
def zd:Nat->Int
 | 0=>1
 | 1=>1
 | 2=>2
 | _=>3
def yX (E:Env):List (List (List aL)->cn):=q6 (E.a1 0)
def jM (E:Env) (aB:Nat) (G:List (List aL)):Prop:=∀ X,runM (E.a1 0) (G++X)=nw ((yX E).drop aB) X
theorem Cw (ay:b5 E):nH (E.a1 0)=dV E 0:=ay.bN.zw
theorem xY (ay:b5 E):dF (E.a1 0)=dV E 1:=by rw [ay.bN.Fw ay.e.n.1,ay.rd];simp;rfl
theorem Cx (ay:b5 E):nI (E.a1 0)=dV E 2:=ay.bN.zW
theorem Cy (ay:b5 E):p8 (E.a1 0)=dV E 3:=ay.bN.EM
theorem yr (ay:b5 E):hU (E.a1 0)=dV E 4:=ay.bN.EY ay.e.n.1
theorem ry (ay:b5 E):∀ aB,aB<=4->(aB=3->1<E.n)->dV E aB≠[]
 | 0,_,_=>by have:=ay.e.n;intro e;have:=congrArg List.length e;simp [dV] at this;omega
 | 1,_,_=>by have:=ay.bN.some_;simpa [dV] using this
 | 2,_,_=>by have:=ay.e.n;intro e;have:=congrArg List.length e;simp [dV] at this;omega
 | 3,_,h=>vO (h rfl) _
 | 4,_,_=>by simp [dV,fV]
def sx (E:Env):Nat->List (List aL)->cn
 | 0=>rC (E.a1 0)
 | 1=>j0 (E.a1 0)
 | 2=>tx (E.a1 0)
 | 3=>nV (E.a1 0)
 | _=>nb (E.a1 0)
theorem xZ:∀ aB,aB<=4->(yX E).drop aB=sx E aB::(yX E).drop (aB+1)
 | 0,_=>rfl
 | 1,_=>rfl
 | 2,_=>rfl
 | 3,_=>rfl
 | 4,_=>rfl
theorem vw (ay:b5 E):∀ aB,aB<=4->aB≠1->∀ X,sx E aB X=cb X (dV E aB) (zd aB)
 | 0,_,_,X=>by rw [<-Cw ay];exact JZ ay.bN.valid ay.bN.some_ X
 | 2,_,_,X=>by rw [<-Cx ay];exact J0 ay.bN.valid ay.bN.some_ X
 | 3,_,_,X=>by rw [<-Cy ay];rfl
 | 4,_,_,X=>by rw [<-yr ay];exact Lj ay.bN.valid ay.bN.some_ X
def vQ (E:Env) (D:List aL):Prop:=∀ (q:Nat) (p:aJ) (d:aL),(bJ E)[q]?=some p->D[q]?=some d->dZ d=p.Head
theorem BH:∀ {xs:bb} {ds:List aL},(∀ (q:Nat) (x:Int) (d:aL),xs[q]?=some x->ds[q]?=some d->dZ d=x)->ie xs ds=false
 | [],_,_=>by unfold ie;rfl
 |x::xs,[],_=>by unfold ie;rfl
 |x::xs,d::ds,h=>by unfold ie;rw [BH λq gm a b c=>h (q+1) gm a (by simpa using b) (by simpa using c),h 0 x d rfl rfl];simp
theorem Ji (ay:b5 E) {D:List aL} (h:vQ E D):ie (iD (E.a1 0)) D=false:=by
 refine BH λq x d a ar=>?_
 unfold iD at a;rw [ay.rd,rk,iW,d'] at a;obtain ⟨p,b,rfl⟩:=kK.1 a;exact h q p d b ar
theorem MP (ay:b5 E) {aB:Nat} (a:aB<=4) (b:aB=3->1<E.n):sx E aB []=pd (dV E aB):=by
 by_cases e:aB=1
 ·subst e;show j0 (E.a1 0) []=_;unfold j0;rw [xY ay,Ao (ry ay 1 (by omega) (by omega))];rfl
 ·rw [vw ay aB a e];exact Ao (ry ay aB a b) _
theorem MQ (ay:b5 E) {aB:Nat} (b:aB<=4) (d:aB=3->1<E.n) {D:List aL} (a:Fit (dV E aB) D) (f:aB=1->vQ E D) (X:List (List aL)):∃ c,sx E aB (D::X)=r9 c X:=by
 by_cases e:aB=1
 ·subst e;refine ⟨[],?_⟩;have a:Fit (dF (E.a1 0)) D:=by rw [xY ay];exact a
  exact Mb ay.bN.valid ay.bN.some_ a (Ji ay (f rfl)) X
 ·refine ⟨D,?_⟩;rw [vw ay aB b e];exact AD X (ry ay aB b d) a _
theorem MR (ay:b5 E) {aB:Nat} (a:aB<=4) (d:aB=3->1<E.n) {D:List aL} (c:o2 (dV E aB) D) (b:ho D=5) (X:List (List aL)):sx E aB (D::X)=⟨false,[],(5,zd aB),X,none,false⟩:=by
 by_cases e:aB=1
 ·subst e;show j0 (E.a1 0) (D::X)=_;unfold j0;rw [xY ay,BG X (ry ay 1 (by omega) (by omega)) c b];rfl
 ·rw [vw ay aB a e];exact BG X (ry ay aB a d) c b _
theorem P2:jM E 0 []:=λX=>rfl
theorem jM.next (ay:b5 E) {aB:Nat} {G:List (List aL)} (h:jM E aB G) (a:aB<=4) (b:aB=3->1<E.n) {D:List aL} (d:Fit (dV E aB) D) (e:aB=1->vQ E D):jM E (aB+1) (G++[D]):=λX=>by obtain ⟨f,c⟩:=MQ ay a b d e X;rw [ln];refine (h ([D]++X)).trans ?_;rw [xZ aB a];show tw (sx E aB (D::X)) _=_;rw [c];rfl
theorem jM.skip (ay:b5 E) {G:List (List aL)} (h:jM E 3 G) (a:E.n=1):jM E 4 G:=λX=>by refine (h X).trans ?_;rw [xZ 3 (by omega),nw,vw ay 3 (by omega) (by omega)];show tw (cb X (fG E (bJ E)) 3) _=_;rw [yW a,B1];rfl
theorem jM.ask (ay:b5 E) {aB:Nat} {G:List (List aL)} (h:jM E aB G) (a:aB<=4) (b:aB=3->1<E.n):d9 (E.a1 0) G=(dV E aB,(0,0),false):=by have:=h [];rw [iW,xZ aB a,nw,MP ay a b] at this;unfold d9;rw [if_neg (by rw [ay.bN.valid];simp),this];rfl
theorem jM.ref (ay:b5 E) {aB:Nat} {G:List (List aL)} (h:jM E aB G) (a:aB<=4) (b:aB=3->1<E.n) {D:List aL} (d:o2 (dV E aB) D) (c:ho D=5):d9 (E.a1 0) (G++[D])=([],(5,zd aB),true):=by have:=h [D];rw [xZ aB a,nw,MR ay a b d c] at this;unfold d9;rw [if_neg (by rw [ay.bN.valid];simp),this];rfl
theorem jM.done (ay:b5 E) {G:List (List aL)} (h:jM E 5 G):d9 (E.a1 0) G=([],(0,3),true):=by have:=h [];rw [iW] at this;unfold d9;rw [if_neg (by rw [ay.bN.valid];simp),this];rfl
end
end
section
open IntKind
variable (w:ak) (R:cA) {a b c d e f g h:Nat} {s t u v:al} {i k l:Int} {A:aU} {j:aq}
def wJ (e:aU) (s1:al) (a b:Nat) (s2:al) (c d:Nat) (n:al) (f g:Nat) (o:Int) (h:al) (i k:Nat) (l:Int) (j:aq):aq:=.pointer (some e)::ae s1 a b::ae s2 c d::ae n f g::ab o::ag j 0 6 (ae h i k::ab l::ag j 6 82 [])
def Fs (a:aU) (s1:al) (b c:Nat) (s2:al) (d f:Nat) (e:al) (g h:Nat) (n:Int) (i:al) (k l:Nat) (j:aq):aq:=.pointer (some a)::ae s1 b c::ae s2 d f::ae e g h::ab n::ag j 0 6 (ae i k l::ag j 6 83 [])
def wK (e:aU) (s1:al) (a b:Nat) (s2:al) (c d:Nat) (n:al) (f g:Nat) (o:Int) (h:al) (i k:Nat) (l:Int) (j:aq):aq:=.pointer (some e)::ae s1 a b::ae s2 c d::ae n f g::ab o::ag j 0 6 (ae h i k::ag j 6 1 (ab l::ag j 7 81 []))
def wL (a:aU) (s1:al) (b c:Nat) (j:aq):aq:=.pointer (some a)::ae s1 b c::ag j 0 93 []
def t_ (e:aU) (s1:al) (a b:Nat) (s2:al) (c d:Nat) (n:al) (f g:Nat) (o:Int) (h:al) (i k:Nat) (l m:Int) (j:aq):aq:=.pointer (some e)::ae s1 a b::ae s2 c d::ae n f g::ab o::ag j 0 6 (ae h i k::ag j 6 1 (ab l::ab m::ag j 7 80 []))
def Ft (a:aU) (s1:al) (b c:Nat) (s2:al) (d f:Nat) (e:al) (g h:Nat) (n:Int) (i:al) (k l:Nat) (m:Int) (j:aq):aq:=.pointer (some a)::ae s1 b c::ae s2 d f::ae e g h::ab n::ag j 0 6 (ae i k l::ag j 6 1 (ab m::ag j 7 81 []))
def wM (d:aU) (s1:al) (a b:Nat) (c:Int) (j:aq):aq:=.pointer (some d)::ae s1 a b::ag j 0 14 (ab c::ag j 14 78 [])
def Fu (s1:al) (a b:Nat) (j:aq):aq:=ag j 0 1 (ae s1 a b::ag j 1 93 [])
def wN (e:aU) (s1:al) (a b:Nat) (s2:al) (c d:Nat) (n:al) (f g:Nat) (o:Int) (h:al) (i k:Nat) (l m:Int) (j:aq):aq:=.pointer (some e)::ae s1 a b::ae s2 c d::ae n f g::ab o::ag j 0 6 (ae h i k::ag j 6 1 (ab l::ag j 7 1 (ab m::ag j 8 79 [])))
def Fv (a:aU) (s1:al) (b c:Nat) (s2:al) (d f:Nat) (e:al) (g h:Nat) (n:Int) (i:al) (k l:Nat) (m:Int) (j:aq):aq:=.pointer (some a)::ae s1 b c::ae s2 d f::ae e g h::ab n::ag j 0 6 (ae i k l::ag j 6 1 (ab m::ag j 7 81 []))
theorem TS:bf prog f15 [a9 a,ae s b c,ae t d e,ae u f g,ab i] R w=(c6 46 (a6) (ae s b c) w λk h j l=>cu prog (c0 f15 [1,1,1,0,1,0,0]) (wJ (af a 0) k h j t d e u f g i none 0 0 0 (bd 5 (a6::bd 4 (ae s b c::ae k h j::bd 76 [])))) (aO 0 (aQ f15 [1,1,1,1] R)) l):=by kernel_rfl
theorem Ra (r:aq->aE):W prog (sb f15 [1,1,1,0,1,0,0]) (wJ A s a b t c d u e f i v g h k j) (aV r (aO 0 (aQ f15 [1,1,1,1] R))) w=(cond (k<(a:Nat)) (bk s a k 36 λp=>bt w (bM p 1) λm=>aR w #[ab m] 3 λq y=>c6 22 (ae v g h) (ae (bm q) 1 1) y λl n o x=>r (wJ A s a b t c d u e f i l n o (i64.wrap (k+1)) (ag j 0 12 (ab k::ae s a b::c9 a::ad (k<(a:Nat))::ab k::ab (i64.wrap (k+1))::ae v g h::ae s a b::ab k::jp p::bI p 1::ab m::ae (bm q) 1 1::ae l n o::ag j 26 62 []))) x) (W prog (sb f15 [1,1,1,1]) (Fs A s a b t c d u e f i v g h (ag j 0 6 (ab k::ag j 6 6 (ab k::ae s a b::c9 a::ad (k<(a:Nat))::ag j 16 72 [])))) (b0 f15 R) w)):=by kernel_rfl
theorem RY:W prog (sb f15 [1,1,1,1]) (Fs A s a b t c d u e f i v g h j) (b0 f15 R) w=(cu prog (c0 f15 [1,1,1,1,0,1,0,0]) (wK A s a b t c d u e f i v g h 0 (ag j 0 7 (ag j 8 81 []))) (aO 2 (aQ f15 [1,1,1,1,1] R)) w):=by kernel_rfl
theorem Rb (l:aq->aE):W prog (sb f15 [1,1,1,1,0,1,0,0]) (wK A s a b t c d u e f i v g h k j) (aV l (aO 2 (aQ f15 [1,1,1,1,1] R))) w=(cond (k<i) (cu prog (c0 f15 [1,1,1,1,0,1,0,0,1,0,0,0,1,0,0]) (t_ A s a b t c d u e f i v g h k 0 (ag j 0 7 (ag j 8 18 (ab k::ab i::ad (k<i)::ag j 29 59 [])))) (aO 4 (aV (λm w=>W prog (sb f15 [1,1,1,1,0,1,0,0,1,0,0,1]) m (aO 3 (aV (λm w=>W prog (sb f15 [1,1,1,1,0,1,0,0,1,1]) m (aV l (aO 2 (aQ f15 [1,1,1,1,1] R))) w) (aV l (aO 2 (aQ f15 [1,1,1,1,1] R))))) w) (aO 3 (aV (λm w=>W prog (sb f15 [1,1,1,1,0,1,0,0,1,1]) m (aV l (aO 2 (aQ f15 [1,1,1,1,1] R))) w) (aV l (aO 2 (aQ f15 [1,1,1,1,1] R))))))) w) (W prog (sb f15 [1,1,1,1,1]) (wL A s a b (ae t c d::ae u e f::ab i::ag j 0 6 (ae v g h::aF j 6::ab k::ag j 7 19 (ab k::ab i::ad (k<i)::ag j 29 59 [])))) (b0 f15 R) w)):=by kernel_rfl
theorem RZ:W prog (sb f15 [1,1,1,1,1]) (wL A s a b j) (b0 f15 R) w=(cu prog (c0 f15 [1,1,1,1,1,0,1,0,0]) (wM A s a b 0 (ag j 0 14 (ag j 15 78 []))) (aO 8 (aQ f15 [1,1,1,1,1,1] R)) w):=by kernel_rfl
theorem Rc (p:aq->aE) (x:aq->aE):W prog (sb f15 [1,1,1,1,0,1,0,0,1,0,0,0,1,0,0]) (t_ A s a b t c d u e f i v g h k l j) (aV x (aO 4 (aV (λm w=>W prog (sb f15 [1,1,1,1,0,1,0,0,1,0,0,1]) m (aO 3 (aV (λm w=>W prog (sb f15 [1,1,1,1,0,1,0,0,1,1]) m (aV p (aO 2 (aQ f15 [1,1,1,1,1] R))) w) (aV p (aO 2 (aQ f15 [1,1,1,1,1] R))))) w) (aO 3 (aV (λm w=>W prog (sb f15 [1,1,1,1,0,1,0,0,1,1]) m (aV p (aO 2 (aQ f15 [1,1,1,1,1] R))) w) (aV p (aO 2 (aQ f15 [1,1,1,1,1] R)))))))) w=(cond (l<(e:Nat)) (bk u e l 3 λq=>bt w q λz=>cm 12 #[ab z,ab 60] w λn y=>cond (n == k) (bk u e l 3 λo=>SE y o λr=>uw 33 #[.pointer (some A),ae v g h,r.val] y λB=>x (t_ A s a b t c d u e f i v g h k (i64.wrap (l+1)) (ag j 0 30 (ab l::ae u e f::c9 e::ad (l<(e:Nat))::ab l::ab (i64.wrap (l+1))::ae u e f::ab l::jp q::jp q::ab z::ab n::ab k::ad ((n:Int) == k)::jp A::ae v g h::ae u e f::ab l::jp o::r.val::.tuple #[]::ag j 51 36 []))) B) (x (t_ A s a b t c d u e f i v g h k (i64.wrap (l+1)) (ag j 0 30 (ab l::ae u e f::c9 e::ad (l<(e:Nat))::ab l::ab (i64.wrap (l+1))::ae u e f::ab l::jp q::jp q::ab z::ab n::ab k::ad ((n:Int) == k)::ag j 44 43 []))) y)) (W prog (sb f15 [1,1,1,1,0,1,0,0,1,0,0,1]) (Ft A s a b t c d u e f i v g h k (ag j 0 7 (ab l::ag j 7 23 (ab l::ae u e f::c9 e::ad (l<(e:Nat))::ag j 34 53 [])))) (aO 3 (aV (λm w=>W prog (sb f15 [1,1,1,1,0,1,0,0,1,1]) m (aV p (aO 2 (aQ f15 [1,1,1,1,1] R))) w) (aV p (aO 2 (aQ f15 [1,1,1,1,1] R))))) w)):=by kernel_rfl
theorem R0 (m:aq->aE):W prog (sb f15 [1,1,1,1,0,1,0,0,1,0,0,1]) (Ft A s a b t c d u e f i v g h k j) (aO 3 (aV (λl w=>W prog (sb f15 [1,1,1,1,0,1,0,0,1,1]) l (aV m (aO 2 (aQ f15 [1,1,1,1,1] R))) w) (aV m (aO 2 (aQ f15 [1,1,1,1,1] R))))) w=(cu prog (c0 f15 [1,1,1,1,0,1,0,0,1,0,0,1,0,1,0,0]) (wN A s a b t c d u e f i v g h k 0 (ag j 0 8 (ag j 9 79 []))) (aO 6 (aV (λl w=>W prog (sb f15 [1,1,1,1,0,1,0,0,1,0,0,1,1]) l (aO 3 (aV (λl w=>W prog (sb f15 [1,1,1,1,0,1,0,0,1,1]) l (aV m (aO 2 (aQ f15 [1,1,1,1,1] R))) w) (aV m (aO 2 (aQ f15 [1,1,1,1,1] R))))) w) (aO 3 (aV (λl w=>W prog (sb f15 [1,1,1,1,0,1,0,0,1,1]) l (aV m (aO 2 (aQ f15 [1,1,1,1,1] R))) w) (aV m (aO 2 (aQ f15 [1,1,1,1,1] R))))))) w):=by kernel_rfl
theorem Rd (c:aq->aE):W prog (sb f15 [1,1,1,1,1,0,1,0,0]) (wM A s a b i j) (aV c (aO 8 (aQ f15 [1,1,1,1,1,1] R))) w=(cond (i<(a:Nat)) (bk s a i 36 λe=>eD w e λr=>sj 34 #[.pointer (some A),r.val] w λd h=>bk s a i 36 λf=>a8 h f 0 d.cells λg=>c (wM A s a b (i64.wrap (i+1)) (ag j 0 76 [ab i,ae s a b,c9 a,ad (i<(a:Nat)),ab i,ab (i64.wrap (i+1)),ae s a b,ab i,jp A,ae s a b,ab i,jp e,r.val,d.val,jp f,aF j 91])) g) (W prog (sb f15 [1,1,1,1,1,1]) (Fu s a b (jp A::ag j 0 14 (ab i::ag j 14 62 (ab i::ae s a b::c9 a::ad (i<(a:Nat))::ag j 80 12 [])))) (b0 f15 R) w)):=by kernel_rfl
theorem R1:W prog (sb f15 [1,1,1,1,1,1]) (Fu s a b j) (b0 f15 R) w=(R (ae s a b) w):=by kernel_rfl
theorem Re (p:aq->aE) (q:aq->aE):W prog (sb f15 [1,1,1,1,0,1,0,0,1,0,0,1,0,1,0,0]) (wN A s a b t c d u e f i v g h k l j) (aV q (aO 6 (aV (λm w=>W prog (sb f15 [1,1,1,1,0,1,0,0,1,0,0,1,1]) m (aO 3 (aV (λm w=>W prog (sb f15 [1,1,1,1,0,1,0,0,1,1]) m (aV p (aO 2 (aQ f15 [1,1,1,1,1] R))) w) (aV p (aO 2 (aQ f15 [1,1,1,1,1] R))))) w) (aO 3 (aV (λm w=>W prog (sb f15 [1,1,1,1,0,1,0,0,1,1]) m (aV p (aO 2 (aQ f15 [1,1,1,1,1] R))) w) (aV p (aO 2 (aQ f15 [1,1,1,1,1] R)))))))) w=(cond (l<(a:Nat)) (bk s a l 36 λx=>eD w x λr=>sj 34 #[.pointer (some A),r.val] w λn z=>bk s a l 36 λo=>a8 z o 0 n.cells λy=>q (wN A s a b t c d u e f i v g h k (i64.wrap (l+1)) (ag j 0 51 (ab l::ae s a b::c9 a::ad (l<(a:Nat))::ab l::ab (i64.wrap (l+1))::ae s a b::ab l::jp A::ae s a b::ab l::jp x::r.val::n.val::jp o::ag j 66 21 []))) y) (W prog (sb f15 [1,1,1,1,0,1,0,0,1,0,0,1,1]) (Fv A s a b t c d u e f i v g h k (ag j 0 8 (ab l::ag j 8 43 (ab l::ae s a b::c9 a::ad (l<(a:Nat))::ag j 55 32 [])))) (aO 3 (aV (λm w=>W prog (sb f15 [1,1,1,1,0,1,0,0,1,1]) m (aV p (aO 2 (aQ f15 [1,1,1,1,1] R))) w) (aV p (aO 2 (aQ f15 [1,1,1,1,1] R))))) w)):=by kernel_rfl
theorem R2 (l:aq->aE):W prog (sb f15 [1,1,1,1,0,1,0,0,1,0,0,1,1]) (Fv A s a b t c d u e f i v g h k j) (aO 3 (aV (λo w=>W prog (sb f15 [1,1,1,1,0,1,0,0,1,1]) o (aV l (aO 2 (aQ f15 [1,1,1,1,1] R))) w) (aV l (aO 2 (aQ f15 [1,1,1,1,1] R))))) w=(du 35 #[.pointer (some A),ae t c d,ab k] w λn m=>cond (!n) (W prog (sb f15 [1,1,1,1,1]) (wL A s a b (ae t c d::ae u e f::ab i::ag j 0 6 (ae v g h::aF j 6::ab k::ag j 7 60 (jp A::ae t c d::ab k::ad n::ad (!n)::ag j 72 16 [])))) (b0 f15 R) m) (l (wK A s a b t c d u e f i v g h (i64.wrap (k+1)) (ag j 0 29 (ab k::ab (i64.wrap (k+1))::ag j 31 36 (jp A::ae t c d::ab k::ad n::ad (!n)::ag j 72 16 [])))) m)):=by kernel_rfl
theorem t6 (h:ca):bf prog f26 [a9 a,h.val] R w=(aR w h.cells.toArray 45 λn l=>aR l #[ab 0,ab 0,ab 0,ab 0,ab 0,ab 0,ab 0,ah 0,ab 0,ab 0,ab 0,ab 0,a6,a6,a6,ab 0,ab 0,ab 0,ab 0,a6,ab 0,ab 0,ah 0,a6,ad false,ad false,ab 0,ab 0,a6,ab 0,a6,ah 0,ab 0,ab 0,ab 0,ab 0] 45 λi j=>eD j (af n 0) λr=>aR j r.cells.toArray 45 λm k=>eg 15 #[a9 a,ae (bm m) 1 1,a6,a6,ab 20000] k λe b c g=>bk e b 0 36 λp=>eD g p λo=>a8 g (af i 0) 0 o.cells λf=>eD f (af i 0) λd=>f=f/\R d.val f):=by kernel_rfl
theorem T3 (V8:ca):bf prog f34 [a9 a,V8.val] R w=(aR w V8.cells.toArray 45 λu Vt=>aR Vt #[ab 0,ab 0,ab 0,ab 0,ab 0,ab 0,ab 0,ah 0,ab 0,ab 0,ab 0,ab 0,a6,a6,a6,ab 0,ab 0,ab 0,ab 0,a6,ab 0,ab 0,ah 0,a6,ad false,ad false,ab 0,ab 0,a6,ab 0,a6,ah 0,ab 0,ab 0,ab 0,ab 0] 45 λA D=>g1 D (af u 24) λj=>cond j (eD D (af u 0) λr=>a8 D (af A 0) 0 r.cells λI=>eD I (af A 0) λVO=>I=I/\R VO.val I) (bt D (af u 1) λb=>du 43 #[a9 a,ab b] D λc G=>cond (!c) (eD G (af u 0) λVT=>a8 G (af A 0) 0 VT.cells λaW=>eD aW (af A 0) λVu=>aW=aW/\R Vu.val aW) (bt G (af u 1) λd=>cm 63 #[a9 a,ab d] G λf a1=>cond (f>0) (eD a1 (af u 0) λVx=>a8 a1 (af A 0) 0 Vx.cells λK=>eD K (af A 0) λVQ=>K=K/\R VQ.val K) (bt a1 (af u 1) λg=>jq 64 #[a9 a,ab g] a1 λh i k l C=>cond l (b4 C (af u 23) λm n o=>c6 42 (a6) (ae m n o) C λVR p q VD=>aR VD #[ae h i k] 100 λVP Vw=>c6 42 (ae VR p q) (ae (bm VP) 1 1) Vw λs t v Vv=>cH Vv (af u 23) (ae s t v) λN=>b4 N (af u 23) λx y z=>cond ((y:Int)>200) (cH N (af u 24) (ad true) λWa=>cH Wa (af u 25) (ad true) λV4=>eD V4 (af u 0) λVC=>a8 V4 (af A 0) 0 VC.cells λO=>eD O (af A 0) λVV=>O=O/\R VV.val O) (eD N (af u 0) λV2=>Calls prog 65 #[V2.val] N λe VW=>∃ (Z:al) (V7 V_:Nat),ca.ex λY=>e=.returned (.tuple #[ae Z V7 V_,Y.val])/\a8 VW (af u 0) 0 Y.cells λF=>g1 F (af u 24) λVG=>cond (!VG) (bt F (af u 1) λVJ=>cm 66 #[a9 a,ab VJ,ae Z V7 V_] F λU V=>cond (U != 0) (cH V (af u 24) (ad true) λVM=>cH VM (af u 25) (ad true) λX=>eD X (af u 0) λVX=>a8 X (af A 0) 0 VX.cells λL=>eD L (af A 0) λJ=>L=L/\R J.val L) (eD V (af u 0) λVz=>a8 V (af A 0) 0 Vz.cells λS=>eD S (af A 0) λVU=>S=S/\R VU.val S)) (eD F (af u 0) λVy=>a8 F (af A 0) 0 Vy.cells λQ=>eD Q (af A 0) λVK=>Q=Q/\R VK.val Q))) (b4 C (af u 23) λWc VI Wb=>cond ((VI:Int)>200) (cH C (af u 24) (ad true) λVA=>cH VA (af u 25) (ad true) λV9=>eD V9 (af u 0) λVr=>a8 V9 (af A 0) 0 Vr.cells λM=>eD M (af A 0) λVs=>M=M/\R Vs.val M) (eD C (af u 0) λVF=>Calls prog 65 #[VF.val] C λe VN=>∃ (ij:al) (V' B:Nat),ca.ex λV5=>e=.returned (.tuple #[ae ij V' B,V5.val])/\a8 VN (af u 0) 0 V5.cells λE=>g1 E (af u 24) λVB=>cond (!VB) (bt E (af u 1) λV1=>cm 66 #[a9 a,ab V1,ae ij V' B] E λVL W=>cond (VL != 0) (cH W (af u 24) (ad true) λVY=>cH VY (af u 25) (ad true) λV6=>eD V6 (af u 0) λVH=>a8 V6 (af A 0) 0 VH.cells λH=>eD H (af A 0) λV0=>H=H/\R V0.val H) (eD W (af u 0) λV3=>a8 W (af A 0) 0 V3.cells λP=>eD P (af A 0) λVZ=>P=P/\R VZ.val P)) (eD E (af u 0) λVS=>a8 E (af A 0) 0 VS.cells λT=>eD T (af A 0) λVE=>T=T/\R VE.val T))))))):=by kernel_rfl
theorem T4 (Vt:ca):bf prog f65 [Vt.val] R w=(aR w Vt.cells.toArray 45 λu VA=>aR VA #[ab 0,ab 0,ab 0,ab 0,ab 0,ab 0,ab 0,ah 0,ab 0,ab 0,ab 0,ab 0,a6,a6,a6,ab 0,ab 0,ab 0,ab 0,a6,ab 0,ab 0,ah 0,a6,ad false,ad false,ab 0,ab 0,a6,ab 0,a6,ah 0,ab 0,ab 0,ab 0,ab 0] 45 λD B=>bt B (af u 0) λa=>cond (a == 1) (SF B (af u 2) λVE=>b4 B (af u 23) λb c d=>Calls prog 90 #[VE.val,ae b c d] B λe We=>∃ (f:al) (g h:Nat),qA.ex λWu=>∃ (i:Bool),e=.returned (.tuple #[ae f g h,Wu.val,ad i])/\aR We #[ab 0,ab 0,ab 0,a6,ab 0,ad false,ah 0,a6,a6,a6] 163 λF Vx=>a8 Vx (af F 0) 0 Wu.cells λVB=>cq VB λVD j=>cL j (af F 0) λk=>z8 j (af F 2) λWx=>cL j (af F 4) λl=>fg j (af F 9) λm n o=>cH VD (af u 24) (ad i) λT=>j T/\cH T (af u 26) (ab k) λZ=>j Z/\a8 Z (af u 27) 0 Wx.cells λW=>j W/\cH W (af u 29) (ab l) λWp=>j Wp/\cH Wp (af u 30) (ae m n o) λV4=>cq V4 λWa Wb=>pD Wb (af u 0) λr=>a8 Wa (af D 0) 0 r.cells λK=>eD K (af D 0) λVI=>K=K/\R (.tuple #[ae f g h,VI.val]) K) (cond (a == 2) (SG B (af u 3) λV9=>b4 B (af u 23) λp q s=>Calls prog 91 #[V9.val,ae p q s] B λe V0=>∃ (t:al) (v x:Nat),it.ex λWs=>∃ (y:Bool),e=.returned (.tuple #[ae t v x,Ws.val,ad y])/\aR V0 #[ab 0,ah 0,ab 0] 167 λO Vv=>a8 Vv (af O 0) 0 Ws.cells λVL=>cq VL λVw a1=>cL a1 (af O 0) λz=>jF a1 (af O 1) λVC=>cH Vw (af u 24) (ad y) λJ=>a1 J/\cH J (af u 26) (ab z) λU=>a1 U/\cH U (af u 31) (ah VC) λV7=>cq V7 λVU VV=>pD VV (af u 0) λV_=>a8 VU (af D 0) 0 V_.cells λM=>eD M (af D 0) λVZ=>M=M/\R (.tuple #[ae t v x,VZ.val]) M) (cond (a == 3) (z9 B (af u 8) λVQ=>b4 B (af u 23) λVN VX V'=>Calls prog 92 #[VQ.val,ae VN VX V'] B λe Vy=>∃ (Y:al) (Wr S:Nat),bB.ex λWt=>∃ (I:Bool),e=.returned (.tuple #[ae Y Wr S,Wt.val,ad I])/\aR Vy #[ab 0,ab 0] 171 λP VT=>a8 VT (af P 0) 0 Wt.cells λV1=>cq V1 λWj N=>cL N (af P 0) λVS=>cL N (af P 1) λVK=>cH Wj (af u 24) (ad I) λVs=>N Vs/\cH Vs (af u 26) (ab VS) λWv=>N Wv/\cH Wv (af u 32) (ab VK) λVR=>cq VR λVz Wl=>pD Wl (af u 0) λVH=>a8 Vz (af D 0) 0 VH.cells λL=>eD L (af D 0) λWn=>L=L/\R (.tuple #[ae Y Wr S,Wn.val]) L) (cond (a == 4) (F1 B (af u 15) λV5=>b4 B (af u 23) λWm Wf A=>Calls prog 93 #[V5.val,ae Wm Wf A] B λe Wi=>∃ (V:al) (Vu X:Nat),dz.ex λij=>∃ (Ww:Bool),e=.returned (.tuple #[ae V Vu X,ij.val,ad Ww])/\aR Wi #[ab 0,ab 0,ab 0,ab 0,ah 0] 175 λG Wd=>a8 Wd (af G 0) 0 ij.cells λVP=>cq VP λWc E=>cL E (af G 0) λVW=>cL E (af G 1) λVF=>cL E (af G 2) λVY=>cL E (af G 3) λVG=>cH Wc (af u 24) (ad Ww) λQ=>E Q/\cH Q (af u 26) (ab VW) λVr=>E Vr/\cH Vr (af u 33) (ab VF) λWq=>E Wq/\cH Wq (af u 34) (ab VY) λWo=>E Wo/\cH Wo (af u 35) (ab VG) λV2=>cq V2 λWk VJ=>pD VJ (af u 0) λVM=>a8 Wk (af D 0) 0 VM.cells λH=>eD H (af D 0) λWg=>H=H/\R (.tuple #[ae V Vu X,Wg.val]) H) (cH B (af u 24) (ad true) λVO=>cH VO (af u 25) (ad true) λC=>cq C λV3 Wh=>pD Wh (af u 0) λV8=>a8 V3 (af D 0) 0 V8.cells λaW=>eD aW (af D 0) λV6=>aW=aW/\R (.tuple #[a6,V6.val]) aW))))):=by kernel_rfl
end
namespace g4
def conv:Conv:=⟨cS ⊕ b2,(Int×Int) ⊕ dz,λj G=>match j with
 | .inl j=>((d9 j G).1,.inl (d9 j G).2.1,(d9 j G).2.2)
 | .inr j=>((fu j G).1,.inr (fu j G).2.1,(fu j G).2.2)⟩
def Ls (j:conv.a1):Int:=match j with
 | .inl _=>3
 | .inr _=>4
structure qh (A:a5) (w:ak) (r:dr) (j:b2):Prop where
 at_:q8 w r j
 view:f0 A w r.View j.v
theorem qh.az {A A':a5} {w w':ak} {r:dr} {j:b2} (h:qh A w r j) (d:ao A w w') (c:∀ k,k<w.heap.size->A' k->A k):qh A' w' r j:=by obtain ⟨a,an⟩:=h;have b:=e1.f0.az an d c;exact ⟨⟨a.a3,a.inc,a.lines,⟨A',b⟩,a.dead,a.dR,a.prev,a.u64⟩,b⟩
def vL (A:a5) (w:ak) (r:ca) (j:conv.a1):Prop:=match j with
 | .inl j=>e1.qg A w r.cZ j
 | .inr j=>qh A w r.Recover j
def vY (A:a5) (w:ak) (r:ca) (o:conv.O):Prop:=match o with
 | .inl o=>r.Code=o.1/\r.iJ=o.2
 | .inr o=>r.Code=o.Code/\r.jc=o.jc/\r.Seq=o.Seq/\r.i_=o.i_
theorem vL.az {A A':a5} {w w':ak} {r:ca} {j:conv.a1} (h:vL A w r j) (b:ao A w w') (a:∀ k,k<w.heap.size->A' k->A k):vL A' w' r j:=by
 cases j with
 |inl j=>exact e1.qg.az h b a
 |inr j=>exact qh.az h b a
theorem vY.az {A A':a5} {w w':ak} {r:ca} {o:conv.O} (h:vY A w r o) (b:ao A w w') (a:∀ k,k<w.heap.size->A' k->A k):vY A' w' r o:=by
 cases o with
 |inl o=>exact h
 |inr o=>exact h
end g4
end Go.Proofs.YtmkljjbioomepaaGreat
