import Derived.Test.YtmkljjbioomepaaGreatf26
import Derived.Test.YtmkljjbioomepaaGreatf29
import Derived.Test.YtmkljjbioomepaaGreatProg
import Derived.Test.YtmkljjbioomepaaGreatf02
import Derived.Test.YtmkljjbioomepaaGreatRows
import Derived.WalkKit
import Derived.ProofKit
import Derived.OpenShut
import Derived.Deep.Slices
set_option linter.all false
set_option maxHeartbeats 4000000
set_option maxRecDepth 100000
namespace Go.Proofs.YtmkljjbioomepaaGreat
open Go.Proofs.Tryz Go.bd
variable {P:c7}{args:en}{g' k y:Nat}{e t:bU}{held:Bool}{cp:List MemPlace}{r:Reach}{v:bl}{w:aj}
section
open gW
theorem MS {F:aH}(f:cy F)(k:∀ C,F.aY[0]?=some C->C.aG=[]){x:ii}(c:x ∈ F.e5):(F.step x).2.aY[0]?=F.aY[0]?:=by
 unfold aH.e5 at c;rcases kh.1 c with hm | hm
 ·obtain ⟨i,C,a,hm⟩:=vk.1 hm;obtain ⟨m,l,b,ar,rfl⟩:=vj.1 hm;simp only [h_];have n:i≠0:=λe=>by
   grind
  have h:=dk b;have j:=(f.ct.ok.a3 i C a).aG;have d:m<F.nodes.length:=by grind
  have g:=rj.2 ⟨C,l,F.nodes[m],a,b,bW d,by omega,rfl⟩;rw[y' g]
  grind
 ·obtain⟨q,p,o,rfl⟩:=zM hm;unfold aH.step;rw[bm (by grind)];unfold aH.iu
  grind
theorem C8 {F:aH}(b:cy F)(a:∀ C,F.aY[0]?=some C->C.aG=[])(sch:ba)(n:Nat):(dX F sch n).2.aY[0]?=F.aY[0]?:=by
 unfold Go.Proofs.YtmkljjbioomepaaGreat.dX
 grind[MS,List.mem_of_getElem?]
section
variable {n y:Nat}
theorem Ai (a:1<=n/\n<=3)(d:y<14){rs:cV}{F G:aH}{A:bA}{g:gd}{gr:Nat->c8}(h:gx (dF n y) rs G A g gr)(b:fT F G):nm 0 101 ((dy y).map dN) F.nodes:=by rw[b.nodes];refine⟨Sb a d h.rep h.law h.lk,by rw[h.rep.len];exact a.2,λx c=>?_⟩;obtain⟨m,hm⟩:=eP.1 c;exact(h.rep.mem m x hm).aS.len
structure jE (n y:Nat)(F:aH)(t:ec):Prop where
 eA:cy F
 clean:fX F
 cR:t.a3=0
 st:(∃ A g gr,mh (dF n y) [] [0] F [t] F A g gr/\ja [] F g gr<=700)\/∃ G A g gr,gx (dF n y) [] G A g gr/\pe F G/\ja [] G g gr<=700/\F.alive 0=false
theorem S9 {F dx:aH}(h:dx.aY[0]?=F.aY[0]?):dx.alive 0=F.alive 0:=by
 have e:∀ H:aH,H.alive 0=H.alive ((0:Nat):Int):=λ_=>rfl
 rw[e,e];unfold aH.alive;rw[ik,ik,h]
theorem NI {F:aH}{t:ec}(a:t.a3=0)(h:F.alive 0=false):b5 F t=(F,t):=by
 unfold Go.Proofs.YtmkljjbioomepaaGreat.b5
 grind
theorem jE.b5 (o:1<=n/\n<=3)(p:y<14){F:aH}{t:ec}(h:jE n y F t):jE n y (b5 F t).1 (b5 F t).2:=by
 have aA:=H1 o p;rcases h.st with⟨A,g,gr,l,hw⟩ | ⟨G,A,g,gr,q,r,s,j⟩
 ·obtain⟨i,d,a,b,u,_,_⟩:=z5 aA (rs:=[]) (λc f=>by cases f) (cs:=[0]) (by simp) [t] (pre:=[]) l;rw[qc]at b;have b:mh (dF n y) [] [0] (Go.Proofs.YtmkljjbioomepaaGreat.b5 F t).1 [(Go.Proofs.YtmkljjbioomepaaGreat.b5 F t).2] i A d a:=b;rcases b.fN 0 0 _ rfl rfl with⟨_,e,k⟩ | ⟨f,_⟩
  ·subst e;exact⟨h.eA.b5 t,h.clean.b5 t,k.cR,.inl ⟨A,d,a,b,by omega⟩⟩
  grind
 ·rw[NI h.cR j];exact h
theorem jE.die (H:1<=n/\n<=3)(I:y<14){F:aH}{t:ec}(h:jE n y F t):jE n y (F.die 0).2 t/\(F.die 0).2.alive 0=false/\∃ G A g gr,CP n y false (F.die 0).2 G A g gr:=by
 have a:=h.clean.die 0;have b:=h.eA.die 0;rcases h.st with⟨A,g,gr,j,hw⟩ | ⟨G,A,g,gr,u,w,x,i⟩
 ·obtain⟨C,l,r,_⟩:=j.ir.cz;have B:=dk l;obtain⟨d,D,s⟩:=j.ir.die;have q:F.die 0=(true,d):=D;have z:F.die ((0:Nat):Int)=(true,{F with b2:=F.b2++(C.aG.map cL.pair).filter (λp=>decide (0<p.bj.length)),aY:=F.aY.set 0 {C with alive:=false,aG:=[],batch:=none,waiting:=0} }):=by unfold aH.die;rw[ik,l];simp only;rw[aW (by rw[r.live];simp),g9]
  have E:d={F with b2:=F.b2++(C.aG.map cL.pair).filter (λp=>decide (0<p.bj.length)),aY:=F.aY.set 0 {C with alive:=false,aG:=[],batch:=none,waiting:=0} }:=by
   grind
  have k:d.aY[0]?=some {C with alive:=false,aG:=[],batch:=none,waiting:=0}:=by grind
  have f:d.alive 0=false:=by
   grind[aH.alive,ik]
  have o:pe d F:=by
   rcases s with e | e
   ·exfalso;rw[e]at k;rw[l]at k;have:=eh (λc=>c.map bB.alive) k;simp only[rD,hA]at this;rw[r.live]at this
    grind
   grind
  rw[q]at a b ⊢;exact⟨⟨b,a,h.cR,.inr ⟨F,A,g,gr,j.ir,o,hw,f⟩⟩,f,F,A,g,gr,j.ir,s,b,hw,(λe=>nomatch e),a⟩
 ·have e:F.die 0=(false,F):=by
   have e:F.die 0=F.die ((0:Nat):Int):=rfl;rw[e];unfold aH.die;have i:F.alive ((0:Nat):Int)=false:=i;unfold aH.alive at i
   grind
  rw[e]at a b ⊢;exact⟨h,i,G,A,g,gr,u,.inr w,b,x,(λe=>nomatch e),a⟩
theorem jE.step (z:1<=n/\n<=3)(D:y<14){F:aH}{t:ec}(h:jE n y F t)(sch:ba)(k:Nat):jE n y (dX F sch k).2 t/\((dX F sch k).1=true->nm 0 101 ((dy y).map dN) (dX F sch k).2.nodes):=by
 have aA:=H1 z D;have b:=h.eA.dX sch k;have a:=h.clean.dX sch k;rcases h.st with⟨A,g,gr,u,hw⟩ | ⟨G,A,g,gr,J,j,W,X⟩
 ·rcases z4 u.ir u.oR sch k with⟨e,_⟩ | ⟨i,m,dx,o,B,e,l,K⟩
  ·grind
  ·have r:=K rfl;subst r;obtain⟨O,Q,q,M,ag,_⟩:=FH aA (rs:=[]) (λc d=>by cases d) u B l K;rw[e]at b a ⊢;exact⟨⟨b,a,h.cR,.inl ⟨O,Q,q,M,by grind⟩⟩,λ_=>Ai z D M.ir (.inl rfl)⟩
 ·have s:=S9 (C8 h.eA j.dead sch k);rcases z4 J (.inr j) sch k with⟨e,_⟩ | ⟨i,m,dx,o,B,e,l,_⟩
  ·grind
  ·obtain⟨A',P,p,E,Y,Z,ab,ad,S,C,C',ae,L,af,R⟩:=FD aA (rs:=[]) (λc d=>by cases d) J B;have I:=C8 h.eA j.dead sch k;rw[e]at b a s I ⊢;have x:i=0:=S.resolve_right λd=>by cases d
   subst x;have w:pe dx o:=by
    rcases l with H | H
    ·exfalso;have f:=j.dead;rw[<-I,H,L]at f;obtain⟨V,N,T,_⟩:=E.cz;rw[L]at N;cases N;have U:=T.aG;rw[f C' rfl]at U;have:=aA.e.n
     grind
    grind
   refine⟨⟨b,a,h.cR,.inr ⟨o,A',P,p,E,w,?_,by grind⟩⟩,λ_=>Ai z D E l⟩
   grind[ja,eB]
theorem DW (a:1<=n/\n<=3)(b:y<14){sch:ba}{die:Int}:∀ (m k:Nat) {F:aH} {t:ec},jE n y F t->n3 (nm 0 101 ((dy y).map dN)) sch die (λE=>jE n y E.1 E.2) m k F t
 | 0,k,F,t,h=>h.b5 a b
 |m+1,k,F,t,h=>λf c=>by
  have e:=h.b5 a b;have i:jE n y f (Go.Proofs.YtmkljjbioomepaaGreat.b5 F t).2:=by
   rw[c];split
   ·rw[e.cR];exact(e.die a b).1
   grind
  obtain⟨d,g⟩:=i.step a b sch k;exact⟨λ_=>d.b5 a b,λj=>⟨g j,DW a b m (k+1) d⟩⟩
theorem NJ (a:1<=n/\n<=3)(b:y<14):jE n y (aH.fresh n 4 101) (mi n y):=
 ⟨cy.fresh (by omega) (by omega) (by omega),fX.fresh n 4 101,rfl,.inl ⟨kU,_,_,OU a b,by rw[OV];grind⟩⟩
theorem OX (o:1<=n/\n<=3)(r:y<14){sure:Bool}{F:aH}{t:ec}{m:Nat}(h:sr n y [1] [t] sure F m):sr n y [1] [(b5 F t).2] sure (b5 F t).1 m/\((b5 F t).1.e5=[]->tL [(b5 F t).2]):=by
 obtain⟨G,A,g,gr,j,hw,l,q⟩:=h;have b:∀ c ∈ [1],1<=c/\c<6:=λc i=>by grind
 obtain⟨e,f,a,d,u,_,w⟩:=z5 (H1 o r) (rs:=[1]) b (cs:=[1]) (by simp) [t] (pre:=[]) j;rw[qc]at d;have d:mh (dF n y) [1] [1] (b5 F t).1 [(b5 F t).2] e A f a:=d;refine⟨⟨e,A,f,a,d,by omega,l.b5 t,q⟩,λp=>Q2 b d (λc i=>?_) p⟩;obtain⟨k,s⟩:=eP.1 i
 grind
def Bc (n y:Nat)(E:aH×ec):Prop:=(∃ m,sr n y [1] [E.2] false E.1 m)/\tL [E.2]
theorem DE (l:1<=n/\n<=3)(o:y<14){sch:ba}:∀ (m k:Nat) {F:aH} {t:ec} {q:Nat},q<m->sr n y [1] [t] false F q->n3 (nm 0 101 ((dy y).map dN)) sch (-1) (Bc n y) m k F t
 | 0,k,F,t,q,M,h=>by omega
 |m+1,k,F,t,q,M,h=>λO b=>by
  rw[aW (by omega)]at b;subst b;obtain⟨J,K⟩:=OX l o h;have p:∀ c ∈ [1],1<=c/\c<6:=λc z=>by grind
  obtain⟨G,A,g,gr,f,hw,B,N⟩:=J;have d:=B.dX sch k;rcases z4 f.ir f.oR sch k with⟨e,z⟩ | ⟨i,j,dx,w,r,e,D,L⟩
  ·rw [e];have C:=K z;have s:∀ (H:aH) (u:ec),u.eU=true->Go.Proofs.YtmkljjbioomepaaGreat.b5 H u=(H,u):=λH u hu=>by
    unfold Go.Proofs.YtmkljjbioomepaaGreat.b5
    grind
   refine⟨λ_=>?_,λe=>nomatch e⟩;show Bc n y (Go.Proofs.YtmkljjbioomepaaGreat.b5 (b5 F t).1 (b5 F t).2);rw[s _ _ (C _ (by simp))];exact⟨⟨q,G,A,g,gr,f,hw,B,N⟩,C⟩
  ·obtain⟨I,x,a,E,P,Q⟩:=FH (H1 l o) p f r D L;rw[e]at d ⊢;exact⟨(λe=>nomatch e),λ_=>⟨Ai l o E.ir D,DE l o m (k+1) (q:=ja [1] w x a) (by omega) ⟨w,I,x,a,E,dr _,d,λh=>(by cases h)⟩⟩⟩
end
end
section
open gW
def u2:Nat->aH->List ec->Option (aH×List ec)
 | 0,_,_=>none
 |f+1,F,l=>match turns F l with
  | (dx,l')=>match dX dx [] 0 with
   | (true,a)=>u2 f a l'
   | (false,a)=>some (a,l')
theorem NK (F:aH)(n:Nat):dX F [] n=dX F [] 0:=by
 grind[dX,kV]
theorem FX (cs:ba):∀ (f a n:Nat) {F:aH} {l:List ec} {e:aH×List ec},u2 f F l=some e->f<=a->iU cs [] [] a n F l=e
 | 0,a,n,F,l,e,h,c=>by cases h
 |f+1,0,n,F,l,e,h,c=>by omega
 |f+1,a+1,n,F,l,e,h,c=>by
  unfold u2 at h;unfold iU;have d:k8 F cs n []=F:=rfl;rw[d,NK];cases i:turns F l with
  |mk dx l'=>
   rw[i]at h;simp only at h ⊢;cases g:dX dx [] 0 with
   |mk b j=>
    rw[g]at h;cases b with
    |true=>simp only at h ⊢;rw[bm trivial];exact FX cs f a (n+1) h (by omega)
    |false=>
     grind
def G0:aH×List ec:=iD (aH.fresh 1 2 101) [mi 1 0] [] [] 3
def H6 (t:ec):Bool:=match t.out with
 |.inl _=>false
 |.inr o=>o.Code == 0 && (o.k4 == 3 && o.k2 == 2)
def GZ (e:aH×List ec):Bool:=match e.2 with
 | [t]=>t.eU && (H6 t && match e.1.nodes with
  | [x]=>!x.down && (x.words.length == 808 && x.get 768 == 256)
  | _=>false)
 | _=>false
def GY:Bool:=match G0 with
 | (a,c)=>(match a.nodes with
  | [x]=>!x.down && (x.words.length == 808 && x.get 768 == 257)
  | _=>false) && (c.length == 1 && match a.die 0 with
   | (true,b)=>(match u2 60 b [pa 1 1]with
    |some e=>GZ e
    |none=>false)
   | (false,_)=>false)
theorem S_:GY=true:=by kernel_rfl
structure JR (Ac Dg Dh:aH)(hb:List ec)(t:ec)(y7 y8:aO):Prop where
 d1:iD (aH.fresh 1 2 101) [mi 1 0] [] [] 3=(Ac,hb)
 UD:Ac.nodes=[y7]/\y7.down=false/\y7.words.length=808/\y7.get 768=257
 die:Ac.die 0=(true,Dg)
 d3:l_ Dg (pa 1 1)=(Dh,[t])
 UE:Dh.nodes=[y8]/\y8.down=false/\y8.words.length=808/\y8.get 768=256
 one:∃ t1,hb=[t1]
 eU:t.eU=true
 out:∃ o:dA,t.out=.inr o/\o.Code=0/\o.k4=3/\o.k2=2
theorem Tz:∃ j k n r t d f,JR j k n r t d f:=by
 have h:=S_;unfold GY at h;cases s:G0 with
 |mk j r=>
 rw[s]at h;simp only[fP]at h;obtain⟨A,q,c⟩:=h;have g:∃ d,j.nodes=[d]/\d.down=false/\d.words.length=808/\d.get 768=257:=by
  grind
 obtain⟨d,g⟩:=g;cases u:j.die 0 with
 |mk b k=>
 rw[u]at c;cases b with
 |false=>cases c
 |true=>
 simp only at c;cases w:u2 60 k [pa 1 1]with
 |none=>grind
 |some e=>
 rw[w]at c;obtain⟨n,z⟩:=e;unfold GZ at c;simp only at c;cases z with
 |nil=>cases c
 |cons t l=>
 cases l with
 |cons a l=>cases c
 |nil=>
 simp only[fP]at c;obtain⟨x,o,B⟩:=c;have i:∃ f,n.nodes=[f]/\f.down=false/\f.words.length=808/\f.get 768=256:=by
  grind
 obtain⟨f,i⟩:=i;have p:l_ k (pa 1 1)=(n,[t]):=by unfold l_ iD;rw[FX _ 60 20000 0 w (by omega)];exact Dc λC y=>by grind
 refine⟨j,k,n,r,t,d,f,s,g,u,p,i,?_,x,?_⟩
 ·rw[beq_iff_eq]at q
  grind[List.length_eq_one_iff]
 unfold H6 at o
 grind
end
section
open gW
theorem AS {X:bt}{F:aH}(h:X.pure=F){x:aO}(a:F.nodes=[x]):∃ y,X.nodes[0]?=some y/\y.n=x:=by
 rw[<-h]at a;obtain⟨y,b,rfl⟩:=wD (f:=λy:d'=>y.n) (l:=X.nodes) (y:=x) (by grind[bt.pure])
 grind
theorem QI {X:bt}{F:aH}(h:X.pure=F)(a:cy F):X.b2.length<=100000000:=by
 have b:=a.le
 grind[bt.pure]
theorem C9 (n c:Nat):ma (pa n c):=λ_=>by show([]:bn).length<=200;simp
section
attribute [local irreducible] iD l_
theorem QJ (w:aj):a9 14 [] w λv u=>v=.bool true/\ai w u:=by
 obtain⟨bW,bX,cN,c_,t,dE,dF,f⟩:=Tz;obtain⟨t1,rfl⟩:=f.one;have c5:dy 0=[96]:=by decide
 have a5:cy (aH.fresh 1 2 101):=cy.fresh (by omega) (by omega) (by omega);have E:cy bW:=by
  have:=cy.iD a5 [mi 1 0] [] [] 3;rw[f.d1]at this
  grind
 have ca:cy bX:=by
  have:=E.die 0;rw[f.die]at this
  grind
 refine a' Tryz.func14 ?_;rw[ZV];refine aE (EY (n:=1) (c:=2) (lines:=101) (by omega) (by omega) (by omega)) ?_;rintro v bp ⟨aJ,A,av,X,rfl,aR,Z,b6,bK⟩;refine⟨_,_,rfl,dm rfl ?_⟩;rintro b1 b3 aW ag;obtain⟨I,j⟩:=bo aW ag;have I:aq b3 b1 (is (ns [96])) 3:=I;clear ag;obtain⟨bR,bm,D⟩:=AS (x:=⟨fmt 101 1,false⟩) bK rfl;have hlen:bR.n.words.length=808:=by
  rw[D];obtain⟨h,_⟩:=wa (n:=1) (by omega);simp only[tQ,fP,beq_iff_eq]at h
  grind
 refine aE (DU (aR.new j) (n:=1) (by omega) bm (by grind) (L:=[96]) (λl c9=>by grind) (by simp) (cc:=1) (e6 I rfl) 0 1) ?_;rintro v bz ⟨K,M,N,rfl,F,ar,b,bk⟩;have a4:pD bR.n [96]=[dN 96]:=by
  have:=DV (n:=1) (y:=0) (by omega) (by omega) D
  grind
 rw[a4]at b;have ck:=j.size;have cl:=F.size;refine cr.aT (h1 0 1 101 K M 1 N) ⟨true,rfl,?_⟩;refine dP (vs:=(h1 0 1 101 K M 1 N).cells) rfl (cr.single _) λaz dA b7 J a7=>?_
 refine dm rfl (cr.aT (h1 0 1 101 K M 1 N) ⟨bJ J rfl,?_⟩);rintro cS bQ aZ ah;obtain⟨bs,G⟩:=bo aZ ah;clear ah;have cf:=J.lt;have cm:=G.size;have d:ai bz bQ:=a7.new G;have ab:ai w bz:=Z.new (j.new F);have O:b4 A av bz aJ X:=aR.new (j.new F);have aP:∀ k,A k->k<bp.heap.size:=λk s=>aR.low k s
 have bb:gE (λk=>A k\/k=az) bQ (h1 0 1 101 K M 1 N) (mi 1 0):=by
  have a8:mi 1 0=A_ 0 ⟨0,1,101,ke 1,[],[dN 96]⟩:=by grind[mi,vD]
  rw[a8];refine Ed ((ar.mono λk ch s=>s.resolve_right (by omega)).new d) (b.rd.new d) rfl (by simp) ?_ ?_
  ·exact gF b.rd λk s c6=>by
    have cZ:=bk _ s;have c1:=b.lt s
    grind
  grind[PP]
 refine aE (OT O d (b1:=az) ⟨by omega,by omega⟩ (by grind) bb (C7 1 0) (pc:=1) (e6 bs (by simp)) (sch:=[]) (sa:=none) (sc:=0) ⟨.inl rfl,.inl rfl⟩ (λx cu=>by cases cu) (most:=3) (by omega) (by rw[bK];exact f.d1)) ?_;rintro v cK ⟨la,lc,r1,cL,dG,cO,rfl,S,g,cq,_,a1⟩;refine⟨_,_,_,rfl,?_⟩;obtain⟨cx,fB,dk,dn⟩:=f.UD;obtain⟨aL,bq,bL⟩:=AS g cx;refine aE (w6 S.cn bq (l:=96) (by omega) (by grind) (by grind)) ?_;rintro v u8 ⟨rfl,W⟩;refine aD.aT (aL.n.eM 96) ⟨true,rfl,?_⟩;refine dP (vs:=(aL.n.eM 96).cells) rfl (aD.single _) λcX dD b9 bx Y=>?_
 have T:=S.new (W.new Y);have cb:(aL.n.eM 96).Head=257:=by
  have:(aL.n.eM 96).Head=aL.n.get 768:=rfl
  grind
 refine dm rfl ⟨_,bx.cell (i:=1) rfl,dm (by grind) ?_⟩;refine aE (A7 T.cn (by rw[g];exact E.ct.ok) (QI g E) 0) ?_;rintro v bG ⟨rfl,ad⟩;rw[g,f.die]at ad ⊢;obtain⟨bV,dH,cP,p,aV,_,_,_,P⟩:=T.op ad;refine⟨_,rfl,dm rfl ?_⟩;refine aE (GR (A:=λk=>bV k\/k=az) (λk s=>p.cn.low k s) (n:=1) (by omega) 1 0) ?_;rintro v cC ⟨bD,rfl,z,bh⟩;refine cr.aT (s' 1 0 bD) ⟨rfl,?_⟩;have q:=p.new z;refine aE (QH q.cn (by grind) (t:=pa 1 1) (Ee bh ⟨by omega,by omega⟩) (C9 1 1)) ?_;rintro v bH ad;rw[aV]at ad;obtain⟨cM,dJ,cQ,R,U,⟨cA,bO,H,rfl,ae⟩,_,_,Q⟩:=q.op ad;rw[f.d3]at H U;have H:cA=t:=by grind
 subst H;have ao:aq bH az (h1 0 1 101 K M 1 N).cells 45:=by have bY:aq cK az (h1 0 1 101 K M 1 N).cells 45:=a1.trans (ai.ak G J);have b5:aq bG az (h1 0 1 101 K M 1 N).cells 45:=(P az rfl).trans (ai.ak (W.new Y) bY);exact(Q az rfl).trans (ai.ak z b5)
 refine cr.aT bO ⟨rfl,?_⟩;refine dI (vs:=bO.cells) ao rfl (cr.single _) λcD aB V=>?_
 have r:=R.local V λk e=>e
 obtain⟨cv,da,df,dh⟩:=f.UE;obtain⟨aM,br,bN⟩:=AS U cv;refine aE (w6 r.cn br (l:=96) (by omega) (by grind) (by grind)) ?_;rintro v cG ⟨rfl,B⟩;refine aD.aT (aM.n.eM 96) ⟨true,rfl,?_⟩;refine dP (vs:=(aM.n.eM 96).cells) rfl (aD.single _) λcY cH b_ aI C=>?_
 have a:=ai.ak (B.new C) aB;obtain⟨o,cj,dp,dq,dr⟩:=f.out;have af:=ae.out;rw[cj]at af;obtain⟨dt,dv,dw,dz⟩:=af;have cd:(aM.n.eM 96).Head=256:=by
  have:(aM.n.eM 96).Head=aM.n.get 768:=rfl
  grind
 refine⟨_,a.cell (i:=24) rfl,fq (ae.eU.trans f.eU) ⟨_,a.cell (i:=26) rfl,fq (by grind) ⟨_,a.cell (i:=33) rfl,fq (by grind) ⟨_,a.cell (i:=35) rfl,fq (by grind) (fq rfl ⟨_,aI.cell (i:=1) rfl,?_,?_⟩)⟩⟩⟩⟩
 ·grind
 ·exact(r.new (B.new C)).iE O ab b6
end
end
section
open IntKind
variable (w:aj)(R:bg){i k l:Int}{s t:an}{a b c d:Nat}
theorem V5:bc prog f7 [ab i,ab k,ab l,af s a b,af t c d] R w=(cond ((a:Int)>100) (R (ad true) w) (cond ((c:Int)>200) (R (ad true) w) (cx 12 #[ab i,ab 3] w λf aV=>Is 23 #[ab (i64.wrap (f+1)),ab 4,ab 101] aV λg h O=>cond (!h) (R (ad false) O) (c6 14 #[] O λj Z=>cond (!j) (R (ad false) Z) (eV 19 #[ab k] Z λF A m aI=>Calls prog 24 #[.pointer g,ab (i64.wrap (f+1)),ab 0,ab 1,af F A m] aI λe aq=>cr.ex λbq=>∃ (n:Bool),e=.returned (.tuple #[bq.val,ad n])/\aR aq #[ab 0,ab 0,ab 0,ab 0,ab 0,ab 0,ab 0,ag 0,ab 0,ab 0,ab 0,ab 0,a4,a4,a4,ab 0,ab 0,ab 0,ab 0,a4,ab 0,ab 0,ag 0,a4,ad false,ad false,ab 0,ab 0,a4,ab 0,a4,ag 0,ab 0,ab 0,ab 0,ab 0] 45 λE aZ=>a8 aZ (ah E 0) 0 bq.cells λW=>cond (!n) (R (ad false) W) (ck W λbm D=>s6 D (ah E 0) λr=>pW D (ah E 8) λY=>(aR bm r.cells.toArray 45 λiN V=>D V/\cx 12 #[ab l,ab 60] V λo bx=>D bx/\h4 25 #[.pointer g,af (bs iN) 1 1,Y.val,af s a b,ab o,ab 60] bx λp q B u K=>D K/\cond (!u) (R (ad false) K) (cond ((q:Int) != 1) (R (ad false) K) (c6 22 #[.pointer g,ab 0] K λv aL=>ck aL λaW M=>pW M (ah E 8) λH=>pV 16 #[ab (i64.wrap (f+1)),ab 1,ag 0] aW λaT T=>M T/\aR T aT.cells.toArray 45 λbL Q=>M Q/\h4 25 #[.pointer g,af (bs bL) 1 1,H.val,af t c d,ab (-1),ab 4000] Q λx y z a7 bf=>cond a7 (bk x y 0 36 λaP=>js bf (br aP 24) λbb=>cond bb (bk x y 0 36 λaE=>bN bf (br aE 26) λJ=>R (ad ((J:Int) == 0)) bf) (R (ad false) bf)) (R (ad false) bf))))/\cx 12 #[ab l,ab 60] bm λa9 bo=>D bo/\aR bo r.cells.toArray 45 λa1 bh=>D bh/\h4 25 #[.pointer g,af (bs a1) 1 1,Y.val,af s a b,ab a9,ab 60] bh λbD a5 bH a' L=>D L/\cond (!a') (R (ad false) L) (cond ((a5:Int) != 1) (R (ad false) L) (c6 22 #[.pointer g,ab 0] L λbJ bR=>ck bR λae N=>pW N (ah E 8) λao=>pV 16 #[ab (i64.wrap (f+1)),ab 1,ag 0] ae λaB S=>N S/\aR S aB.cells.toArray 45 λbQ X=>N X/\h4 25 #[.pointer g,af (bs bQ) 1 1,ao.val,af t c d,ab (-1),ab 4000] X λP C bG aM I=>cond aM (bk P C 0 36 λbK=>js I (br bK 24) λbO=>cond bO (bk P C 0 36 λU=>bN I (br U 26) λG=>R (ad ((G:Int) == 0)) I) (R (ad false) I)) (R (ad false) I))))))))):=by kernel_rfl
end
section
open gW
theorem MT:∀ q ∈ (dy y).map dN,96<=q.bw/\q.bw<101:=λq b=>by obtain⟨l,a,rfl⟩:=dD.1 b;have:=za a;show 96<=(l:Int)/\(l:Int)<101;omega
def ru (a:c1)(b:an)(wl c:Nat):cE:=⟨0,1,101,a,none,0,0,b,wl,c⟩
theorem FY (d:y<14){a:c1}{b:an}{c:Nat}:GG 0 (ru a b (dy y).length c) ((dy y).map dN):=
 ⟨by simp[ru],rfl,by omega,rfl,by grind[y3],MT⟩
theorem J1 (w:aj){cA cL cM:Int}{cH cK:an}{cO cP:Nat}{sch ord:ba}(dZ:eb cA)(dK:eb cL)(dM:eb cM)(ev:bh w cH (is sch))(eg:∀ x ∈ sch,eb x)(eu:bh w cK (is ord))(dh:∀ x ∈ ord,eb x) :
  a9 7 [.int .i64 cA,.int .i64 cL,.int .i64 cM,.slice cH sch.length cO,.slice cK ord.length cP] w λv u=>v=.bool true/\ai w u:=by
 refine a' Tryz.func7 ?_;rw[V5];refine a5 (λh=>⟨rfl,ao.refl _ _⟩) (λ_=>a5 (λh=>⟨rfl,ao.refl _ _⟩) (λ_=>?_))
 refine aE (Fn _ _ _ dZ (by omega)) ?_;rintro v gU ⟨rfl,dr⟩;obtain rfl:w=gU:=dr.symm;rw[aW (by omega)];refine⟨_,rfl,?_⟩;obtain⟨n,ep,Y⟩:∃ n:Nat,cA % 3+1=n/\1<=n/\n<=3:=⟨(cA % 3+1).toNat,by omega,by omega⟩;rw[bq (x:=cA % 3+1) (by omega) (by omega),ep];refine aE (EY (n:=n) (c:=4) (lines:=101) (by omega) (by omega) (by omega)) ?_;rintro v bp ⟨aJ,A,av,X,rfl,cX,cb,cQ,d9⟩;refine⟨_,_,rfl,dm rfl ?_⟩;refine aE (QJ _) ?_;rintro v b3 ⟨rfl,b_⟩;refine⟨_,rfl,dm rfl ?_⟩;obtain⟨y,ez,F⟩:∃ y:Nat,(cL % 14).toNat=y/\y<14:=⟨(cL % 14).toNat,rfl,by omega⟩;refine aE (OS dK) ?_;rw[ez];rintro v bz ⟨eP,cc,rfl,dn,ca⟩;refine⟨_,_,_,rfl,?_⟩;have aI:∀ (i:Nat) (x:d'),X.nodes[i]?=some x->x.n=⟨fmt 101 n,false⟩:=λi x dw=>by
  have:X.pure.nodes[i]?=some x.n:=by grind[bt.pure]
  rw[d9]at this;exact(List.mem_replicate.1 (cu this)).2
 have er:X.nodes.length=n:=by
  have:X.pure.nodes.length=n:=by grind[aH.fresh]
  grind[bt.pure]
 obtain⟨x,dw⟩:∃ x,X.nodes[0]?=some x:=⟨_,bW (by omega)⟩;have bH:=aI 0 x dw;have hlen:x.n.words.length=808:=by
  rw[bH];obtain⟨h,_⟩:=wa Y;simp only[tQ,fP,beq_iff_eq]at h
  grind
 have R:=b_.new ca;refine aE (DU (cX.new R) (n:=n) (by omega) dw (by rw[bH]) (L:=dy y) (λl eh=>by have:=za eh;omega) (by grind[y3]) dn 0 1) ?_;rintro v cx ⟨O,p,P,rfl,Z,ar,D,dt⟩;rw[DV Y F bH]at D;refine cr.aT (h1 0 1 101 O p (dy y).length P) ⟨true,rfl,?_⟩;have dR:=R.size;have dS:=Z.size;refine dP (vs:=(h1 0 1 101 O p (dy y).length P).cells) rfl (cr.single _) λb1 eE ee N a1=>?_
 refine dm rfl ?_;rintro dE cl;have s:ai eE dE:=by rw[cl];exact cC _
 clear cl;have ek:=N.lt;have T:ai w cx:=cb.new (R.new Z);have a8:b4 A av cx aJ X:=cX.new (R.new Z);have cS:∀ k,A k->k<bp.heap.size:=λk a=>cX.low k a
 have dT:=a1.size;have dv:(dy y).length=((dy y).map dN).length:=by simp
 have f:∀ k,aP p k->¬ (A k\/k=b1):=λk a Q=>by
  have eQ:=dt k a;have eR:=D.lt a
  grind
 refine⟨λq=>aq q b1 (h1 0 1 101 O p (dy y).length P).cells 45,ai.ak s N,cr.aT (h1 0 1 101 O p (dy y).length P) ⟨λq ch=>bJ ch rfl,cE.aT (ru O p (dy y).length P) ⟨λq ch=>bJ ch rfl,?_⟩⟩⟩;have tail:∀ {z:aj} {a2:an},ai dE z->bh z a2 (h1 0 1 101 O p (dy y).length P).cells->a9 25 [ptr aJ,.slice a2 1 1,(ru O p (dy y).length P).val,.slice cH sch.length cO,.int .i64 (cM % 60),.int .i64 60] z λv u=>∃ la lc,v=.tuple #[.slice la 1 lc,.bool true]/\aq u b1 (h1 0 1 101 O p (dy y).length P).cells 45/\∃ B bV U t,fa A av cx aJ (λk=>k=b1) u B bV U/\jE n y U.pure t/\bh u p (ef ((dy y).map dN)).flatten/\∀ k,aP p k->k<u.heap.size/\¬ (B k\/k=b1):=λ{z a2} da dk=>by
  have ab:=s.new da;have S:=a1.new ab;have ew:=ab.size;have aB:fa A av cx aJ (λk=>k=b1) z A av X:=fa.start a8 S λk a=>by grind
  have d:=D.rd.new S;have dq:gE (λk=>A k\/k=b1) z (h1 0 1 101 O p (dy y).length P) (mi n y):=Ed ((ar.mono λk eo a=>a.resolve_right (by omega)).new S) d dv (by grind[y3]) (gF D.rd λk a Q=>f k a Q) PP;have bs:n3 (nm 0 101 ((dy y).map dN)) sch (cM % 60) (λE=>jE n y E.1 E.2) 60 0 X.pure (mi n y):=by
   grind[DW,NJ]
  have M:=Fy aB.cn (by grind[cy.fresh]) dq (C7 n y) (pc:=1) dk (sch:=sch) (sa:=cH) (sc:=cO) (E' ev (T.new S) λk a=>a.elim (cQ k) λe=>(by have:=T.size;omega)) eg (job:=ru O p (dy y).length P) (W:=(dy y).map dN) ⟨d,gF d λk a Q=>f k a Q⟩ (FY F) (most:=60) (by omega) bs;refine aE M ?_;rintro v u ⟨E,dQ,cf⟩;obtain⟨B',eH,U,bY,d_,⟨la,lc,bR,rfl,cd,c_,dU⟩,a,d8,c1⟩:=aB.op cf;refine⟨_,rfl,la,lc,rfl,(c1 b1 rfl).trans (ai.ak ab N),B',eH,U,E.2,bY,by grind,d.aC a (gF d λk a Q=>f k a Q),λk a=>⟨fQ (D.lt a) bY.next.aC.size,λQ=>?_⟩⟩
  exact f k a (d8 k (by have:=D.lt a;omega) Q)
 have fin:∀ {u:aj} {B:a6} {bV:bI} {U:bt} {t:ec},aq u b1 (h1 0 1 101 O p (dy y).length P).cells 45->fa A av cx aJ (λk=>k=b1) u B bV U->jE n y U.pure t->bh u p (ef ((dy y).map dN)).flatten->(∀ k,aP p k->k<u.heap.size/\¬ (B k\/k=b1))->
   Calls prog 22 #[ptr aJ,.int .i64 0] u λe dF=>∃ cv:Bool,e=.returned (.bool cv)/\∀ bN,bN=dF.drew->∃ ah:aK,ah bN/\cE.ex λdG=>(∀ u,ah u->b6 u ⟨b1,8,none⟩ 0 dG.cells)/\Calls prog 16 #[.int .i64 n,.int .i64 1,.int .u64 0] bN λe bO=>cr.ex λdV=>e=.returned dV.val/\ah bO/\∀ cN bQ,cN=bO.heap.size->bQ=bO.alloc (.cells dV.cells.toArray 45)->ah bQ/\
    Calls prog 25 #[ptr aJ,.slice (some ⟨cN,0,none⟩) 1 1,dG.val,.slice cK ord.length cP,.int .i64 (-1),.int .i64 4000] bQ λe ag=>∃ (x:an) (y z:Nat) (aa:Bool),e=.returned (.tuple #[.slice x y z,.bool aa])/\(bif aa then(bk x y 0 36 λdJ=>∃ aL:Bool,ag.cell? ⟨dJ.block,dJ.off+24,none⟩=some (.bool aL)/\(bif aL then(bk x y 0 36 λdI=>∃ Code:Int,ag.cell? ⟨dI.block,dI.off+26,none⟩=some (.int .i64 Code)/\((.bool (Code == 0):bl)=.bool true/\ai w ag))else((.bool false:bl)=.bool true/\ai w ag)))else((.bool false:bl)=.bool true/\ai w ag)):=by
  intro u B bV U t ea aB j d J;have df:U.b2.length<=100000000:=by
   have dK:=j.eA.le
   grind[bt.pure]
  refine aE (A7 aB.cn j.eA.ct.ok df 0) ?_;rintro v bL ⟨rfl,cf⟩;obtain⟨cD,dX,cG,bb,bm,_,c9,c5,cY⟩:=aB.op cf;obtain⟨_,_,G,eJ,g,gr,b9⟩:=j.die Y F;have K:aq bL b1 (h1 0 1 101 O p (dy y).length P).cells 45:=(cY b1 rfl).trans ea;have cj:=d.aC c9 (gF d λk a Q=>(J k a).2 Q);have aM:pk w bL aJ (λk=>cD k\/k=b1) dX cG (U.pure.die 0).2:=⟨bb.cn,bm,bb.iE a8 T cQ,bb.owns a8 T cQ⟩;refine⟨_,rfl,?_⟩;rintro dA a4;have I:ai bL dA:=by rw[a4];exact cC _
  clear a4;refine⟨λq=>aq q b1 (h1 0 1 101 O p (dy y).length P).cells 45,ai.ak I K,cE.aT (ru O p (dy y).length P) ⟨λq ch=>bJ ch rfl,?_⟩⟩;have bX:=aM.j5 I;refine aE (GR (A:=λk=>cD k\/k=b1) (λk a=>bX.cn.low k a) (n:=n) (by omega) 1 0) ?_;rintro v eB ⟨dz,rfl,aV,cm⟩;refine cr.aT (s' 1 0 dz) ⟨rfl,ai.ak (I.new aV) K,?_⟩;rintro cN dD c6 a7;obtain⟨cq,aZ⟩:=bo c6 a7;clear a7;have H:=(I.new aV).new aZ;refine⟨ai.ak H K,?_⟩;have r:=aM.j5 H;have bs:n3 (nm 0 101 ((dy y).map dN)) ord (-1) (Bc n y) 4000 0 cG.pure (pa n 1):=by rw[bm];have dp:=MR b9 (rs:=[1]) (λc b7=>by grind);exact DE Y F 4000 0 (q:=700+([1]:cV).length*1680) (by simp) dp
  have ae:=cj.new H;have b5:∀ k,aP p k->¬ (cD k\/k=b1):=λk a Q=>(J k a).2 (c5 k (J k a).1 Q)
  have M:=Fy r.cn (by rw[bm];exact b9.eA) (Ee (cm.new aZ) ⟨by omega,by omega⟩) (C9 n 1) (pc:=1) (e6 cq (o:=0) (by simp)) (sch:=ord) (sa:=cK) (sc:=cP) (E' eu r.new r.own) dh (job:=ru O p (dy y).length P) (W:=(dy y).map dN) ⟨ae,gF ae λk a Q=>b5 k a Q⟩ (FY F) (most:=4000) (by omega) bs;refine aE M ?_;rintro v u16 ⟨E,⟨⟨m,dQ⟩,aR⟩,cf⟩;obtain⟨eK,eY,eL,cZ,⟨la,lc,bR,rfl,cd,c_,ck⟩,_,_⟩:=(⟨r.cn,rfl,r.new,r.own⟩:pk w dD aJ (λk=>cD k\/k=b1) dX cG cG.pure).op cf;obtain⟨eN,v6,eW,eV,_,_,bx,_⟩:=(OW Y F (λc b7=>by grind) dQ aR).2.2 rfl E.2 (by simp);have br:bR.Code=0:=by have:=ck.out;rw[bx]at this;exact this.1
  have bD:bR.lL=true:=ck.eU.trans (aR E.2 (by simp));have ad:bh u16 la (([bR]:List dH).map λx=>x.cells).flatten:=by simpa using cd.rd
  refine⟨_,_,_,true,rfl,fq rfl ?_⟩;refine ei (cells:=λx:dH=>x.cells) (λx=>cr.len x) (by omega) ad (i:=0) rfl rfl rfl λb o _ b7=>⟨true,by rw[b7 24 (.bool bR.lL) rfl,bD],fq rfl ?_⟩
  refine ei (cells:=λx:dH=>x.cells) (λx=>cr.len x) (by omega) ad (i:=0) rfl rfl rfl λb o _ b7=>⟨0,by rw[b7 26 (.int .i64 bR.Code) rfl,br],rfl,cZ.new⟩
 refine⟨?_,?_⟩
 ·rintro az dW K af;obtain⟨bK,C⟩:=bo K af;clear af;refine⟨ai.ak (s.new C) N,?_⟩;refine aE (Fn _ _ _ dM (by omega)) ?_;rintro v u8 ⟨rfl,bG⟩;obtain rfl:dW=u8:=bG.symm;rw[aW (by omega)];refine⟨_,rfl,ai.ak (s.new C) N,?_⟩;refine aE (tail C (e6 bK (by simp))) ?_;rintro v eF ⟨la,lc,rfl,V,B,bV,U,t,aB,j,d,J⟩;exact⟨_,_,_,_,rfl,V,dm rfl (dm rfl (fin V aB j d J))⟩
 ·refine aE (Fn _ _ _ dM (by omega)) ?_;rintro v u8 ⟨rfl,bG⟩;obtain rfl:dE=u8:=bG.symm;rw[aW (by omega)];refine⟨_,rfl,ai.ak s N,?_⟩;rintro az dW K af;obtain⟨bK,C⟩:=bo K af;clear af;refine⟨ai.ak (s.new C) N,?_⟩;refine aE (tail C (e6 bK (by simp))) ?_;rintro v eF ⟨la,lc,rfl,V,B,bV,U,t,aB,j,d,J⟩;exact⟨_,_,_,_,rfl,V,dm rfl (dm rfl (fin V aB j d J))⟩
end
section
open Go.ChangeShapes Go.WideShapes Go.ChangeAt Go.RowKit
theorem laid:laidOutB prog=true:=by kernel_rfl
theorem S8:ownKnob prog.godebug=none:=by kernel_rfl
theorem Cq {H:Type}{enc:bU×bl->H}{W W':aj}{sp:Nat->Bool}:∀ {ts:List bU} {vs:au} {ds:List (DataW H)} {cp:List MemPlace},(∀ t ∈ ts,prog.readableRec t=true/\t<prog.types.size)->DataW.TrodAll enc prog W 0 (λ_=>true) true ts vs ds cp->
  (∀ p ∈ cp,W.sameAt W' p)->(∀ p ∈ cp,sp p.block=true)->DataW.TrodAll enc prog W' 0 sp true ts vs ds cp
 | [],_,_,_,_,h,_,_=>by obtain⟨rfl,rfl,rfl⟩:=trodAll_nil h;exact trodAll_mk0
 |t::ts,_,_,_,e,h,g,f=>by obtain⟨v,l,d,i,a,b,rfl,rfl,rfl,j,k⟩:=trodAll_cons h;refine trodAll_cons_mk (WideElems.Trod_stays laid (e t g_).1 (e t g_).2 j (λp c=>g p (Co _ c)) λp c=>f p (Co _ c)) ?_;exact Cq (λt h=>e t (gm _ h)) k (λp c=>g p (List.mem_append_right _ c)) λp c=>f p (List.mem_append_right _ c)
theorem OY {H:Type}{enc:bU×bl->H}{f:Func}{s:ChangeSpec}{apart:Bool}{W W':aj}{ds gs:List (DataW H)}{before:List MemPlace}{tb:bU}(eT:DataW.Whole enc prog f.params.toList s.vars apart W args.toList ds gs before)
  (k:Go.bd.ai W W') (e:∀ t ∈ f.params.toList,prog.readableRec t=true/\t<prog.types.size) (ar:s.vars=[]) (a:s.fn H (ds++gs)={results:=[.lit (.bool true)],args:=ds}) (o:f.resultTypes=#[tb]) (d:prog.underlying tb=some .bool) :
  s.post enc prog f apart true false false W args (.bool true) W':=by
 have g:Go.RowKit.Below W.heap.size W W':=k.below (dr _) λ_ _ h=>h
 have c:=eT.lt;have b:=eT;obtain⟨p,q,j,r,rfl,l,n⟩:=eT;refine⟨ds,gs,p++q,[],p,[],b,?_,?_,?_,g.frame _,λh=>by cases h⟩
 ·rw[a,o];exact trodAll_cons_mk (shut_bool d _) trodAll_mk0
 ·rw[a];exact Cq e j (λx i=>g.same (c x (Co _ i))) λx i=>by grind
 ·rw[a,ar];rfl
theorem wV {n:Int}(h:(Lit.int .i64 n).wf=true):eb n:=by have:=bounds_i64 h;exact⟨this.1,by omega⟩
end
section
open Go.ChangeShapes Go.WideShapes Go.ChangeAt Go.RowKit
theorem Eg {sz:Nat}(b:0<sz):∀ {rows:List au} {j:Nat} {u:bl},(∀ r ∈ rows,r.length=sz)->rows.flatten[j]?=some u->∃ r,rows[j / sz]?=some r/\r[j % sz]?=some u
 | [],j,u,_,h=>by grind
 |r::rows,j,u,c,h=>by
  have i:=c r g_;rw[kR,rF]at h;by_cases l:j<sz
  ·rw[bm (by omega)]at h
   grind[Nat.div_eq_of_lt,Nat.mod_eq_of_lt]
  ·rw[aW (by omega),i]at h;obtain⟨k,f,g⟩:=Eg b (λr a=>c r (gm _ a)) h;have d:j / sz=(j-sz) / sz+1:=by rw[Nat.div_eq_sub_div b (by omega)]
   have e:j % sz=(j-sz) % sz:=by rw[Nat.mod_eq_sub_mod (by omega)]
   exact⟨k,by rw[d];simpa using f,by rw[e];exact g⟩
theorem NL {a:aw}(h:w.cell? a=some v):a.spot=none:=by
 cases b:a.spot with
 |none=>rfl
 |some s=>
  exfalso;unfold World.cell? at h
  grind
theorem MU {H:Type}{enc:bU×bl->H}{W:aj}{fuel:Nat}{cs:au}{x:DataW H×List MemPlace}(I:P.underlying t=some (.slice e))(N:P.cellsOf e=k)(y:0<k)
  (F:DataW.trod enc P W 0 (λ_=>true) held fuel t cs=some x):∃ a cap rows,cs=[.slice a (List.length rows) cap]/\rows.length<=cap/\bh W a rows.flatten/\∀ r ∈ rows,r.length=k/\∃ fuel x,DataW.trod enc P W 0 (λ_=>true) held fuel e r=some x:=by
 rcases Deep.open_slice I F with⟨w,_⟩ | ⟨d,len,cap,m,n,D,B,w,_,K,_,L,_,M⟩
 ·exact⟨none,0,[],w,dr _,.inl rfl,λx J=>by cases J⟩
 ·subst w;have hm:len<=m:=by grind
  obtain⟨f,h⟩:=Deep.choose_lt (α:=au) (p:=λi cs=>W.cells? 0 (d.add (i*k)) k=some cs/\DataW.trod enc P W 0 (λ_=>true) held n e cs=some (D i,B i)) (n:=m) (λi l=>by
   grind)
  have g:∀ (i:Nat) (r:au),((List.range len).map f)[i]?=some r->i<len/\r=f i:=by
   grind
  have c:∀ r ∈ (List.range len).map f,r.length=k:=by intro r A;obtain⟨i,l⟩:=eP.1 A;obtain⟨l,rfl⟩:=g i r l;exact(World.cells?_some (h i (by omega)).1).2.1
  refine⟨some d,cap,(List.range len).map f,by simp,by grind,?_,λr A=>⟨c r A,?_⟩⟩
  ·by_cases s:len=0
   ·subst s;exact .inl rfl
   ·have b:∀ (i q:Nat) (u:bl),i<len->(f i)[q]?=some u->q<k->W.cell? (d.add (i * k+q))=some u:=by
     intro i q u l O z;have:=(World.cells?_some (h i (by omega)).1).2.2 q z;rw[Deep.add_add]at this
     grind
    have G:=(World.cells?_some (h 0 (by omega)).1).2.1;have Q:d.spot=none:=by have o:=b 0 0 _ (by omega) (bW (by omega)) y;have:=NL o;simpa[Addr.add]using this
    refine .inr ⟨d.block,d.off,by cases d;simp_all,λj u hu=>?_⟩;obtain⟨r,C,E⟩:=Eg y c hu;obtain⟨l,rfl⟩:=g _ _ C;have o:=b (j / k) (j % k) u l E (Nat.mod_lt _ y);rw[Nat.mul_comm,Nat.div_add_mod]at o;rw[<-o];unfold Addr.add;split
    ·rename_i s;subst s;cases d;simp_all
    grind
  grind
theorem NM {H:Type}{enc:bU×bl->H}{W:aj}{d:DataW H}(f:P.underlying t=some (.slice e))(i:P.cellsOf e=k)(n:0<k)(c:Value.okWide P W r g' t v)
  (j:DataW.Trod enc P W 0 (λ_=>true) held t v d cp):∃ a cap rows,v=.slice a (List.length rows) cap/\bh W a rows.flatten/\∀ r ∈ rows,r.length=k/\∃ fuel x,DataW.trod enc P W 0 (λ_=>true) held fuel e r=some x:=by
 obtain⟨a,len,cap,rfl⟩:=okWide_slice f c;obtain⟨fuel,l⟩:=j;obtain⟨bS,b,rows,g,_,o,p⟩:=MU f i n l;have h:[Value.slice a len cap]=[.slice bS rows.length b]:=g
 grind
theorem DF {H:Type}{enc:bU×bl->H}{W:aj}{d:DataW H}(p:P.underlying t=some (.slice e))(he:P.underlying e=some (.int .i64))(l:P.cellsOf e=1)(b:Value.okWide P W r g' t v)
  (o:DataW.Trod enc P W 0 (λ_=>true) held t v d cp):∃ a cap xs,v=.slice a (List.length xs) cap/\bh W a (is xs)/\∀ x ∈ xs,eb x:=by
 obtain⟨a,cap,rows,rfl,s,g⟩:=NM p l (by omega) b o;have hint:∀ r ∈ rows,∃ n,r=[.int .i64 n]/\eb n:=by
  intro r f;obtain⟨_,fuel,x,c⟩:=g r f;obtain⟨n,e,_,w⟩:=DataW.trod_int he c
  grind[wV]
 clear g;have key:∀ rows:List au,(∀ r ∈ rows,∃ n,r=[Value.int .i64 n]/\eb n)->∃ xs:ba,rows.length=xs.length/\rows.flatten=is xs/\∀ x ∈ xs,eb x:=by
  intro rows;induction rows with
  |nil=>intro _;exact⟨[],rfl,rfl,λx c=>by cases c⟩
  |cons r rows q=>
   intro h;obtain⟨n,rfl,u⟩:=h r g_;obtain⟨xs,i,j,k⟩:=q λr f=>h r (gm _ f)
   refine⟨n::xs,by grind,by grind[is],λx c=>?_⟩
   grind
 obtain⟨xs,i,j,k⟩:=key rows hint
 grind
end
section
open Go.ChangeShapes Go.WideShapes Go.ChangeAt Go.RowKit
theorem Lg {H:Type}{enc:bU×bl->H}{base:Nat}{spare:Nat->Bool}{t0 t1 t2 t3 t4:bU}{ds:List (DataW H)}(h:DataW.TrodAll enc P w base spare held [t0,t1,t2,t3,t4] args.toList ds cp) :
  ∃ v0 v1 v2 f v4 d0 d1 d2 d3 d4 a b c d e,args=#[v0,v1,v2,f,v4]/\ds=[d0,d1,d2,d3,d4]/\cp=a++b++c++d++e/\DataW.Trod enc P w base spare held t0 v0 d0 a/\DataW.Trod enc P w base spare held t1 v1 d1 b/\DataW.Trod enc P w base spare held t2 v2 d2 c/\DataW.Trod enc P w base spare held t3 f d3 d/\DataW.Trod enc P w base spare held t4 v4 d4 e:=by
 obtain⟨v0,dZ,d0,t,a,E,g,rfl,rfl,i,o⟩:=trodAll_cons h;obtain⟨v1,A,d1,u,b,F,rfl,rfl,rfl,j,p⟩:=trodAll_cons o;obtain⟨v2,B,d2,x,c,G,rfl,rfl,rfl,k,q⟩:=trodAll_cons p;obtain⟨f,C,d3,y,d,I,rfl,rfl,rfl,l,r⟩:=trodAll_cons q;obtain⟨v4,D,d4,z,e,J,rfl,rfl,rfl,n,s⟩:=trodAll_cons r;obtain⟨rfl,rfl,rfl⟩:=trodAll_nil s;exact⟨v0,v1,v2,f,v4,d0,d1,d2,d3,d4,a,b,c,d,e,by cases args;simp_all,rfl,by simp,i,j,k,l,n⟩
theorem NN (os:Os)(started:os.Started)(H:Type)(enc:bU×bl->H) :
  ReturnsInHanded {} Tryz.checked os 7 .any (Rows.recoveryStepsSpec.pre6 enc prog f7 Rows.recoveryStepsRow.domain false) (Rows.recoveryStepsSpec.post enc prog f7 false true false false):=by
 refine returnsInHanded_of_change (C:=Tryz.checked) S8 started (by kernel_rfl) Tryz.func7
  (ChangeSpec.witness6 (enc:=enc) (C:=Tryz.checked) false ⟨#[],#[.int .i64 0,.int .i64 0,.int .i64 0,.slice none 0 0,.slice none 0 0],[]⟩ 8 (by kernel_rfl) (by kernel_rfl) (by kernel_rfl) (by kernel_rfl)) ?_
 intro W base args ds gs before b eT g _;have a:∀ (j:Nat) t v,f7.params[j]?=some t->args[j]?=some v->Value.okWide prog W .any base t v:=b;have d:=eT;obtain⟨p,q,c,o,rfl,r,u⟩:=eT;have f:DataW.TrodAll enc prog W 0 (λ_=>true) true f7.params.toList args.toList ds p:=c;rw[Tryz.params7]at f a;obtain⟨v0,v1,v2,A,v4,d0,d1,d2,d3,d4,O,P,Q,R,S,rfl,rfl,rfl,h,i,k,l,n⟩:=Lg f;obtain⟨rfl,rfl⟩:=trodVars_none o;obtain⟨F,rfl,_,_,w0⟩:=open_int Tryz.underlying3 (a 0 _ v0 rfl rfl) h;obtain⟨G,rfl,_,_,w1⟩:=open_int Tryz.underlying3 (a 1 _ v1 rfl rfl) i;obtain⟨b8,rfl,_,_,B⟩:=open_int Tryz.underlying3 (a 2 _ v2 rfl rfl) k;obtain⟨I,K,M,rfl,y,D⟩:=DF Tryz.underlying22 Tryz.underlying3 (by kernel_rfl) (a 3 _ A rfl rfl) l;obtain⟨J,L,N,rfl,z,E⟩:=DF Tryz.underlying22 Tryz.underlying3 (by kernel_rfl) (a 4 _ v4 rfl rfl) n;refine(J1 W (wV w0) (wV w1) (wV B) y D z E).mono λe W' ⟨x,he,w,s⟩=>?_
 subst he w;refine⟨_,rfl,OY d s (by rw[Tryz.params7];decide +kernel) rfl rfl (tb:=4) (by kernel_rfl) Tryz.underlying4⟩
theorem SB:Rows.recoveryStepsRow.wf (OpenSpec.ofChange Rows.recoveryStepsSpec)=true:=by kernel_rfl
theorem SC:mapsRowed prog=true:=by kernel_rfl
theorem SD:f7.params.all (prog.readableRec ·)=true:=by kernel_rfl
theorem SE:namedTie prog Rows.recoveryStepsRow.named Rows.recoveryStepsSpec.vars=true:=by kernel_rfl
theorem SF:(Rows.recoveryStepsRow.inPlace == prog.inPlace 7)=true:=by kernel_rfl
theorem SG:(Rows.recoveryStepsRow.unfollowed == prog.unfollowed 7)=true:=by kernel_rfl
theorem SH:(Rows.recoveryStepsRow.recurses == prog.recurses 7)=true:=by kernel_rfl
theorem SI:(Rows.recoveryStepsRow.named == prog.varsNamed 7)=true:=by kernel_rfl
theorem NO:joinedFacts prog 7 f7 Rows.recoveryStepsSpec Rows.recoveryStepsRow=true:=by unfold joinedFacts;rw[SB,laid,SC,SD,SE,SF,SG,SH,SI];kernel_rfl
theorem QK:Rows.recoveryStepsRow.holds Tryz.pinned (OpenSpec.ofChange Rows.recoveryStepsSpec):=
 OpenClaim.holds_of_wide 7 f7 rfl rfl rfl rfl rfl rfl rfl ⟨rfl,rfl,rfl,rfl,rfl⟩ rfl rfl rfl rfl rfl (by kernel_rfl) Tryz.func7 NO
  (qa (by kernel_rfl)) (by unfold Func.isWrapper;first | (rw[bm (by decide +kernel)];kernel_rfl) | (rw[aW (by decide +kernel)];exact⟨rfl,rfl⟩))
  (λos started H enc _=>NN os started H enc)
theorem recoverySteps_holds:Rows.RecoveryStepsSaid:=QK
#print axioms recoverySteps_holds
end
end Go.Proofs.YtmkljjbioomepaaGreat
