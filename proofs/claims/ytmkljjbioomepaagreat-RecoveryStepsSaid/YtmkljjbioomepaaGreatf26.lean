import Derived.Test.YtmkljjbioomepaaGreatf25
import Derived.Test.YtmkljjbioomepaaGreatf10
import Derived.Test.YtmkljjbioomepaaGreatf14
set_option linter.all false
set_option maxHeartbeats 4000000
set_option maxRecDepth 100000
namespace Go.Proofs.YtmkljjbioomepaaGreat
open Go.Proofs.Tryz Go.bd
variable {B:ba}{l m n y:Nat}
section
open e2
def xn (x q:Nat):Bool:=(x+1) / 2 ^ q % 2 == 1
def nN (x i:Nat):cV:=((List.range i).filter (xn x)).map (96+·)
def dy (x:Nat):cV:=nN x 4
def ns (l:cV):ba:=l.map Int.ofNat
theorem Cs (x i:Nat):nN x (i+1)=nN x i++(if xn x i=true then[96+i]else[]):=by
 grind[nN,List.range_succ,xn]
theorem LM:∀ x,x<14->∀ i,i<4->(ee .i64 (cD .i64 (((x+1:Nat):Int)) ((i:Nat):Int)) 1 == 1)=xn x i:=by decide
theorem za {x:Nat}(h:l ∈ dy x):96<=l/\l<100:=by
 grind[dy,nN]
theorem Ld (x i:Nat):(nN x i).length<=i:=by
 grind[nN,List.length_map,Nat.le_trans,List.length_filter_le]
theorem y3:∀ y,y<14->1<=(dy y).length/\(dy y).length<=3:=by decide
def dN (l:Nat):aD:=⟨l,256,1,0,0,0,0,0,0⟩
def vD (n y:Nat):cJ:=⟨0,1,101,ke n,[],(dy y).map dN⟩
def dF (n y:Nat):Env:=⟨n,101,qs,λ_=>0,[0],λ_=>vD n y,false⟩
theorem ML:∀ n,n<3->∀ y,y<14->(vD (n+1) y).valid=0:=by decide +kernel
theorem MM:∀ y,y<14->fJ 1 ((dy y).map dN) 101=0:=by decide +kernel
theorem R':ew 256 0≠kP 256:=by decide
theorem j7 {p:aD}:p ∈ bL (dF n y)↔∃ l,l ∈ dy y/\p=dN l:=by
 show p ∈ (dy y).map dN↔_
 grind
theorem H1 (f:1<=n/\n<=3)(b:y<14):cl (dF n y):=by
 have ar:(vD n y).valid=0:=by
  have:=ML (n-1) (by omega) y b
  grind
 have h:=y3 y b;have j:ey (dF n y) 0 ((dF n y).ed 0):=ey.Vd ar rfl (by omega) rfl rfl (λe=>by
  have e:(dy y).map dN=[]:=e
  simp_all) (λp a=>by obtain⟨l,_,rfl⟩:=j7.1 a;rfl) (λs g=>by cases g)
 refine⟨⟨⟨f.1,by show n<=5;omega⟩,⟨by show 98<=101;omega,by show 101<=256;omega⟩,by show([0]:cV).Nodup;simp,λi d=>?_⟩,rfl,rfl,λp a=>?_,MM y b,λp a x c=>?_,λp a=>?_,⟨by show(0:Int)<=0;omega,by show(0:Int)<1;omega⟩,λl _ _=>rfl⟩
 ·have:i ∈ ([0]:cV):=d
  grind
 ·obtain⟨l,_,rfl⟩:=j7.1 a;exact R'
 ·obtain⟨l,_,rfl⟩:=j7.1 a;simp[hE,dN]at c;rcases c with rfl | rfl<;>exact⟨by omega,by omega⟩
 ·obtain⟨l,_,rfl⟩:=j7.1 a;exact⟨by show(0:Int)<=256;omega,by show(256:Int)<_;omega⟩
def kU:bA:=⟨λ_ _=>0,λ_=>false,λ_=>false,λ_=>false,λ_=>false,0⟩
def FQ (n:Nat):Bool:=(fmt 101 n).getD 48 0 == 0 && (fmt 101 n).getD 49 0 == 0
theorem wa (a:1<=n/\n<=3):tQ n 101=true/\FQ n=true:=by
 obtain rfl | rfl | rfl:n=1\/n=2\/n=3:=by omega
 all_goals exact⟨by kernel_rfl,by kernel_rfl⟩
theorem O_ {k:Nat}(B:1<=n/\n<=3)(K:y<14)(j:4<=k/\k<=6):gx (dF n y) [] (aH.fresh n k 101) kU ⟨8,hc⟩ λ_=>nE 12:=by
 obtain⟨h,hm⟩:=wa B;simp only[tQ,fP,iz,jd,beq_iff_eq]at h;obtain⟨u,w,A,g,s⟩:=h;simp only[FQ,fP,beq_iff_eq]at hm;have J:∀ (m:Nat) (x:aO),(aH.fresh n k 101).nodes[m]?=some x->x=⟨fmt 101 n,false⟩:=λm x e=>by have e:=cu e;exact(List.mem_replicate.1 e).2
 have f:∀ (i:Nat) (C:bB),(aH.fresh n k 101).aY[i]?=some C->ki n C/\C.batch=none/\hs C:=λi C e=>by
  have e:=cu e;obtain⟨q,I,rfl⟩:=dD.1 e;have o:∀ (k:Nat) (l:cL),(hN n q).aG[k]?=some l->l.pair.bj=[]/\l.pair.words=[]:=λk l a=>by have a:=cu a;unfold hN ku at a;simp only at a;obtain⟨z,ax,rfl⟩:=dD.1 a;exact⟨rfl,rfl⟩
  refine⟨⟨rfl,rfl,by simp[hN,ku],λk l a v e1 e _=>?_⟩,rfl,λk l a=>(o k l a).1⟩
  grind
 have r:(aH.fresh n k 101).aY[0]?=some (hN n 0):=by
  show((List.range k).map (hN n))[0]?=_
  grind
 have t:∀ m,Mem (dF n y) kU m ⟨fmt 101 n,false⟩:=λm=>by
  refine⟨⟨rfl,u,w,A,(g 0 (by omega)).1,λc _ b=>(g c b).1⟩,λp D=>?_,λl E l2 _ k j=>?_,λc _ b=>(g c b).2,(g 0 (by omega)).2,hm.1,λ_=>hm.2,λe=>by cases e⟩
  ·obtain⟨l,a,rfl⟩:=j7.1 D;obtain⟨E,l2⟩:=za a;show∀ k,k<8->_;intro k j;have:=s (l-96) (by omega) k j;rw[show l-96+96=l by omega]at this;exact this
  ·have l2:l<101:=l2;have:=s (l-96) (by omega) k j;rw[show l-96+96=l by omega]at this;exact this
 obtain⟨F,G,H⟩:=f 0 _ r;refine⟨cy.fresh (by omega) (by omega) (by omega),rfl,rfl,by grind[aH.fresh],⟨by show(aH.fresh n k 101).nodes.length=n;simp[aH.fresh],λm x e=>by grind⟩,?_,.inl rfl,⟨_,r,F,λe=>by grind,λ_=>⟨G,H⟩⟩,trivial,(λq d e=>by cases e),λ_=>⟨λ_ _=>rfl,λ_ _=>rfl,λ_ _ _ _=>rfl⟩,λc b=>(by cases b),λc b=>(by cases b),λ⟨p,_,e⟩=>by have:(0:Nat)=1:=e;omega,λ_ _=>rfl,λc C _ _ e=>f c C e⟩;have no:∀ {P:Prop},false=true->P:=λh=>by cases h
 exact⟨λm _ p _=>⟨by show 0<=2;omega,λ_=>by show(0:Nat)≠1;omega⟩,λm _ e=>no e,λm _ p _ e=>(by have:(0:Nat)=2:=e;omega),λm _ e=>no e,λp _ e=>(by have:(0:Nat)=2:=e;omega),λe=>no e,λm _ _ e=>no e⟩
theorem gx.join {E:Env}{F:aH}{A:bA}{g:gd}{gr:Nat->c8}(h:gx E [] F A g gr){rs:cV}(f:∀ c ∈ rs,1<=c/\c<4):gx E rs F A g λ_=>nE 12:=by
 have b:∀ {P:Prop},(12:Nat)<=9->P:=λh=>by omega
 refine⟨h.eA,h.lines,h.hI,h.sC,h.rep,h.law,?_,h.cz,h.s0,h.vC,h.yM,λc a=>?_,λc a=>⟨trivial,⟨λe=>by have:12<=7:=e.2;omega,λe=>by have:12=8:=e;omega⟩,(λq d e=>by cases e),dr _⟩,h.lk,(λ_=>h.op λc j=>by cases j),λc C k p l=>h.rest c C k (by simp) l⟩
 ·rcases h.vF with e | ⟨c,j,_⟩
  ·exact .inl e
  grind
 ·have:=f c a;have r:=h.sC;obtain⟨C,i⟩:∃ C,F.aY[c]?=some C:=⟨_,bW (by omega)⟩;obtain⟨r1,n,o⟩:=h.rest c C (by omega) (by simp) i;exact⟨C,i,r1,λe=>b e,λ_=>⟨n,o⟩⟩
theorem Fu {n:Nat}:∀ {ls:List cL} {j:Nat},(∀ (i:Nat) (l:cL),ls[i]?=some l->l.pair.node=((j+i:Nat):Int))->((((ls.map cL.pair).filter λp=>decide (0<p.bj.length)).map λp=>p.node.toNat)).Pairwise (·<·)/\∀ q ∈ (((ls.map cL.pair).filter λp=>decide (0<p.bj.length)).map λp=>p.node.toNat),j<=q
 | [],j,h=>by simp
 |l::ls,j,h=>by
  obtain⟨a,b⟩:=Fu (n:=n) (ls:=ls) (j:=j+1) λi l' c=>by
   have:=h (i+1) l' (by grind)
   grind
  grind[List.filter_cons_of_pos,List.pairwise_cons,List.filter_cons_of_neg]
theorem gx.die {E:Env}{rs:cV}{F:aH}{A:bA}{g:gd}{gr:Nat->c8}(h:gx E rs F A g gr):∃ dx,F.die ((0:Nat):Int)=(true,dx)/\fT dx F:=by
 obtain⟨C,b,q,_⟩:=h.cz;have a:=h.eA.ct.ok.a3 0 C b;have t:=dk b;refine⟨{F with b2:=F.b2++(C.aG.map cL.pair).filter (λp=>decide (0<p.bj.length)),aY:=F.aY.set 0 {C with alive:=false,aG:=[],batch:=none,waiting:=0} },?_,.inr ⟨rfl,rfl,λk s=>m3 λe=>s e.symm,λC' o=>?_,λp f=>?_,?_⟩⟩
 ·unfold aH.die;rw[ik,b];simp only;rw[aW (by rw[q.live];simp),g9]
 ·grind
 ·simp only[h.hI,qc]at f;obtain⟨d,u⟩:=vZ.1 f;obtain⟨l,c,rfl⟩:=dD.1 d;obtain⟨j,r⟩:=eP.1 c;have w:=(a.lane j l r).node
  grind
 ·simp only[h.hI,qc];exact((Fu (n:=0) (ls:=C.aG) (j:=0) λi l c=>by rw[(a.lane i l c).node];omega).1).imp λh=>by omega
def H8 (b:Bool)(l:Nat):aD:=if b=true then⟨l,512,1,0,0,0,0,0,0⟩else⟨l,256,0,0,0,0,0,0,0⟩
structure De (n y:Nat)(b:Bool)(nodes:List aO):Prop where
 len:nodes.length=n
 up:∀ (m:Nat) (x:aO),nodes[m]?=some x->x.down=false/\x.words.length=808
 eM:∀ (m:Nat) (x:aO),nodes[m]?=some x->∀ l,96<=l->l<101->x.eM l=H8 (b && (dy y).contains l) l
 same:∀ (m:Nat) (x:aO),nodes[m]?=some x->∀ c,c<6->x.get (24+c)=(if c=0 then 2 else 1)/\x.get (32+c)=if b=true/\c=0 then 1 else 0
theorem Ez:kP 256=512:=by decide
theorem FR (I:1<=n/\n<=3)(J:y<14){A:bA}{nodes:List aO}(g:jh (dF n y) A nodes)(o:e3 (dF n y) A)(G:jf (dF n y) A){b:Bool}(s:if b=true then oe (dF n y) A else r_ (dF n y) A):De n y b nodes:=by
 have aA:=H1 I J;have j:∀ {m:Nat} {x:aO},nodes[m]?=some x->m<n:=λ{m x} a=>by have:=dk a;rw[g.len]at this;exact this
 have w:∀ m,m<n->∀ p ∈ bL (dF n y),A.bT m (bx p)=if b=true then 2 else 0:=λm hm p f=>by
  cases b with
  |true=>
   have d:oe (dF n y) A:=s;show A.bT m (bx p)=2;by_cases e:m=0
   ·subst e;exact d.2.2 p f
   ·exact o.kA m (by omega) hm (o.ld d.2.1 m (by omega) hm) p f
  |false=>
   have d:r_ (dF n y) A:=s;show A.bT m (bx p)=0;by_cases e:m=0
   ·subst e;exact d.2.2 p f
   ·have F:=o.e7 m hm p f;have B:=F.2 (by omega);have C:A.bT m (bx p)≠2:=λE=>by
     have:=o.jJ m hm p f E 0 (by show 0<n;omega);rw[d.2.1 0 (by show 0<n;omega)]at this
     grind
    omega
 have t:∀ m,m<n->A.dL m=b:=λm hm=>by
  cases b with
  |true=>
   have d:oe (dF n y) A:=s;by_cases e:m=0
   ·subst e;exact d.2.1
   ·exact o.ld d.2.1 m (by omega) hm
  |false=>
   have d:r_ (dF n y) A:=s;cases i:A.dL m with
   |false=>rfl
   |true=>
    have:=o.nH m hm i 0 (by show 0<n;omega);rw[d.2.1 0 (by show 0<n;omega)]at this
    grind
 refine⟨g.len,λm x a=>⟨(g.mem m x a).aS.up,(g.mem m x a).aS.len⟩,λm x a l B C=>?_,λm x a c i=>⟨?_,?_⟩⟩
 ·have hm:=g.mem m x a;have u:=j a;have key:∀ k,k<8->x.get (l * 8+k)=if (b && (dy y).contains l)=true then ([512,1,0,0,0,0,0,0]:ba).getD k 0 else qs l k:=λk D=>by
   by_cases r:l ∈ dy y
   ·have f:dN l ∈ bL (dF n y):=j7.2 ⟨l,r,rfl⟩;have q:=hm.bT _ f;rw[w m u _ f]at q;have i:(dy y).contains l=true:=List.contains_iff_mem.2 r;rw[i];cases b with
    |true=>
     have q:∀ k,k<8->x.get (l*8+k)=(ie (dN l)).getD k 0:=q;rw[q k D,bm (by simp)];have:ie (dN l)=[512,1,0,0,0,0,0,0]:=by show kP 256::_=_;rw[Ez];rfl
     grind
    |false=>
     have q:∀ k,k<8->x.get (l*8+k)=qs l k:=q
     grind
   ·have i:¬ ((b && (dy y).contains l)=true):=λe=>by
     grind
    rw[aW i];exact hm.gI l B C (λp f e=>by
     obtain⟨l',H,rfl⟩:=j7.1 f;have e:l'=l:=e
     grind) k D
  have z:=key 0 (by omega);rw[m1]at z;unfold aO.eM H8;rw[z,key 1 (by omega),key 2 (by omega),key 3 (by omega),key 4 (by omega),key 5 (by omega),key 6 (by omega),key 7 (by omega)];split<;>rfl
 ·by_cases e:c=0
  ·subst e;have:=(g.mem m x a).aS.d0;rw[G m (j a)]at this
   grind
  ·rw[aW e];exact(g.mem m x a).aS.fk c (by omega) i
 ·by_cases e:c=0
  ·subst e;have:=(g.mem m x a).dL;rw[t m (j a)]at this;cases b with
   |true=>rw[bm ⟨rfl,rfl⟩];exact this
   |false=>rw[aW (by simp)];exact this
  ·rw[aW (λh=>e h.2)];exact(g.mem m x a).cU c (by omega) i
end
section
open e2
theorem NB {B':ba}(e:B.length=B'.length)(g:B.take (3+9*(B.getD 1 0).toNat)=B'.take (3+9*(B.getD 1 0).toNat))(lines:Int):hp B lines=hp B' lines:=by
 have a:∀ i,i<3+9*(B.getD 1 0).toNat->B.getD i 0=B'.getD i 0:=λi c=>by
  have b:(B.take (3+9*(B.getD 1 0).toNat))[i]?=B[i]?:=zp c
  grind
 have d:=a 0 (by omega);have b:=a 1 (by omega);have f:hx B=hx B':=by
  grind[hx,List.map_congr_left,nh]
 grind[jO,lI,hp]
def IC (y:Nat):Bool:=
 let P:=fe 1 ((dy y).map dN);let R:=hp (P++List.replicate (112-P.length) 0) 101;decide (P.length<=112) && (decide (P.length=3+9*(P.getD 1 0).toNat) && (R.1 == 0 && (R.2.1 == 1 && decide (R.2.2=(dy y).map dN))))
theorem Q4:(List.range 14).all IC=true:=by kernel_rfl
section
variable {n y:Nat}{A:bA}{ns:List aO}
theorem O' (j:y<14)(k:B.length=112)(d:B.take (fE (dF n y)).length=fE (dF n y)):hp B 101=(0,1,bL (dF n y)):=by
 have h:=iz.1 Q4 y (jd.2 j);simp only[IC,fP,jA,beq_iff_eq]at h;obtain⟨i,g,a,b,c⟩:=h;have e:fE (dF n y)=fe 1 ((dy y).map dN):=rfl;rw[e]at d;generalize fe 1 ((dy y).map dN)=P at i g a b c d;have f:B.getD 1 0=P.getD 1 0:=by
  grind
 have he:hp B 101=hp (P++List.replicate (112-P.length) 0) 101:=by
  grind[NB,List.take_left]
 rw[he];exact Prod.ext a (Prod.ext b c)
theorem DR {x:aO}(hm:Mem (dF n y) A m x):h9 x 0=(x.words.drop 48).take 120:=by have:=hm.aS.len;rfl
theorem Fv (d:1<=n/\n<=3)(e:y<14){x:aO}(hm:Mem (dF n y) A m x)(b:A.fi m=true):jP (h9 x 0) 101=(true,1,bL (dF n y)):=by
 have aA:=H1 d e;have hlen:x.words.length=808:=hm.aS.len;have c:=aA.k5;rw[DR hm];have f:(((x.words.drop 48).take 120).drop 8).length=112:=by grind
 have g:(((x.words.drop 48).take 120).drop 8).take (fE (dF n y)).length=fE (dF n y):=by
  apply jb;intro i;by_cases a:i<(fE (dF n y)).length
  ·have:=hm.fi b i a;rw[zp a,vU,zp (by omega),vU,bW (by omega),bW a];unfold aO.get at this
   grind
  grind
 grind[jP,O']
theorem S7:hQ (dF n y)=uC 1:=by kernel_rfl
theorem Sa (b:1<=n/\n<=3)(d:y<14){x:aO}(hm:Mem (dF n y) A m x)(a:A.fi m=true)(c:A.c2 m=true):ij (h9 x 0) 101=(true,1,bL (dF n y)):=by
 have hw:=Fv b d hm a;have hlen:x.words.length=808:=hm.aS.len;have e:(h9 x 0).getD 0 0=uC 1:=by
  rw[<-S7 (n:=n) (y:=y),DR hm];have:=hm.c2;rw[bm c]at this
  grind[aO.get,List.getElem?_take_of_lt]
 unfold ij
 grind
def vu (l s:Nat):aD:=match s with
 | 0=>⟨l,256,0,0,0,0,0,0,0⟩
 | 1=>⟨l,257,0,0,0,0,0,0,0⟩
 | _=>⟨l,512,1,0,0,0,0,0,0⟩
theorem Pa:ew 256 0=257:=by decide
theorem w2 {x:aO}(hm:Mem (dF n y) A m x)(c:l ∈ dy y):x.eM l=vu l (A.bT m l):=by
 have d:dN l ∈ bL (dF n y):=j7.2 ⟨l,c,rfl⟩;have a:=hm.bT _ d;have e:bx (dN l)=l:=g9 l;rw[e]at a;unfold aO.eM;generalize A.bT m l=s at a
 match s,a with
 | 0,a=>have a:∀ k,k<8->x.get (bx (dN l)*8+k)=qs (bx (dN l)) k:=a;rw[e]at a;have b:=a 0 (by omega);rw[m1]at b;rw[b,a 1 (by omega),a 2 (by omega),a 3 (by omega),a 4 (by omega),a 5 (by omega),a 6 (by omega),a 7 (by omega)];rfl
 | 1,a=>obtain⟨b,a⟩:x.get (bx (dN l)*8)=ew (dN l).Head 0/\∀ k,1<=k->k<8->x.get (bx (dN l)*8+k)=qs (bx (dN l)) k:=a;rw[e]at a b;rw[b,a 1 (by omega) (by omega),a 2 (by omega) (by omega),a 3 (by omega) (by omega),a 4 (by omega) (by omega),a 5 (by omega) (by omega),a 6 (by omega) (by omega),a 7 (by omega) (by omega)];show(⟨l,ew 256 0,0,0,0,0,0,0,0⟩:aD)=_;rw[Pa];rfl
 |k+2,a=>have a:∀ k,k<8->x.get (bx (dN l)*8+k)=(ie (dN l)).getD k 0:=a;rw[e]at a;have b:=a 0 (by omega);rw[m1]at b;rw[b,a 1 (by omega),a 2 (by omega),a 3 (by omega),a 4 (by omega),a 5 (by omega),a 6 (by omega),a 7 (by omega)];show(⟨l,kP 256,1,0,0,0,0,0,0⟩:aD)=_;rw[Ez];rfl
theorem GM (l s:Nat)(a:s<=2):kY (vu l s) (dN l)=decide (s=2):=by
 obtain rfl | rfl | rfl:s=0\/s=1\/s=2:=by omega
 all_goals rfl
theorem Ua (l s:Nat)(a:s<=2):kC (vu l s)=decide (s=1):=by
 obtain rfl | rfl | rfl:s=0\/s=1\/s=2:=by omega
 all_goals (unfold kC vu;simp only;decide)
theorem Vl (l s i:Nat)(b:s<=2)(a:s=1->i=0):vt 0 i (vu l s) (dN l)=true:=by
 obtain rfl | rfl | rfl:s=0\/s=1\/s=2:=by omega
 ·clear a;kernel_rfl
 ·rw[a rfl];clear a;kernel_rfl
 ·clear a;kernel_rfl
theorem xx (l:Nat)(x:aO):lK x (dN l)=x.eM l:=by
 unfold lK;show x.eM (l:Int).toNat=_
 grind
theorem Sb (J:1<=n/\n<=3)(K:y<14)(d:jh (dF n y) A ns)(o:e3 (dF n y) A)(D:(∃ p ∈ bL (dF n y),A.bT 0 (bx p)=1)->hT (dF n y) A):AX 0 101 1 (bL (dF n y)) ns:=by
 have lt:∀ {i:Nat} {x:aO},ns[i]?=some x->i<n:=λ{i x} a=>by have:=dk a;rw[d.len]at this;exact this
 have s:∀ {x:aO},x ∈ ns->∃ i,ns[i]?=some x:=λ{x} a=>eP.1 a
 have w:∀ {i l:Nat},i<n->l ∈ dy y->A.bT i l<=2/\(1<=i->A.bT i l≠1):=λ{i l} c b=>by
  have:=o.e7 i c _ (j7.2 ⟨l,b,rfl⟩);rw[show bx (dN l)=l from g9 l]at this
  grind
 have O:∀ {i:Nat} {x:aO},ns[i]?=some x->r3 0 x=if A.dL i=true then 1 else 0:=λ{i x} a=>(d.mem i x a).dL
 have F:∀ {i:Nat} {x:aO},ns[i]?=some x->0<hY (bL (dF n y)) x->∃ l,l ∈ dy y/\A.bT i l=2:=λ{i x} a h=>by
  obtain⟨q,g⟩:=List.exists_mem_of_length_pos h;obtain⟨j,f⟩:=vZ.1 g;obtain⟨l,b,rfl⟩:=j7.1 j;rw[xx,w2 (d.mem i x a) b,GM l _ (w (lt a) b).1]at f
  grind
 have L:∀ {i:Nat} {x:aO},ns[i]?=some x->1<=i->A.dL i=true->hY (bL (dF n y)) x=(bL (dF n y)).length:=λ{i x} a j N=>by unfold hY;rw[List.filter_eq_self.2 λq g=>?_];obtain⟨l,b,rfl⟩:=j7.1 g;have I:=o.kA i j (lt a) N _ g;rw[show bx (dN l)=l from g9 l]at I;rw[xx,w2 (d.mem i x a) b,GM l _ (w (lt a) b).1,I];rfl
 have cz:∀ {t:aO},ns[0]?=some t->0<hY (bL (dF n y)) t->A.dL 0=true:=λ{t} u h=>by obtain⟨l,b,f⟩:=F u h;refine o.k' _ (j7.2 ⟨l,b,rfl⟩) ?_;rw[show bx (dN l)=l from g9 l];exact f
 refine⟨λx a=>?_,λi x a q g=>?_,λ⟨x,a,h⟩ z ax=>?_,λ⟨x,a,h⟩ z ax=>?_,λx a=>?_,λi x t a u c h=>?_,λt u h=>?_⟩
 ·obtain⟨i,c⟩:=s a;exact(d.mem i x c).aS.up
 ·obtain ⟨l,b,rfl⟩:=j7.1 g;obtain ⟨B,G⟩:=w (lt a) b;rw [xx,w2 (d.mem i x a) b];exact Vl l _ i B λe=>by
   grind
 ·obtain⟨i,c⟩:=s a;obtain⟨q,g⟩:=List.exists_mem_of_length_pos h;obtain⟨j,f⟩:=vZ.1 g;obtain⟨l,b,rfl⟩:=j7.1 j;obtain⟨B,G⟩:=w (lt c) b;rw[xx,w2 (d.mem i x c) b,Ua l _ B]at f;have E:=qa f;have M:i=0:=Nat.eq_zero_of_not_pos λP=>G P E
  subst M;have C:=D ⟨dN l,j,by rw[show bx (dN l)=l from g9 l];exact E⟩;obtain⟨k,r⟩:=s ax;exact Fv J K (d.mem k z r) (C k (lt r))
 ·obtain⟨i,c⟩:=s a;obtain⟨l,b,f⟩:=F c h;have H:=o.jJ i (lt c) _ (j7.2 ⟨l,b,rfl⟩) (by rw[show bx (dN l)=l from g9 l];exact f);obtain⟨k,r⟩:=s ax;have C:=(o.l2 i (lt c) (H i (lt c))).1;exact Sa J K (d.mem k z r) (C k (lt r)) (H k (lt r))
 ·grind
 ·refine L a c ?_;rcases h with h | h
  ·exact o.ld (cz u h) i c (lt a)
  grind
 grind
end
end
end Go.Proofs.YtmkljjbioomepaaGreat
