import Derived.Test.YtmkljjbioomepaaGreata12
set_option linter.all false
set_option maxHeartbeats 4000000
set_option maxRecDepth 100000
namespace Go.Proofs.YtmkljjbioomepaaGreat
open Go.Proofs.Tryz Go.b8
variable {A:bB} {X:cF} {c:dC} {a3 i:Nat} {ls:List fF} {t:Tag} {w w':av} {aG:Nat->Tag}
section
abbrev Sm:TypeId:=89
def js.cells (x:js):aH:=[.int .i64 x.hB,.int .i64 x.bw,.int .i64 x.node]
def js.val (x:js):bx:=.agg x.cells.toArray
theorem akA (C:cT) (j:Nat) (l:eM) (p:fx) (sC:Option a_) (c_:j<C.aU.length) :
  ({ C with aU:=C.aU.set j ⟨p,l.cP⟩ }:cT).Jp j p l.cP sC=C.comes j l p sC:=by
 cases sC with
 |none=>rfl
 |some x=>simp [cT.Jp,cT.comes]
theorem afZ:∀ {l:eI} {x:Nat},x ∈ l->x<=l.sum
 |y::l,x,h=>by
  rw [qR];rcases iF.1 h with rfl | h
  ·omega
  ·have:=afZ h;omega
theorem c4.V7 (h:c4 A aG w a3 X) (J:ai w w'):c4 (λk=>A k\/(w.heap.size<=k/\k<w'.heap.size)) aG w' a3 X:=by
 have m:tZ (λ_=>False) A (λk=>A k\/(w.heap.size<=k/\k<w'.heap.size)) aG aG w w':=⟨J,id,h.iL,λk aK ab=>ab.elim id (λab=>by omega),λ_ _ _ _=>rfl,λk ab=>.inl (h.iL k ab)⟩;have aX:=J.size;refine ⟨m.vD,λk ab=>ab.elim (λab=>by have:=h.low k ab;omega) (λab=>ab.2),ai.an J h.dt,h.lu,h.nodes.new J,h.qE,λi x ao=>(h.node i x ao).eF m id id,ai.an J h.cls,h.i_,
  λi c ab=>(h.bw i c ab).eF m λ_ _=>id,h.km.new J,h.rv,λp ar=>⟨(gy.eF m (h.hB p ar).1 (h.hB p ar).2 id (by simp)).1,(h.hB p ar).2⟩,h.nodup⟩
theorem Rv (h:c4 A aG w a3 X) (b3:y' X.pure) (x:js):bK 37 [ptr a3,x.val] w λv w'=>
  v=.bool (X.pure.step x).1/\gQ A aG w a3 (X.pure.step x).2 w' λ_=>True:=by
 refine bO Tryz.func37 ?_;refine Eq.mpr (ayl a3 x.hB x.bw x.node w _) ?_;rintro b1 w1 bA br;obtain ⟨ph,a1⟩:=b4 bA br;clear br;have mc:=h.new a1;have ph:aF w1 b1 x.cells Sm:=ph;refine ⟨_,ph.cell (i:=0) rfl,bL (λaN=>?_) (λaN=>?_)⟩
 ·obtain ⟨i,aD⟩:∃ i:Nat,x.hB=i:=⟨x.hB.toNat,by omega⟩;have cq:X.pure.step x=X.pure.pz i:=by unfold a9.step;rw [if_pos (by omega),aD];rfl
  refine ⟨_,ph.cell (i:=0) rfl,?_⟩;rw [aD];refine aR (ahg mc b3 i) ?_;rintro v aS ⟨rfl,ar⟩;refine ⟨_,rfl,?_⟩;rw [cq];exact ⟨rfl,gQ.trans (h.refl a1) ar⟩
 refine ⟨_,ph.cell (i:=0) rfl,bL (λaf=>?_) (λaf=>?_)⟩
 ·have cq:X.pure.step x=(false,X.pure):=by unfold a9.step;rw [if_neg (by omega),if_pos af]
  rw [cq];exact ⟨rfl,gQ.same h a1 trivial⟩
 have sq:X.pure.step x=match X.pure.fE x.bw with
  |none=>(false,X.pure)
  |some C=>if x.node<0 then (false,X.pure) else match C.aU[x.node.toNat]?,X.pure.nodes[x.node.toNat]? with
   |some l,some n=>if l.pair.bN.length=0 then (false,X.pure) else
    (true,{ X.pure with nodes:=X.pure.nodes.set x.node.toNat (l.pair.step n).2.1,bl:=X.pure.bl.set x.bw.toNat (C.comes x.node.toNat l (l.pair.step n).1 (l.pair.step n).2.2) })
   | _,_=>(false,X.pure):=by
  unfold a9.step;rw [if_neg (by omega),if_neg af];rfl
 refine ⟨_,ph.cell (i:=1) rfl,?_⟩;rcases X.Gp x.bw with ⟨ea,n9⟩ | ⟨i,c,d9,ab,n9⟩
 ·refine aR (Li mc n9) ?_;rintro v aY ⟨rfl,rfl⟩;rw [ea] at sq;refine ⟨_,rfl,?_⟩;intro bZ eE;refine ⟨λ_=>True,trivial,?_⟩
  rw [sq];exact ⟨rfl,gQ.same h (a1.new (by rw [eE];exact eh _)) trivial⟩
 have wq:=dy ab;rw [d9];refine aR (Hj mc ab) ?_;rintro v aY ⟨rfl,rfl⟩;rw [n9] at sq;refine ⟨_,rfl,?_⟩;intro bZ eE;have bz:ai aY bZ:=by rw [eE];exact eh _
 clear eE;have tf:=mc.new bz;have iO:=ai.an bz ph;refine ⟨λu=>ai bZ u,ay.refl _ _,?_⟩;refine ⟨_,λu hu=>(ai.an hu iO).cell (i:=2) rfl,bL (λal=>?_) (λal=>?_)⟩
 ·simp only [if_pos al] at sq;rw [sq];exact ⟨rfl,gQ.same h (a1.new bz) trivial⟩
 simp only [if_neg al] at sq;obtain ⟨j,c_⟩:∃ j:Nat,x.node=j:=⟨x.node.toNat,by omega⟩;have j1:x.node.toNat=j:=by omega
 rw [j1] at sq;have gu:=b3.bw i c.pure (by simp [cF.pure,ab]);refine ⟨_,λu hu=>(ai.an hu iO).cell (i:=2) rfl,?_⟩;refine ⟨_,_,_,λu hu=>(tf.new hu).n_ (k:=2) ab rfl,bL (λaL=>?_) (λaL=>?_)⟩
 ·have e:c.pure.aU[j]?=none:=ug (by
   have:c.pure.aU.length=c.aU.length:=by simp [dC.pure]
   have apK:x.node>=(c.aU.length:Int):=aL;omega)
  simp only [e] at sq;rw [sq];exact ⟨rfl,gQ.same h (a1.new bz) trivial⟩
 have apK:¬ x.node>=(c.aU.length:Int):=aL;have GS:j<c.aU.length:=by omega
 obtain ⟨l,au⟩:∃ l,c.aU[j]?=some l:=⟨c.aU[j],by simp [GS]⟩;have arJ:j<X.nodes.length:=by
  have c9:=gu.aU;have bY:c.pure.aU.length=c.aU.length:=by simp [dC.pure]
  have bg:X.pure.nodes.length=X.nodes.length:=by simp [cF.pure]
  split at c9<;>omega
 obtain ⟨y,az⟩:∃ y,X.nodes[j]?=some y:=⟨X.nodes[j],by simp [arJ]⟩;have SL:c.pure.aU[j]?=some l.pure:=by simp [dC.pure,au]
 have apy:X.pure.nodes[j]?=some y.n:=by simp [cF.pure,az]
 simp only [SL,apy] at sq;have yu:=gu.lane j l.pure SL;refine ⟨_,_,_,λu hu=>(tf.new hu).n_ (k:=2) ab rfl,_,λu hu=>(ai.an hu iO).cell (i:=2) rfl,?_⟩;obtain ⟨g,pQ,qw,⟨abe,J3⟩,od,GQ⟩:=bu.row (tf.bw i c ab).own (yK c.aU) (by omega) (i0 au);have J5:aG g=.aU i:=(tf.bw i c ab).tag g ⟨0,pQ⟩;show cb c.la c.aU.length x.node 2 _;rw [pQ,c_];refine hc (by omega) (by omega) ?_;rw [j_];refine ⟨some ⟨l.pb,0,none⟩,λu hu=>qn hu (GQ 0 _ rfl) id,?_⟩;refine aR (Qs ((tf.bw i c ab).lane j l au).pair) ?_;rintro v cK ⟨rfl,rfl⟩;refine ⟨_,rfl,ay.refl _ _,gX (λe8=>?_) (λe8=>?_)⟩
 ·have:l.pure.pair.bN.length=0:=by show l.p.bN.length=0;omega
  rw [if_pos this] at sq;rw [sq];exact ⟨rfl,gQ.same h (a1.new bz) trivial⟩
 have uV:¬ l.pure.pair.bN.length=0:=by show ¬ l.p.bN.length=0;omega
 rw [if_neg uV] at sq;intro dh kY;have cg:ai cK dh:=by rw [kY];exact eh _
 clear kY;have Jy:=tf.new cg;have me:=ai.an cg iO;refine ⟨λu=>ai dh u,ay.refl _ _,_,_,_,λu hu=>(Jy.new hu).n_ (k:=2) ab rfl,_,λu hu=>(ai.an hu me).cell (i:=2) rfl,?_⟩;show cb c.la c.aU.length x.node 2 _;rw [pQ,c_];refine hc (by omega) (by omega) ?_;rw [j_];intro cR kj;have dg:ai dh cR:=by rw [kj];exact eh _
 clear kj;have qq:=Jy.new dg;have jt:=ai.an dg me;have Ec:ai cK cR:=cg.new dg;have asa:ai w cR:=(a1.new bz).new Ec;have aqq:aG b1=.dR:=h.fresh (by omega);have aqV:=qq.bw i c ab;have acE:=aqV.lane j l au;have aEG:=qq.node j y az;refine ⟨λu=>ay (λk=>nY i j j (aG k)) cR u,ay.refl _ _,some ⟨l.pb,0,none⟩,λu hu=>qn hu (qn Ec (GQ 0 _ rfl) id) (by show ¬ nY i j j (aG g);rw [J5];simp [nY]),?_⟩;refine ⟨_,_,_,λu hu=>(hu.an qq.dt (by rw [qq.lu];simp [nY])).cell (i:=1) rfl,_,λu hu=>(hu.an jt (by rw [aqq];simp [nY])).cell (i:=2) rfl,?_⟩;refine HZ (v:=ptr y.b) (i:=j) qq.nodes (by simp [az]) c_ λaC7 aqJ aqk=>⟨some ⟨y.b,0,none⟩,λu hu=>qn hu aqJ ?_,?_⟩
 ·obtain ⟨bI,uL,rfl⟩:=aqk;show ¬ nY i j j (aG bI);rw [qq.qE bI ⟨0,uL⟩];simp [nY]
 have adI:c.waiting<=1024:=by have hj:=gu.batch;have e:c.pure.waiting=c.waiting:=rfl;omega
 have G6:l.cP.length=l.p.bN.length:=yu.cP;have gw:∀ sC:Option a_,sC.isSome=true->∃ fD hV dA,l.cP=hV::dA/\hV<c.raw.length/\c.fD=some fD/\0<c.waiting:=by
  intro sC _;cases uW:l.cP with
  |nil=>rw [uW] at G6;exact absurd G6.symm (by show ¬ l.p.bN.length=0;omega)
  |cons hV dA=>
   have oe:=yu.low hV (by show hV ∈ l.cP;rw [uW];simp);have fc:=h.bw i c ab;cases hI:c.fD with
   |none=>simp [dC.pure,hI] at oe
   |some fD=>
    simp [dC.pure,hI] at oe;refine ⟨fD,hV,dA,rfl,by rw [fc.ds.1];exact oe,rfl,?_⟩;have hj:=gu.waiting;have e:c.pure.waiting=c.waiting:=rfl;have h4:l.p.bN.length<=l1 c.pure.aU:=by unfold l1;exact afZ (eQ.2 ⟨l.pure,dn SL,rfl⟩)
    have zP:l.p.bN.length≠0:=uV;omega
 have tx:∀ (uj:bB) sT r e6 (rb:c4 uj aG sT a3 X),QK uj l.pb y.b y.a4 l.p y.n sT r e6->∃ iB fm d p',r=.tuple #[d.val,.bool (l.p.pure.step y.n).2.2.isSome]/\Next uj iB aG fm sT e6/\
   c4 iB fm e6 a3 { X with nodes:=X.nodes.set j { y with n:=(l.p.pure.step y.n).2.1 },bl:=X.bl.set i { c with aU:=c.aU.set j { l with p:=p' } } }/\p'.pure=(l.p.pure.step y.n).1/\
   ay (λk=>nY i j j (aG k)) sT e6/\(∀ x,(l.p.pure.step y.n).2.2=some x->tT iB e6 d x):=by
  intro uj sT r e6 yg gl;have kF:=(yg.bw i c ab).lane j l au;have lZ:=yg.node j y az;obtain ⟨χ',d,p',rfl,hA,Ul,ek,TP,j2,z7,qy,S9,GH⟩:=Xh kF.pair kF.tag (by simp) (λk ab=>yg.qB ab) yg.iL lZ.qM gl;obtain ⟨ba,k9⟩:=yg.afC ab au az ek TP j2 z7 Ul S9 qy;exact ⟨_,_,d,p',rfl,ba,k9,hA,ek,GH⟩
 have ij:∀ (uj:bB) sT,c4 uj aG sT a3 X->bK 70 [.pointer (some ⟨l.pb,0,none⟩),.pointer (some ⟨y.b,0,none⟩)] sT (QK uj l.pb y.b y.a4 l.p y.n sT):=by intro uj sT yg;have kF:=(yg.bw i c ab).lane j l au;have lZ:=yg.node j y az;exact Ze kF.pair lZ.node (yg.iL _ (by rw [lZ.qM];simp)) (yg.iL _ (by rw [lZ.tag];simp)) (λak=>by have:=kF.tag _ (.inr (.inr ak));rw [lZ.qM] at this;cases this) yu.nr
 have q_:∀ hZ aP iB fm d p' sT,ai cR sT->Next A iB aG fm sT hZ->c4 iB fm hZ a3 { X with nodes:=X.nodes.set j { y with n:=(l.p.pure.step y.n).2.1 },bl:=X.bl.set i { c with aU:=c.aU.set j { l with p:=p' } } }->p'.pure=(l.p.pure.step y.n).1->
   aF hZ aP (cL.cells d) o9->(∀ x,(l.p.pure.step y.n).2.2=some x->tT iB hZ d x)->∀ w' A' χ' eR,Next iB A' fm χ' hZ w'->c4 A' χ' w' a3 eR->
   eR.pure=(cF.pure { X with nodes:=X.nodes.set j { y with n:=(l.p.pure.step y.n).2.1 },bl:=X.bl.set i { c with aU:=c.aU.set j { l with p:=p' } } }).jy i ((dC.pure { c with aU:=c.aU.set j { l with p:=p' } }).Jp j p'.pure l.cP (l.p.pure.step y.n).2.2)->
   (Value.bool true=.bool (X.pure.step x).1/\gQ A aG w a3 (X.pure.step x).2 w' λ_=>True):=by
  intro hZ aP iB fm d p' sT rb ba cM hA BI aC w' A' χ' eR EN qp JF;rw [sq];refine ⟨rfl,A',χ',eR,((h.refl (asa.new rb)).trans ba).trans EN,qp,?_,trivial⟩;rw [JF,cF.ayv,d9];have bY:(dC.pure { c with aU:=c.aU.set j { l with p:=p' } })={ c.pure with aU:=c.pure.aU.set j ⟨p'.pure,l.pure.cP⟩ }:=by simp [dC.pure,oz,fF.pure]
  have bg:l.cP=l.pure.cP:=rfl;rw [bY,bg,akA _ _ _ _ _ (by simpa [dC.pure] using GS),hA];simp [a9.jy];exact ⟨rfl,rfl⟩
 have abW:∀ p':gh,(X.bl.set i { c with aU:=c.aU.set j { l with p:=p' } })[i]?=some { c with aU:=c.aU.set j { l with p:=p' } }:=λp'=>by simp [wq]
 have acD:∀ p':gh,(c.aU.set j { l with p:=p' })[j]?=some { l with p:=p' }:=λp'=>by simp [GS]
 refine ⟨?_,?_⟩
 ·refine aR (ij A cR qq) ?_;intro r e6 gl;obtain ⟨iB,fm,d,p',rfl,ba,Oh,hA,fe,aq0⟩:=tx A cR r e6 qq gl;refine ⟨_,_,_,_,_,rfl,fe,?_⟩;rintro aP hD cv uZ;obtain ⟨kI,gJ⟩:=b4 cv uZ;refine ⟨fe.new gJ,kA (vs:=d.cells) kI (by simp [cL.cells]) (cL.single d),?_⟩;intro hZ yH;obtain ⟨tC,lW⟩:=Av (vs:=d.cells) kI (by simp [cL.cells]) gJ (by omega) yH;clear uZ yH;have abp:=Oh.new lW;have abZ:∀ x,(l.p.pure.step y.n).2.2=some x->tT iB hZ d x:=λx ao=>(aq0 x ao).aO (ay.db lW) λ_ _ h=>h
  exact XL (R:=λv w'=>v=.bool (X.pure.step x).1/\gQ A aG w a3 (X.pure.step x).2 w' λ_=>True) abp (abW p') (acD p') pQ tC (l.p.pure.step y.n).2.2 abZ (gw _) (by show l.cP.length<=1024;rw [G6];exact acE.pair.len) adI
   (q_ hZ aP iB fm d p' cR (ay.refl _ _) (ba.new lW) abp hA tC abZ)
 ·rintro bT LG ej adF;obtain ⟨Ak,uR⟩:=b4 ej adF;clear adF;refine ⟨ay.db uR,?_⟩;refine aR (ij _ LG (qq.V7 uR)) ?_;intro r w7 gl;obtain ⟨iB,fm,d,p',rfl,ba,apT,hA,D7,TF⟩:=tx _ LG r w7 (qq.V7 uR) gl;have Th:aG bT=.dR:=qq.fresh (by omega);have Pu:=D7.an Ak (by rw [Th];simp [nY]);refine ⟨_,_,_,_,_,rfl,(ay.db uR).trans D7 (λk _ h=>h),kA (vs:=d.cells) Pu (by simp [cL.cells]) (cL.single d),?_⟩;intro HY U5;have Pv:aF HY bT d.cells o9:=by have hw:HY=dO w7 ⟨bT,0,none⟩ 0 d.cells:=U5;rw [hw];have:=Pu.dO (o:=0) (i:=0) (vs:=d.cells);rw [Cf (by simp [cL.cells])] at this;exact this
  have T0:ay (λk=>k=bT) w7 HY:=by rw [U5];exact nI _ _ _ _ _
  clear U5;have zW:bT<LG.heap.size:=Ak.lt;have adl:=uR.size;have abk:iB bT:=(ba.iff bT).2 (.inr ⟨zW,.inr ⟨by omega,zW⟩,Th⟩);have auc:fm bT=.dR:=by
   by_cases ab:fm bT=.dR
   ·exact ab
   ·exact absurd Th (ba.grow bT zW ab)
  have apU:=apT.other T0 (λk J=>by rw [J];exact ⟨abk,auc⟩);have B7:∀ k,k0 A aG fm cR k->iB k:=by
   intro k J;refine (ba.iff k).2 ?_;rcases J with J | J
   ·exact .inl J
   ·exact .inr ⟨by omega,.inl J.2.1,J.2.2⟩
  have abq:=apU.wP B7 (λk ab=>.inl ab);have hS:Next A (k0 A aG fm cR) aG fm cR HY:=by refine ⟨((ay.db uR).trans ba.aO λ_ _ h=>h).trans T0 λk aK e=>by omega,λk aK ab=>ba.grow k (by omega) ab,λ_=>Iff.rfl⟩
  have ab0:∀ x,(l.p.pure.step y.n).2.2=some x->tT (k0 A aG fm cR) HY d x:=λx ao=>(TF x ao).aO (T0.mono λk _ e=>by rw [e];exact abk) λk _ ab=>B7 k ab
  exact XL (R:=λv w'=>v=.bool (X.pure.step x).1/\gQ A aG w a3 (X.pure.step x).2 w' λ_=>True) abq (abW p') (acD p') pQ Pv (l.p.pure.step y.n).2.2 ab0 (gw _) (by show l.cP.length<=1024;rw [G6];exact acE.pair.len) adI
   (q_ HY bT _ fm d p' cR (ay.refl _ _) hS abq hA Pv ab0)
end
section
theorem Ym {α:Type} {l:List α} {k:Nat} {x:α} (h:l[k]?=some x):l.drop k=x::l.drop (k+1):=by obtain ⟨af,al⟩:=uh.1 h;rw [A2 af,al]
def AI (l:List js):List aH:=l.map js.cells
theorem W8 (l:List js):∀ r ∈ AI l,r.length=3:=by intro r aA;simp only [AI,eQ] at aA;obtain ⟨l,_,rfl⟩:=aA;rfl
theorem W9 {l:List js} {x:js} (h:l[i]?=some x):(AI l)[i]?=some x.cells:=by simp [AI,h]
structure s0 (w u:av) (a:ax) (cap:Nat) (out:List js):Prop where
 new:ai w u
 own:bu u Sm 3 a out.length cap (AI out).flatten
 fresh:∀ k,a7 a k->w.heap.size<=k
theorem s0.step {u b_:av} {a:ax} {cap:Nat} {out:List js} (h:s0 w u a cap out) (aj:ai u b_):s0 w b_ a cap out:=⟨h.new.new aj,h.own.new aj,h.fresh⟩
theorem s0.append {w u ct:av} {a:ax} {cap b:Nat} {out:List js} (h:s0 w u a cap out) (x:js) (ak:b=u.heap.size) (hw:ct=u.alloc (.cells x.cells.toArray 89)) (au:out.length<=1000000000) :
  ∃ cB bU cS,(Builtin.append_ #[85,85] 85 #[.slice a out.length cap,.slice (some ⟨b,0,none⟩) 1 1]).run prog ct=.ok (.slice cB (out++[x]).length bU) cS/\s0 w cS cB bU (out++[x]):=by
 obtain ⟨aE,aj⟩:=b4 ak hw;have af:=h.step aj;obtain ⟨wX,aD,pv,cr,gm⟩:=j5 (T:=89) (z:=.agg #[.int .i64 0,.int .i64 0,.int .i64 0]) (n:=3) (m:=24) (by kernel_rfl);have cV:bu ct Sm wX.size a out.length cap (AI out).flatten:=by rw [cr];exact af.own
 obtain ⟨ap,fU,cR,fV,nP,eD,fC⟩:=cV.append (P:=prog) (t:=85) (ty:=85) Tryz.underlying85 aD pv (by rw [cr];rfl) (by omega)
  (s:=some ⟨b,0,none⟩) (m:=1) (c:=1) (news:=x.cells) (by rw [cr];rfl) (jk aE (by simp [js.cells])) (by simp [js.cells,single]) (by omega) (by rw [gm];omega)
 rw [cr] at nP;have aJ:(AI (out++[x])).flatten=(AI out).flatten++x.cells:=by simp [AI]
 refine ⟨ap,fU,cR,by simpa using fV,af.new.trans eD λk aK J=>?_,?_,λk J=>?_⟩
 ·have:=h.fresh k J;omega
 ·rw [aJ];simpa using nP
 ·rcases fC with e | e
  ·exact h.fresh k (e▸J)
  ·obtain ⟨o,aq⟩:=J;rw [e] at aq;simp at aq;have:=h.new.size;have:=aj.size;omega
theorem s0.nil (w:av):s0 w w none 0 []:=⟨ay.refl _ _,bu.nil _ _ _,λk ⟨o,aq⟩=>by cases aq⟩
theorem afw (i:Nat):∀ (j:Nat) (ls:List eM),(s_ i j ls).length<=ls.length
 | _,[]=>by simp [s_]
 |j,l::ls=>by have:=afw i (j+1) ls;simp only [s_,gp,l8];split<;>simp<;>omega
theorem Vv {n:Nat}:∀ (i:Nat) (cs:List cT),(∀ c ∈ cs,c.aU.length<=n)->(q1 i cs).length<=cs.length * n
 | _,[],_=>by simp [q1]
 |i,c::cs,h=>by
  have af:=Vv (i+1) cs λc ab=>h c (jz _ ab)
  have al:=afw i 0 c.aU;have aL:=h c (iA ..);simp only [q1,gp,l8,Fx,Nat.one_mul];omega
theorem Vw:∀ (i:Nat) (dA:List fx),(vN i dA).length=dA.length
 | _,[]=>rfl
 |i,p::dA=>by simp [vN,Vw (i+1) dA]
theorem WB (h:c4 A aG w a3 X) (b3:y' X.pure) (v7:X.cN.length<=100000000):bK 36 [ptr a3] w λv w'=>
  ∃ a cap,v=.slice a X.pure.gz.length cap/\s0 w w' a cap X.pure.gz:=by
 refine bO Tryz.func36 ?_;rw [ptr,axl];have OP:∀ c ∈ X.pure.bl,c.aU.length<=5:=by intro c ab;obtain ⟨i,aD⟩:=hn.1 ab;have af:=(b3.bw i c aD).aU;have al:=b3.nodes;split at af<;>omega
 have c7:X.pure.bl.length=X.bl.length:=by simp [cF.pure]
 have aDJ:=Vv 0 X.pure.bl OP;have aqK:=b3.bl;have dH:∀ (i:Nat) (c:dC),X.bl[i]?=some c->X.pure.bl[i]?=some c.pure:=λi c ab=>by simp [cF.pure,ab]
 refine ⟨_,_,_,h.dt.cell rfl,?_⟩;refine e2 mix (λm env u=>∃ (i:Nat) (aT:aH) (a:ax) (cap:Nat) (out:List js),i<=X.bl.length/\m=X.bl.length - i/\env=NX ⟨a3,0,none⟩ a out.length cap (some ⟨X.bo,0,none⟩) X.bl.length X.bl.length X.bl.length i aT/\
   s0 w u a cap out/\out++q1 i (X.pure.bl.drop i)=q1 0 X.pure.bl) X.bl.length ⟨0,_,none,0,[],by omega,by omega,rfl,s0.nil w,rfl⟩ ?_
 rintro m env u ⟨i,aT,a,cap,out,aD,rfl,rfl,uI,rf⟩;rw [avk];refine bL (λaK=>?_) (λaK=>?_)
 ·have g2:i<X.bl.length:=by omega
  obtain ⟨c,ab⟩:∃ c,X.bl[i]?=some c:=⟨X.bl[i],by simp [g2]⟩;have cM:=h.new uI.new;refine hc (by omega) (by omega) ?_;rw [j_];have Ts:df u ⟨X.bo,0+i * 7,none⟩ 0 c.cells:=td λk v aw=>by have:=cM.n_ ab aw;simpa using this
  refine ⟨_,_,_,_,_,_,_,_,_,_,_,Ts,?_⟩;rintro b1 w1 bA br;obtain ⟨aE,a1⟩:=b4 bA br;refine ⟨kA (vs:=c.cells) aE (by simp [dC.cells]) (by simp [dC.cells,single]),?_⟩;intro aS cG;obtain ⟨bP,a5⟩:=Av (vs:=c.cells) aE (by simp [dC.cells]) a1 (by omega) cG;clear br cG aE a1;refine ⟨_,_,_,bP.cell (i:=2) rfl,?_⟩;have aq5:X.pure.bl.drop i=c.pure::X.pure.bl.drop (i+1):=by rw [Qt (by omega)];congr 1;have:=dH i c ab;rw [cp (by omega)] at this;simpa using this
  rw [aq5] at rf;have gw:c.pure.aU.length=c.aU.length:=by simp [dC.pure]
  have OO:=OP c.pure (dn (dH i c ab));refine e2 mix (λm env z=>∃ (j:Nat) (ad5:aH) (cB:ax) (bU:Nat) (Cs:List js),j<=c.aU.length/\m=c.aU.length - j/\env=Jl ⟨a3,0,none⟩ cB Cs.length bU i (some ⟨X.bo,0,none⟩) X.bl.length X.bl.length X.bl.length i c.la c.aU.length c.lc c.aU.length j ad5/\
   s0 w z cB bU Cs/\Cs++s_ i j (c.pure.aU.drop j)++q1 (i+1) (X.pure.bl.drop (i+1))=q1 0 X.pure.bl) c.aU.length ⟨0,_,a,cap,out,by omega,by omega,rfl,uI.step a5,by rw [<-rf];simp [q1]⟩ ?_
  rintro m env z ⟨j,ad5,cB,bU,Cs,c_,rfl,rfl,Tu,KE⟩;rw [avl];have qp:=h.new Tu.new;have aDX:Cs.length<=30:=by have:=congrArg List.length KE;simp only [gp] at this;omega
  refine bL (λOQ=>?_) (λOQ=>?_)
  ·have GS:j<c.aU.length:=by omega
   obtain ⟨l,au⟩:∃ l,c.aU[j]?=some l:=⟨c.aU[j],by simp [GS]⟩;obtain ⟨g,pQ,_,_,od,_⟩:=bu.row (qp.bw i c ab).own (yK c.aU) (by omega) (i0 au);rw [pQ];refine hc (by omega) (by omega) ?_;rw [j_];refine ⟨_,_,_,_,od,?_⟩;rintro bT aY ej dY;obtain ⟨cx,bf⟩:=b4 ej dY;refine ⟨kA (vs:=l.cells) cx (by simp [fF.cells]) (by simp [fF.cells,single]),?_⟩;intro bZ eE;obtain ⟨dk,bz⟩:=Av (vs:=l.cells) cx (by simp [fF.cells]) bf (by omega) eE;clear dY eE cx bf;refine ⟨_,dk.cell (i:=0) rfl,?_⟩;have kF:=((qp.new bz).bw i c ab).lane j l au;refine aR (Qs kF.pair) ?_;rintro v cK ⟨rfl,rfl⟩;have j0:c.pure.aU.drop j=l.pure::c.pure.aU.drop (j+1):=by
    rw [Qt (by omega)];congr 1;have:c.pure.aU[j]?=some l.pure:=by simp [dC.pure,au]
    rw [cp (by omega)] at this;simpa using this
   rw [j0] at KE;have abV:=Tu.step bz;rw [<-pQ];refine ⟨_,rfl,bL (λar=>?_) (λar=>?_)⟩
   ·have hA:0<l.pure.pair.bN.length:=by show 0<l.p.bN.length;omega
    rintro fJ dh me kY;obtain ⟨ap,fU,cR,fV,Tw⟩:=abV.append ⟨-1,i,j⟩ me kY (by omega);refine ⟨ap,_,fU,cR,fV,?_⟩;rw [show IntKind.i64.wrap ((j:Int)+1)=((j+1:Nat):Int) by rw [cn (by omega) (by omega)];rfl];refine ⟨c.aU.length - (j+1),by omega,j+1,_,ap,fU,Cs++[⟨-1,i,j⟩],by omega,rfl,rfl,Tw,?_⟩;rw [<-KE];simp [s_,hA]
   ·have hA:¬ 0<l.pure.pair.bN.length:=by show ¬ 0<l.p.bN.length;omega
    rw [show IntKind.i64.wrap ((j:Int)+1)=((j+1:Nat):Int) by rw [cn (by omega) (by omega)];rfl];refine ⟨c.aU.length - (j+1),by omega,j+1,_,cB,bU,Cs,by omega,rfl,rfl,abV,?_⟩;rw [<-KE];simp [s_,hA]
  ·have J':j=c.aU.length:=by omega
   rw [avB];rw [show IntKind.i64.wrap ((i:Int)+1)=((i+1:Nat):Int) by rw [cn (by omega) (by omega)];rfl];refine ⟨X.bl.length - (i+1),by omega,i+1,_,cB,bU,Cs,by omega,rfl,rfl,Tu,?_⟩;rw [<-KE,J',<-gw,Fy];simp [s_]
 ·have uM:i=X.bl.length:=by omega
  rw [uM,<-c7,Fy] at rf;have ass:out=q1 0 X.pure.bl:=by simpa [q1] using rf
  rw [avA];have cM:=h.new uI.new;refine ⟨_,_,_,cM.dt.cell (i:=3) rfl,?_⟩;have O2:X.pure.cN.length=X.cN.length:=by simp [cF.pure]
  refine e2 mix (λm env z=>∃ (i:Nat) (aT:aH) (a:ax) (cap:Nat) (out:List js),i<=X.cN.length/\m=X.cN.length - i/\env=NY a out.length cap X.fZ X.cN.length X.lC X.cN.length i aT/\
   s0 w z a cap out/\out++vN i (X.pure.cN.drop i)=X.pure.gz) X.cN.length ⟨0,_,a,cap,out,by omega,by omega,rfl,uI,by rw [ass];rfl⟩ ?_
  rintro m env z ⟨k,aEI,eA,ao4,aeJ,J,rfl,rfl,Tv,O4⟩;rw [avm];have k9:=h.new Tv.new;have aDY:aeJ.length<=100000030:=by have:=congrArg List.length O4;simp only [gp,a9.gz,Vw] at this;omega
  refine bL (λar4=>?_) (λar4=>?_)
  ·have nL:k<X.cN.length:=by omega
   obtain ⟨b,p,aq⟩:∃ b p,X.cN[k]?=some (b,p):=⟨X.cN[k].1,X.cN[k].2,by simp [nL]⟩;have Uw:=(k9.hB _ (dn aq)).1;refine HZ (v:=ptr b) (i:=k) k9.km (by simp [aq]) rfl λch jl _=>⟨some ⟨b,0,none⟩,jl,?_⟩
   refine aR (aim Uw) ?_;rintro v cK ⟨rfl,rfl⟩;refine ⟨_,rfl,?_⟩;refine aR (YY Uw) ?_;rintro v dh ⟨rfl,rfl⟩;refine ⟨_,rfl,?_⟩;rintro fJ dh me kY;obtain ⟨ap,fU,cR,fV,Tw⟩:=Tv.append ⟨k,p.bw,p.node⟩ me kY (by omega);refine ⟨ap,_,fU,cR,fV,?_⟩;rw [show IntKind.i64.wrap ((k:Int)+1)=((k+1:Nat):Int) by rw [cn (by omega) (by omega)];rfl];refine ⟨X.cN.length - (k+1),by omega,k+1,_,ap,fU,_,by omega,rfl,rfl,Tw,?_⟩;have j0:X.pure.cN.drop k=p.pure::X.pure.cN.drop (k+1):=Ym (by simp [cF.pure,aq]);rw [<-O4,j0];rw [vN,ue];rfl
  ·have Kj:k=X.cN.length:=by omega
   rw [Kj,<-O2,Fy] at O4;have:aeJ=X.pure.gz:=by simpa [vN] using O4
   subst this;rw [avC];exact ⟨eA,ao4,rfl,Tv⟩
end
section
def n1 (ls:List fF):List (Nat×gh):=(ls.filter λl=>decide (0<l.p.bN.length)).map λl=>(l.pb,l.p)
theorem Yn (l:fF) (ls:List fF):n1 (l::ls)=if 0<l.p.bN.length then (l.pb,l.p)::n1 ls else n1 ls:=by
 unfold n1;rw [List.filter_cons];by_cases h:0<l.p.bN.length
 ·simp [h]
 ·simp [h]
theorem akB (ls:List fF):(n1 ls).map (λp=>p.2.pure)=((ls.map fF.pure).map eM.pair).filter λp=>decide (0<p.bN.length):=by
 induction ls with
 |nil=>rfl
 |cons l ls c5=>
  rw [Yn,kQ,kQ,List.filter_cons];have:l.pure.pair.bN=l.p.bN:=rfl;rw [this,<-c5];by_cases h:0<l.p.bN.length
  ·simp [h];rfl
  ·simp [h]
theorem Zg {x:Nat×gh} (h:x ∈ n1 ls):∃ (j:Nat) (l:fF),ls[j]?=some l/\x=(l.pb,l.p)/\0<l.p.bN.length:=by simp only [n1,eQ,Ik,decide_eq_true_eq] at h;obtain ⟨l,⟨af,al⟩,aL⟩:=h;obtain ⟨j,c_⟩:=hn.1 af;exact ⟨j,l,c_,aL.symm,al⟩
def CQ (i:Nat) (ls:List fF):Tag->Tag
 | .lane c n=>if c=i then (match ls[n]? with
  |some l=>if 0<l.p.bN.length then .nk l.pb else .lane c n
  |none=>.lane c n) else .lane c n
 |t=>t
theorem ahh (h:∀ n,t≠.lane i n):CQ i ls t=t:=by
 cases t with
 |lane c n=>simp only [CQ];rw [if_neg];rintro rfl;exact h n rfl
 | _=>rfl
theorem W_ (h:CQ i ls t≠.dR):t≠.dR:=by rintro rfl;exact h rfl
theorem ah5 {n:Nat} {l:fF} (au:ls[n]?=some l) (ar:0<l.p.bN.length):CQ i ls (.lane i n)=.nk l.pb:=by simp [CQ,au,ar]
structure X9 (A:bB) (aG:Nat->Tag) (w:av) (a3:Nat) (X:cF) (c:dC) (k:Nat) (u:av) (fZ:ax) (lC:Nat) (os:List (Nat×gh)):Prop where
 aO:ay (λz=>aG z=.dt\/aG z=.km) w u
 dt:aF u a3 (X.cells.set 3 (.slice fZ os.length lC)) uo
 own:bu u zC 1 fZ os.length lC (os.map λp=>ptr p.1)
 tag:∀ z,a7 fZ z->aG z=.km\/w.heap.size<=z
 eq:os++n1 (c.aU.drop k)=X.cN++n1 c.aU
theorem akC (h:c4 A aG w a3 X) (b3:y' X.pure) (v7:X.cN.length<=100000000) (ab:X.bl[i]?=some c)
  {j:aH} {R:dW} (cC:∀ u fZ lC os,X9 A aG w a3 X c c.aU.length u fZ lC os->∀ aT,W prog (sub (b6 f22) [1,1,1,1]) (Vj (some ⟨X.bo,0+i * 7,none⟩) aT) (ga prog f22 R) u) :
  dT prog (.loop (sub (b6 f22) [1,1,1,0,1,0,0])) (Gr ⟨a3,0,none⟩ (some ⟨X.bo,0+i * 7,none⟩) c.la c.aU.length c.lc c.aU.length 0 j)
   (a8 0 (bk (λenv w=>W prog (sub (b6 f22) [1,1,1,1]) env (ga prog f22 R) w) (ga prog f22 R))) w:=by
 have gu:=b3.bw i c.pure (by simp [cF.pure,ab]);have bH:=b3.nodes;have Kl:c.aU.length<=5:=by
  have af:=gu.aU;have:c.pure.aU.length=c.aU.length:=by simp [dC.pure]
  split at af<;>omega
 have pV:∀ ls:List fF,(n1 ls).length<=ls.length:=λls=>by simp [n1];exact Mj _ _
 have aEo:=pV c.aU;refine e2 mix (λm env u=>∃ (k:Nat) (aT:aH) (fZ:ax) (lC:Nat) (os:List (Nat×gh)),k<=c.aU.length/\m=c.aU.length - k/\env=Gr ⟨a3,0,none⟩ (some ⟨X.bo,0+i * 7,none⟩) c.la c.aU.length c.lc c.aU.length k aT/\X9 A aG w a3 X c k u fZ lC os) c.aU.length
  ⟨0,_,X.fZ,X.lC,X.cN,by omega,by omega,rfl,ay.refl _ _,h.dt,h.km,λz aE=>.inl (h.rv z aE),rfl⟩ ?_
 rintro m env u ⟨k,aT,fZ,lC,os,J,rfl,rfl,bF⟩;rw [avT];have aD_:os.length<=100000005:=by have:=congrArg List.length bF.eq;simp only [gp] at this;omega
 refine bL (λaK=>?_) (λaK=>?_)
 ·have nL:k<c.aU.length:=by omega
  obtain ⟨l,au⟩:∃ l,c.aU[k]?=some l:=⟨c.aU[k],by simp [nL]⟩;have fc:=h.bw i c ab;have cV:bu u uq 2 c.la c.aU.length c.lc (l0 c.aU).flatten:=fc.own.aO bF.aO λz aE=>by rw [fc.tag z aE];simp
  obtain ⟨g,pQ,_,_,od,_⟩:=bu.row cV (yK c.aU) (by omega) (i0 au);have kF:=fc.lane k l au;rw [pQ];refine hc (by omega) (by omega) ?_;rw [j_];refine ⟨_,_,_,_,od,?_⟩;rintro bT aY ej dY;obtain ⟨cx,bf⟩:=b4 ej dY;refine ⟨kA (vs:=l.cells) cx (by simp [fF.cells]) (by simp [fF.cells,single]),?_⟩;intro bZ eE;obtain ⟨dk,bz⟩:=Av (vs:=l.cells) cx (by simp [fF.cells]) bf (by omega) eE;clear dY eE cx bf;refine ⟨_,dk.cell (i:=0) rfl,?_⟩;have acu:ay (λz=>aG z=.dt\/aG z=.km) w bZ:=bF.aO.new bz;have mi:gy A bZ l.pb l.p:=kF.pair.aO acu (λz aE=>by rw [kF.tag z aE];simp) (λz aE=>h.iL z (by rcases aE with e | e<;>rw [e]<;>simp));refine aR (Qs mi) ?_;rintro v cK ⟨rfl,rfl⟩;have j0:=Ym au;have heq:=bF.eq;rw [j0,Yn] at heq;rw [<-pQ];have ab9:=ai.an bz bF.dt;have Ab:=bF.own.new bz;refine ⟨_,rfl,bL (λar=>?_) (λar=>?_)⟩
  ·have hA:0<l.p.bN.length:=by omega
   rw [if_pos hA] at heq;intro dh kY;have cg:ai cK dh:=by rw [kY];exact eh _
   clear kY;have GL:=ai.an cg ab9;have e4:=ai.an cg dk;have Ek:=Ab.new cg;have yq:¬ a7 fZ a3:=λak=>by
    rcases bF.tag a3 ak with e | e
    ·rw [h.lu] at e;cases e
    ·have:=h.dt.lt;omega
   have aqt:¬ a7 fZ bT:=λak=>by have:=bF.own.lt ak;omega
   refine ⟨λz=>ay (a7 fZ) dh z,ay.refl _ _,_,_,_,λz aE=>(aE.an GL yq).cell (i:=3) rfl,_,λz aE=>(aE.an e4 aqt).cell (i:=0) rfl,?_⟩;rintro kz cR jt kj;obtain ⟨fQ,dg⟩:=b4 jt kj;clear kj;refine ⟨ay.db dg,?_⟩;obtain ⟨wX,aD,pv,cr,gm⟩:=j5 (T:=103) (z:=.pointer none) (n:=1) (m:=8) (by kernel_rfl);have nP:bu cR zC wX.size fZ os.length lC (os.map λp=>ptr p.1):=by rw [cr];exact Ek.new dg
   obtain ⟨ap,fU,e6,fV,O7,fe,fC⟩:=nP.append (P:=prog) (t:=106) (ty:=106) Tryz.underlying106 aD pv (by rw [cr];rfl) (by omega)
    (s:=some ⟨kz,0,none⟩) (m:=1) (c:=1) (news:=[ptr l.pb]) (by rw [cr];rfl) (jk fQ (by simp [ptr])) (by simp [ptr,single]) (by omega) (by rw [gm];omega)
   rw [cr] at O7;have TL:aF e6 a3 (X.cells.set 3 (.slice fZ os.length lC)) uo:=fe.an (ai.an dg GL) yq;refine ⟨ap,_,fU,e6,fV,(ay.db dg).trans fe λ_ _ h=>h,⟨_,TL.cell (i:=3) rfl⟩,TL.frozen,?_⟩;intro hD uZ;have fK:ay (λz=>z=a3) e6 hD:=by rw [uZ];exact iu _ _ _ _
   have arc:aF hD a3 (X.cells.set 3 (.slice ap (os.length+1) fU)) uo:=by rw [uZ];have:=TL.setCell (i:=3) (.slice ap (os.length+1) fU);rw [List.set_set] at this;exact this
   clear uZ;have Ku:ai u cR:=(bz.new cg).new dg;have vR:∀ z,a7 ap z->aG z=.km\/w.heap.size<=z:=by
    intro z aE;rcases fC with e | e
    ·exact bF.tag z (e▸aE)
    ·obtain ⟨o,aq⟩:=aE;rw [e] at aq;simp at aq;have:=bF.aO.size;have:=Ku.size;exact .inr (by omega)
   rw [show IntKind.i64.wrap ((k:Int)+1)=((k+1:Nat):Int) by rw [cn (by omega) (by omega)];rfl];refine ⟨c.aU.length - (k+1),by omega,k+1,_,ap,fU,os++[(l.pb,l.p)],by omega,rfl,rfl,?_,?_,?_,vR,?_⟩
   ·refine ((bF.aO.new Ku).trans fe λz aK aE=>?_).trans fK λz _ e=>.inl (by rw [e];exact h.lu)
    rcases bF.tag z aE with e | e
    ·exact .inr e
    ·omega
   ·simpa using arc
   ·have:=O7.aO fK (λz aE e=>?_)
    ·simpa using this
    ·rcases vR z aE with jj | jj
     ·rw [e,h.lu] at jj;cases jj
     ·have:=h.dt.lt;omega
   ·rw [<-heq];simp
  ·have hA:¬ 0<l.p.bN.length:=by omega
   rw [if_neg hA] at heq;rw [show IntKind.i64.wrap ((k:Int)+1)=((k+1:Nat):Int) by rw [cn (by omega) (by omega)];rfl];exact ⟨c.aU.length - (k+1),by omega,k+1,_,fZ,lC,os,by omega,rfl,rfl,acu,ab9,Ab,bF.tag,heq⟩
 ·have:k=c.aU.length:=by omega
  subst this;exact cC u fZ lC os bF _
theorem alB (ls:List fF):((n1 ls).map Prod.fst).Sublist (ls.map fF.pb):=by
 have:(n1 ls).map Prod.fst=(ls.filter λl=>decide (0<l.p.bN.length)).map fF.pb:=by simp [n1,Function.comp_def]
 rw [this];exact (List.filter_sublist).map _
def CG (i:Nat) (t:Tag):Prop:=t=.dt\/t=.km\/t=.bl\/oV i t
open Classical in
theorem c4.die (h:c4 A aG w a3 X) (ab:X.bl[i]?=some c) {fZ:ax} {lC:Nat}
  (J:ay (λz=>aG z=.dt\/aG z=.km\/aG z=.bl) w w') (arb:aF w' a3 (X.cells.set 3 (.slice fZ (X.cN++n1 c.aU).length lC)) uo) (cV:bu w' zC 1 fZ (X.cN++n1 c.aU).length lC ((X.cN++n1 c.aU).map λp=>ptr p.1))
  (wh:∀ z,a7 fZ z->aG z=.km\/w.heap.size<=z) {c':dC} (kd:c'.aU=[]/\c'.la=none/\c'.lc=0/\c'.fD=none/\c'.raw=[]/\c'.batch=[]) (ak:aF w' X.bo (jL (X.bl.set i c')).flatten qY) :
  ∃ A' χ',Next A A' aG χ' w w'/\c4 A' χ' w' a3 { X with bl:=X.bl.set i c',cN:=X.cN++n1 c.aU,fZ:=fZ,lC:=lC }:=by
 let χ':Nat->Tag:=λk=>if a7 fZ k then .km else CQ i c.aU (aG k)
 have t1:∀ k,a7 fZ k->χ' k=.km:=λk J=>if_pos J
 have t2:∀ k,¬ a7 fZ k->χ' k=CQ i c.aU (aG k):=λk J=>if_neg J
 have a':∀ k,k<w.heap.size->χ' k≠.dR->aG k≠.dR:=by
  intro k aK fc;by_cases ak:a7 fZ k
  ·rcases wh k ak with e | e
   ·rw [e];simp
   ·omega
  ·rw [t2 k ak] at fc;exact W_ fc
 have aX:∀ k,k<w.heap.size->¬ CG i (aG k)->aG k≠.dR->χ' k=aG k:=by
  intro k aK bq _;by_cases ak:a7 fZ k
  ·rcases wh k ak with e | e
   ·exact absurd (.inr (.inl e)) bq
   ·omega
  ·rw [t2 k ak];exact ahh λn e=>bq (.inr (.inr (.inr (by rw [e];rfl))))
 obtain ⟨m,ba⟩:=h.move (T:=CG i) (χ':=χ') (w':=w') (J.mono λk _ ab=>by rcases ab with e | e | e<;>simp [CG,e]) (by simp [CG,oV]) a' aX;have f2:=bu.eF m h.nodes h.qE (by simp [CG,oV]) (by simp);have fc:=h.bw i c ab;have Uk:∀ k,k<w.heap.size->aG k≠.km->¬ a7 fZ k:=λk aK cj ak=>by
  rcases wh k ak with e | e
  ·exact cj e
  ·omega
 have El:∀ (j:Nat) (l:fF),c.aU[j]?=some l->aG l.pb=.lane i j:=λj l au=>(fc.lane j l au).tag _ (.inl rfl)
 refine ⟨_,χ',ba,m.vD,λk ab=>?_,?_,?_,f2.1,f2.2,λq z aE=>(h.node q z aE).eF m (by simp [CG,oV]) (by simp [CG,oV]),ak,?_,λq z aE=>?_,cV,t1,λx ao=>?_,?_⟩
 ·rcases ab with ab | ab
  ·by_cases ak:a7 fZ k
   ·exact cV.lt ak
   ·rw [t2 k ak] at ab;exact ks (h.qB (W_ ab)) J.size
  ·exact ks ab.1 J.size
 ·simpa [cF.cells] using arb
 ·rw [t2 a3 (Uk a3 h.dt.lt (by rw [h.lu];simp)),h.lu];rfl
 ·show χ' X.bo=_;rw [t2 _ (Uk _ h.cls.lt (by rw [h.i_];simp)),h.i_];rfl
 ·simp only [oy] at aE;split at aE
  ·rename_i he;subst he;split at aE
   ·simp only [iX] at aE;subst aE;obtain ⟨bY,bg,dF,kB,l_,pK⟩:=kd;refine ⟨?_,λk J=>?_,λj l au=>?_,λ_=>⟨l_,pK⟩,λb hI=>?_,?_⟩
    ·rw [bY,bg,dF];exact bu.nil _ _ _
    ·rw [bg] at J;obtain ⟨o,aq⟩:=J;cases aq
    ·rw [bY] at au;simp at au
    ·rw [kB] at hI;cases hI
    ·rw [l_,pK];exact ⟨rfl,λ_ _ _ ab=>by simp at ab⟩
   ·cases aE
  ·rename_i he;refine (h.bw q z aE).eF m λt af al=>?_
   rcases al with e | e | e | e
   ·rw [e] at af;cases af
   ·rw [e] at af;cases af
   ·rw [e] at af;cases af
   ·exact ZP he t af (.inr e)
 ·rcases qT.1 ao with ao | ao
  ·exact gy.eF m (h.hB x ao).1 (h.hB x ao).2 (by simp [CG,oV]) (by simp)
  ·obtain ⟨j,l,au,rfl,ar⟩:=Zg ao;have kF:=fc.lane j l au;have tq:∀ k,l.p.mut l.pb k->k<w.heap.size:=λk J=>h.qB (by rw [kF.tag k J];simp)
   have pW:∀ k,l.p.mut l.pb k->χ' k=.nk l.pb:=λk J=>by rw [t2 k (Uk k (tq k J) (by rw [kF.tag k J];simp)),kF.tag k J];exact ah5 au ar
   refine ⟨?_,pW⟩;refine (kF.pair.wP (λk aK fB=>m.old k aK fB) (λk J=>m.vD k (by rw [pW k J];simp))).aO J (λk J ab=>?_) (λk ab=>m.vD k ?_)
   ·rw [kF.tag k J] at ab;rcases ab with e | e | e<;>cases e
   ·by_cases ak:a7 fZ k
    ·rw [t1 k ak];simp
    ·rw [t2 k ak];rcases ab with e | e | e<;>rw [e]<;>simp [CQ]
 ·show ((X.cN++n1 c.aU).map Prod.fst).Nodup;rw [pB,List.nodup_append];refine ⟨h.nodup,(alB c.aU).nodup ?_,?_⟩
  ·refine WN.2 λa b bc ak zU he=>?_
   simp only [jS] at bc ak;simp only [List.getElem_map] at he;have af:=El a _ (cp bc);have al:=El b _ (cp ak);rw [he,al] at af;simp at af <;> omega
  ·intro a bc b ak he;obtain ⟨x,ao,rfl⟩:=eQ.1 bc;obtain ⟨y,az,rfl⟩:=eQ.1 ak;obtain ⟨j,l,au,rfl,ar⟩:=Zg az;have af:=(h.hB x ao).2 x.1 (.inl rfl);have al:=El j l au;rw [he,al] at af;cases af
theorem aah (h:c4 A aG w a3 X) (b3:y' X.pure) (v7:X.cN.length<=100000000) (c:Int):bK 22 [ptr a3,.int .i64 c] w λv w'=>
  v=.bool (X.pure.die c).1/\gQ A aG w a3 (X.pure.die c).2 w' λ_=>True:=by
 refine bO Tryz.func22 ?_;rw [ptr,ayF];refine aR (Zf h c) ?_;rintro v w1 ⟨rfl,rfl⟩;rcases X.Gp c with ⟨af,al⟩ | ⟨i,x,rfl,af,al⟩
 ·have aC:X.pure.die c=(false,X.pure):=by simp [a9.die,af]
  have bc:X.pure.alive c=false:=by simp [a9.alive,af]
  rw [aC,bc];exact ⟨_,rfl,rfl,gQ.same h (ay.refl _ _) trivial⟩
 ·have bc:X.pure.alive i=x.alive:=by simp [a9.alive,al,dC.pure]
  rw [bc];refine ⟨_,rfl,ht (λaJ=>?_) (λaZ=>?_)⟩
  ·have aC:X.pure.die i=(false,X.pure):=by simp [a9.die,al,dC.pure,aJ]
   rw [aC];exact ⟨rfl,gQ.same h (ay.refl _ _) trivial⟩
  refine aR (Hj h af) ?_;rintro v aS ⟨rfl,rfl⟩;have aC:X.pure.die i=(true,{ X.pure with cN:=X.pure.cN++(x.pure.aU.map eM.pair).filter (λp=>decide (0<p.bN.length)),bl:=X.pure.bl.set i { x.pure with alive:=false,aU:=[],batch:=none,waiting:=0 } }):=by simp [a9.die,al,dC.pure,aZ]
  rw [aC];refine ⟨_,rfl,_,_,_,h.n_ (k:=2) af rfl,?_⟩;refine akC h b3 v7 af ?_;intro u fZ lC os bF aT;rw [aw'];have asr:os=X.cN++n1 x.aU:=by have:=bF.eq;rw [Fy] at this;simpa [n1] using this
  subst asr;have DZ:aF u X.bo (jL X.bl).flatten qY:=bF.aO.an h.cls (by rw [h.i_];simp);refine ⟨⟨_,tU (k:=0) DZ af rfl⟩,DZ.frozen,?_⟩;intro aY dY;obtain ⟨se,zZ⟩:=tI (k:=0) (c':={ x with alive:=false }) DZ af (by omega) (v:=.bool false) (by simp [dC.cells]);have Hb:aY=u.setCell ⟨X.bo,0+i * 7+0,none⟩ (.bool false):=dY;rw [<-Hb] at se;have ek:ay (λz=>z=X.bo) u aY:=by rw [Hb];exact iu _ _ _ _
  clear dY Hb;refine ⟨⟨_,tU (k:=2) se zZ rfl⟩,se.frozen,?_⟩;intro bZ eE;obtain ⟨yl,BJ⟩:=tI (k:=2) (c':={ x with alive:=false,aU:=[],la:=none,lc:=0 }) se zZ (by omega) (v:=.slice none 0 0) (by simp [dC.cells]);rw [<-eE] at yl;have dv:ay (λz=>z=X.bo) aY bZ:=by rw [eE];exact iu _ _ _ _
  clear eE;refine ⟨⟨_,tU (k:=3) yl BJ rfl⟩,yl.frozen,?_⟩;intro cK eO;obtain ⟨BL,yk⟩:=tI (k:=3) (c':={ x with alive:=false,aU:=[],la:=none,lc:=0,fD:=none,raw:=[],batch:=[] }) yl BJ (by omega) (v:=.slice none 0 0) (by simp [dC.cells]);rw [<-eO] at BL;have g_:ay (λz=>z=X.bo) bZ cK:=by rw [eO];exact iu _ _ _ _
  clear eO;refine ⟨⟨_,tU (k:=4) BL yk rfl⟩,BL.frozen,?_⟩;intro dh kY;obtain ⟨D0,aqK⟩:=tI (k:=4) (c':={ x with alive:=false,aU:=[],la:=none,lc:=0,fD:=none,raw:=[],batch:=[],waiting:=0 }) BL yk (by omega) (v:=.int .i64 0) (by simp [dC.cells]);rw [<-kY] at D0;have eu:ay (λz=>z=X.bo) cK dh:=by rw [kY];exact iu _ _ _ _
  clear kY;rw [pJ,pJ,pJ] at D0;have T1:ay (λz=>z=X.bo) u dh:=((ek.trans dv λ_ _ h=>h).trans g_ λ_ _ h=>h).trans eu λ_ _ h=>h
  have z6:ay (λz=>aG z=.dt\/aG z=.km\/aG z=.bl) aS dh:=(bF.aO.mono λz _ aE=>aE.elim .inl λe=>.inr (.inl e)).trans T1 λz _ e=>.inr (.inr (by rw [e];exact h.i_))
  have cj:∀ z,a7 fZ z->z≠X.bo:=λz aE e=>by
   rcases bF.tag z aE with jj | jj
   ·rw [e,h.i_] at jj;cases jj
   ·have:=h.cls.lt;omega
  have GM:a3≠X.bo:=λe=>by have:=h.lu;rw [e,h.i_] at this;cases this
  obtain ⟨A',χ',ba,cM⟩:=h.die (c':={ x with alive:=false,aU:=[],la:=none,lc:=0,fD:=none,raw:=[],batch:=[],waiting:=0 }) af z6 (T1.an bF.dt GM) (bF.own.aO T1 cj) bF.tag ⟨rfl,rfl,rfl,rfl,rfl,rfl⟩ D0;refine ⟨rfl,A',χ',_,ba,cM,?_,trivial⟩;simp only [cF.pure,pB,oz,akB];rfl
end
end Go.Proofs.YtmkljjbioomepaaGreat
