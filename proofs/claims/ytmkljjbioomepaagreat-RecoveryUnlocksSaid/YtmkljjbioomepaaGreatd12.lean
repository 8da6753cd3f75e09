import Derived.Test.YtmkljjbioomepaaGreatd11
set_option linter.all false
set_option maxHeartbeats 4000000
set_option maxRecDepth 100000
namespace Go.Proofs.YtmkljjbioomepaaGreat
open Go.Proofs.Tryz Go.bs
variable {A:a6} {X:bR} {c:cn} {aJ i:Nat} {ls:List dk} {t:Tag} {w w':ak} {aw:Nat->Tag}
section
abbrev z4:TypeId:=89
def fv.cells (x:fv):ax:=[.int .i64 x.eC,.int .i64 x.aW,.int .i64 x.node]
def fv.val (x:fv):a4:=.agg x.cells.toArray
theorem Ly (C:bh) (j:Nat) (l:cA) (p:cR) (a:Option aM) (b:j<C.az.length) :
  ({ C with az:=C.az.set j ⟨p,l.bC⟩ }:bh).uC j p l.bC a=C.comes j l p a:=by
 cases a with
 |none=>rfl
 |some x=>simp [bh.uC,bh.comes]
theorem HC:∀ {l:cT} {x:Nat},x ∈ l->x<=l.sum
 |y::l,x,h=>by
  rw [jI];rcases eU.1 h with rfl | h
  ·omega
  ·have:=HC h;omega
theorem b6.Bb (h:b6 A aw w aJ X) (b:ai w w'):b6 (λk=>A k\/(w.heap.size<=k/\k<w'.heap.size)) aw w' aJ X:=by
 have m:lA (λ_=>False) A (λk=>A k\/(w.heap.size<=k/\k<w'.heap.size)) aw aw w w':=⟨b,id,h.e9,λk e a=>a.elim id (λa=>by omega),λ_ _ _ _=>rfl,λk a=>.inl (h.e9 k a)⟩;have g:=b.size;refine ⟨m.mo,λk a=>a.elim (λa=>by have:=h.low k a;omega) (λa=>a.2),ai.aj b h.ck,h.gT,h.nodes.new b,h.jY,λi x f=>(h.node i x f).cU m id id,ai.aj b h.cls,h.fk,
  λi c a=>(h.aW i c a).cU m λ_ _=>id,h.gb.new b,h.ki,λp d=>⟨(dM.cU m (h.eC p d).1 (h.eC p d).2 id (by simp)).1,(h.eC p d).2⟩,h.nodup⟩
theorem DX (h:b6 A aw w aJ X) (Yo:n9 X.pure) (x:fv):bb 37 [ptr aJ,x.val] w λv w'=>
  v=.bool (X.pure.step x).1/\dR A aw w aJ (X.pure.step x).2 w' λ_=>True:=by
 refine bd Tryz.func37 ?_;refine Eq.mpr (Vk aJ x.eC x.aW x.node w _) ?_;rintro b1 w1 YH Yr;obtain ⟨H,E⟩:=bl YH Yr;clear Yr;have Xy:=h.new E;have H:av w1 b1 x.cells z4:=H;refine ⟨_,H.cell (i:=0) rfl,bc (λZf=>?_) (λZf=>?_)⟩
 ·obtain ⟨i,Y8⟩:∃ i:Nat,x.eC=i:=⟨x.eC.toNat,by omega⟩;have X2:X.pure.step x=X.pure.iX i:=by unfold aE.step;rw [if_pos (by omega),Y8];rfl
  refine ⟨_,H.cell (i:=0) rfl,?_⟩;rw [Y8];refine aD (IQ Xy Yo i) ?_;rintro v Zr ⟨rfl,Zo⟩;refine ⟨_,rfl,?_⟩;rw [X2];exact ⟨rfl,dR.trans (h.refl E) Zo⟩
 refine ⟨_,H.cell (i:=0) rfl,bc (λYy=>?_) (λYy=>?_)⟩
 ·have X2:X.pure.step x=(false,X.pure):=by unfold aE.step;rw [if_neg (by omega),if_pos Yy]
  rw [X2];exact ⟨rfl,dR.same h E trivial⟩
 have a:X.pure.step x=match X.pure.cE x.aW with
  |none=>(false,X.pure)
  |some C=>if x.node<0 then (false,X.pure) else match C.az[x.node.toNat]?,X.pure.nodes[x.node.toNat]? with
   |some l,some n=>if l.pair.a3.length=0 then (false,X.pure) else
    (true,{ X.pure with nodes:=X.pure.nodes.set x.node.toNat (l.pair.step n).2.1,aR:=X.pure.aR.set x.aW.toNat (C.comes x.node.toNat l (l.pair.step n).1 (l.pair.step n).2.2) })
   | _,_=>(false,X.pure):=by
  unfold aE.step;rw [if_neg (by omega),if_neg Yy];rfl
 refine ⟨_,H.cell (i:=1) rfl,?_⟩;rcases X.sk x.aW with ⟨Zd,g9⟩ | ⟨i,c,cB,s,g9⟩
 ·refine aD (uO Xy g9) ?_;rintro v Za ⟨rfl,rfl⟩;rw [Zd] at a;refine ⟨_,rfl,?_⟩;intro Y2 XD;refine ⟨λ_=>True,trivial,?_⟩
  rw [a];exact ⟨rfl,dR.same h (E.new (by rw [XD];exact cK _)) trivial⟩
 have YZ:=b3 s;rw [cB];refine aD (sC Xy s) ?_;rintro v Za ⟨rfl,rfl⟩;rw [g9] at a;refine ⟨_,rfl,?_⟩;intro Y2 XD;have K:ai Za Y2:=by rw [XD];exact cK _
 clear XD;have J:=Xy.new K;have Xz:=ai.aj K H;refine ⟨λu=>ai Y2 u,ao.refl _ _,?_⟩;refine ⟨_,λu hu=>(ai.aj hu Xz).cell (i:=2) rfl,bc (λYz=>?_) (λYz=>?_)⟩
 ·simp only [if_pos Yz] at a;rw [a];exact ⟨rfl,dR.same h (E.new K) trivial⟩
 simp only [if_neg Yz] at a;obtain ⟨j,YR⟩:∃ j:Nat,x.node=j:=⟨x.node.toNat,by omega⟩;have YS:x.node.toNat=j:=by omega
 rw [YS] at a;have XB:=Yo.aW i c.pure (by simp [bR.pure,s]);refine ⟨_,λu hu=>(ai.aj hu Xz).cell (i:=2) rfl,?_⟩;refine ⟨_,_,_,λu hu=>(J.new hu).iy (k:=2) s rfl,bc (λYA=>?_) (λYA=>?_)⟩
 ·have e:c.pure.az[j]?=none:=iF (by
   have:c.pure.az.length=c.az.length:=by simp [cn.pure]
   have YB:x.node>=(c.az.length:Int):=YA;omega)
  simp only [e] at a;rw [a];exact ⟨rfl,dR.same h (E.new K) trivial⟩
 have YB:¬ x.node>=(c.az.length:Int):=YA;have XX:j<c.az.length:=by omega
 obtain ⟨l,XY⟩:∃ l,c.az[j]?=some l:=⟨c.az[j],by simp [XX]⟩;have Yh:j<X.nodes.length:=by
  have Zh:=XB.az;have Y4:c.pure.az.length=c.az.length:=by simp [cn.pure]
  have Y5:X.pure.nodes.length=X.nodes.length:=by simp [bR.pure]
  split at Zh<;>omega
 obtain ⟨y,X5⟩:∃ y,X.nodes[j]?=some y:=⟨X.nodes[j],by simp [Yh]⟩;have XW:c.pure.az[j]?=some l.pure:=by simp [cn.pure,XY]
 have Yx:X.pure.nodes[j]?=some y.n:=by simp [bR.pure,X5]
 simp only [XW,Yx] at a;have XZ:=XB.lane j l.pure XW;refine ⟨_,_,_,λu hu=>(J.new hu).iy (k:=2) s rfl,_,λu hu=>(ai.aj hu Xz).cell (i:=2) rfl,?_⟩;obtain ⟨g,U,Zn,⟨Ze,Zl⟩,Zm,Yg⟩:=a1.row (J.aW i c s).own (nH c.az) (by omega) (mz XY);have YQ:aw g=.az i:=(J.aW i c s).tag g ⟨0,U⟩;show bA c.la c.az.length x.node 2 _;rw [U,YR];refine ej (by omega) (by omega) ?_;rw [fD];refine ⟨some ⟨l.pb,0,none⟩,λu hu=>jQ hu (Yg 0 _ rfl) id,?_⟩;refine aD (ye ((J.aW i c s).lane j l XY).pair) ?_;rintro v Zb ⟨rfl,rfl⟩;refine ⟨_,rfl,ao.refl _ _,d' (λZi=>?_) (λZi=>?_)⟩
 ·have:l.pure.pair.a3.length=0:=by show l.p.a3.length=0;omega
  rw [if_pos this] at a;rw [a];exact ⟨rfl,dR.same h (E.new K) trivial⟩
 have XN:¬ l.pure.pair.a3.length=0:=by show ¬ l.p.a3.length=0;omega
 rw [if_neg XN] at a;intro Y3 Ys;have X0:ai Zb Y3:=by rw [Ys];exact cK _
 clear Ys;have X_:=J.new X0;have Yc:=ai.aj X0 Xz;refine ⟨λu=>ai Y3 u,ao.refl _ _,_,_,_,λu hu=>(X_.new hu).iy (k:=2) s rfl,_,λu hu=>(ai.aj hu Yc).cell (i:=2) rfl,?_⟩;show bA c.la c.az.length x.node 2 _;rw [U,YR];refine ej (by omega) (by omega) ?_;rw [fD];intro N Yt;have X1:ai Y3 N:=by rw [Yt];exact cK _
 clear Yt;have t:=X_.new X1;have YK:=ai.aj X1 Yc;have XM:ai Zb N:=X0.new X1;have Yl:ai w N:=(E.new K).new XM;have Yb:aw b1=.cx:=h.fresh (by omega);have Ye:=t.aW i c s;have XL:=Ye.lane j l XY;have Y_:=t.node j y X5;refine ⟨λu=>ao (λk=>ib i j j (aw k)) N u,ao.refl _ _,some ⟨l.pb,0,none⟩,λu hu=>jQ hu (jQ XM (Yg 0 _ rfl) id) (by show ¬ ib i j j (aw g);rw [YQ];simp [ib]),?_⟩;refine ⟨_,_,_,λu hu=>(hu.aj t.ck (by rw [t.gT];simp [ib])).cell (i:=1) rfl,_,λu hu=>(hu.aj YK (by rw [Yb];simp [ib])).cell (i:=2) rfl,?_⟩;refine s9 (v:=ptr y.b) (i:=j) t.nodes (by simp [X5]) YR λZc XA Ya=>⟨some ⟨y.b,0,none⟩,λu hu=>jQ hu XA ?_,?_⟩
 ·obtain ⟨Y6,YO,rfl⟩:=Ya;show ¬ ib i j j (aw Y6);rw [t.jY Y6 ⟨0,YO⟩];simp [ib]
 have Xx:c.waiting<=1024:=by have Zj:=XB.batch;have e:c.pure.waiting=c.waiting:=rfl;omega
 have B:l.bC.length=l.p.a3.length:=XZ.bC;have Yp:∀ Y':Option aM,Y'.isSome=true->∃ dm X6 cl,l.bC=X6::cl/\X6<c.raw.length/\c.dm=some dm/\0<c.waiting:=by
  intro Y' _;cases Yq:l.bC with
  |nil=>rw [Yq] at B;exact absurd B.symm (by show ¬ l.p.a3.length=0;omega)
  |cons X6 cl=>
   have W:=XZ.low X6 (by show X6 ∈ l.bC;rw [Yq];simp);have YL:=h.aW i c s;cases Yd:c.dm with
   |none=>simp [cn.pure,Yd] at W
   |some dm=>
    simp [cn.pure,Yd] at W;refine ⟨dm,X6,cl,rfl,by rw [YL.ds.1];exact W,rfl,?_⟩;have Zj:=XB.waiting;have e:c.pure.waiting=c.waiting:=rfl;have Zp:l.p.a3.length<=gz c.pure.az:=by unfold gz;exact HC (cZ.2 ⟨l.pure,b5 XW,rfl⟩)
    have Zg:l.p.a3.length≠0:=XN;omega
 have Xv:∀ (lL:a6) q r XV (Yn:b6 lL aw q aJ X),yv lL l.pb y.b y.aH l.p y.n q r XV->∃ G F d p',r=.tuple #[d.val,.bool (l.p.pure.step y.n).2.2.isSome]/\Next lL G aw F q XV/\
   b6 G F XV aJ { X with nodes:=X.nodes.set j { y with n:=(l.p.pure.step y.n).2.1 },aR:=X.aR.set i { c with az:=c.az.set j { l with p:=p' } } }/\p'.pure=(l.p.pure.step y.n).1/\
   ao (λk=>ib i j j (aw k)) q XV/\(∀ x,(l.p.pure.step y.n).2.2=some x->lu G XV d x):=by
  intro lL q r XV f X';have Y:=(f.aW i c s).lane j l XY;have L:=f.node j y X5;obtain ⟨χ',d,p',rfl,I,XC,Yi,YP,YW,YT,YX,YF,YM⟩:=Cx Y.pair Y.tag (by simp) (λk s=>f.jV s) f.e9 L.j5 X';obtain ⟨aU,YD⟩:=f.Hg s XY X5 Yi YP YW YT XC YF YX;exact ⟨_,_,d,p',rfl,aU,YD,I,Yi,YM⟩
 have T:∀ (lL:a6) q,b6 lL aw q aJ X->bb 70 [.pointer (some ⟨l.pb,0,none⟩),.pointer (some ⟨y.b,0,none⟩)] q (yv lL l.pb y.b y.aH l.p y.n q):=by intro lL q f;have Y:=(f.aW i c s).lane j l XY;have L:=f.node j y X5;exact D_ Y.pair L.node (f.e9 _ (by rw [L.j5];simp)) (f.e9 _ (by rw [L.tag];simp)) (λZk=>by have:=Y.tag _ (.inr (.inr Zk));rw [L.j5] at this;cases this) XZ.hX
 have XI:∀ D aB G F d p' q,ai N q->Next A G aw F q D->b6 G F D aJ { X with nodes:=X.nodes.set j { y with n:=(l.p.pure.step y.n).2.1 },aR:=X.aR.set i { c with az:=c.az.set j { l with p:=p' } } }->p'.pure=(l.p.pure.step y.n).1->
   av D aB (bT.cells d) jd->(∀ x,(l.p.pure.step y.n).2.2=some x->lu G D d x)->∀ w' A' χ' Yw,Next G A' F χ' D w'->b6 A' χ' w' aJ Yw->
   Yw.pure=(bR.pure { X with nodes:=X.nodes.set j { y with n:=(l.p.pure.step y.n).2.1 },aR:=X.aR.set i { c with az:=c.az.set j { l with p:=p' } } }).dO i ((cn.pure { c with az:=c.az.set j { l with p:=p' } }).uC j p'.pure l.bC (l.p.pure.step y.n).2.2)->
   (Value.bool true=.bool (X.pure.step x).1/\dR A aw w aJ (X.pure.step x).2 w' λ_=>True):=by
  intro D aB G F d p' q Yn aU Zq I Y7 aq w' A' χ' Yw Y1 YC YG;rw [a];refine ⟨rfl,A',χ',Yw,((h.refl (Yl.new Yn)).trans aU).trans Y1,YC,?_,trivial⟩;rw [YG,bR.Vu,cB];have Y4:(cn.pure { c with az:=c.az.set j { l with p:=p' } })={ c.pure with az:=c.pure.az.set j ⟨p'.pure,l.pure.bC⟩ }:=by simp [cn.pure,iH,dk.pure]
  have Y5:l.bC=l.pure.bC:=rfl;rw [Y4,Y5,Ly _ _ _ _ _ (by simpa [cn.pure] using XX),I];simp [aE.dO];exact ⟨rfl,rfl⟩
 have XF:∀ p':dF,(X.aR.set i { c with az:=c.az.set j { l with p:=p' } })[i]?=some { c with az:=c.az.set j { l with p:=p' } }:=λp'=>by simp [YZ]
 have Yk:∀ p':dF,(c.az.set j { l with p:=p' })[j]?=some { l with p:=p' }:=λp'=>by simp [XX]
 refine ⟨?_,?_⟩
 ·refine aD (T A N t) ?_;intro r XV X';obtain ⟨G,F,d,p',rfl,aU,YE,I,Yj,YN⟩:=Xv A N r XV t X';refine ⟨_,_,_,_,_,rfl,Yj,?_⟩;rintro aB Zs YI Yu;obtain ⟨Yv,Ym⟩:=bl YI Yu;refine ⟨Yj.new Ym,gq (vs:=d.cells) Yv (by simp [bT.cells]) (bT.single d),?_⟩;intro D XP;obtain ⟨XR,Z⟩:=oK (vs:=d.cells) Yv (by simp [bT.cells]) Ym (by omega) XP;clear Yu XP;have XE:=YE.new Z;have XG:∀ x,(l.p.pure.step y.n).2.2=some x->lu G D d x:=λx YY=>(YN x YY).aA (ao.b9 Z) λ_ _ h=>h
  exact Cy (R:=λv w'=>v=.bool (X.pure.step x).1/\dR A aw w aJ (X.pure.step x).2 w' λ_=>True) XE (XF p') (Yk p') U XR (l.p.pure.step y.n).2.2 XG (Yp _) (by show l.bC.length<=1024;rw [B];exact XL.pair.len) Xx
   (XI D aB G F d p' N (ao.refl _ _) (aU.new Z) XE I XR XG)
 ·rintro O X3 YJ XQ;obtain ⟨XS,z⟩:=bl YJ XQ;clear XQ;refine ⟨ao.b9 z,?_⟩;refine aD (T _ X3 (t.Bb z)) ?_;intro r X4 X';obtain ⟨G,F,d,p',rfl,aU,X8,I,XK,Yf⟩:=Xv _ X3 r X4 (t.Bb z) X';have Q:aw O=.cx:=t.fresh (by omega);have XT:=XK.aj XS (by rw [Q];simp [ib]);refine ⟨_,_,_,_,_,rfl,(ao.b9 z).trans XK (λk _ h=>h),gq (vs:=d.cells) XT (by simp [bT.cells]) (bT.single d),?_⟩;intro M Xw;have XU:av M O d.cells jd:=by have hw:M=cu X4 ⟨O,0,none⟩ 0 d.cells:=Xw;rw [hw];have:=XT.cu (o:=0) (i:=0) (vs:=d.cells);rw [px (by simp [bT.cells])] at this;exact this
  have V:ao (λk=>k=O) X4 M:=by rw [Xw];exact h7 _ _ _ _ _
  clear Xw;have S:O<X3.heap.size:=XS.lt;have Y9:=z.size;have X7:G O:=(aU.iff O).2 (.inr ⟨S,.inr ⟨by omega,S⟩,Q⟩);have Y0:F O=.cx:=by
   by_cases s:F O=.cx
   ·exact s
   ·exact absurd Q (aU.grow O S s)
  have X9:=X8.other V (λk XJ=>by rw [XJ];exact ⟨X7,Y0⟩);have XO:∀ k,gC A aw F N k->G k:=by
   intro k XJ;refine (aU.iff k).2 ?_;rcases XJ with XJ | XJ
   ·exact .inl XJ
   ·exact .inr ⟨by omega,.inl XJ.2.1,XJ.2.2⟩
  have P:=X9.mO XO (λk s=>.inl s);have YV:Next A (gC A aw F N) aw F N M:=by refine ⟨((ao.b9 z).trans aU.aA λ_ _ h=>h).trans V λk YU e=>by omega,λk YU s=>aU.grow k (by omega) s,λ_=>Iff.rfl⟩
  have XH:∀ x,(l.p.pure.step y.n).2.2=some x->lu (gC A aw F N) M d x:=λx YY=>(Yf x YY).aA (V.mono λk _ e=>by rw [e];exact X7) λk _ s=>XO k s
  exact Cy (R:=λv w'=>v=.bool (X.pure.step x).1/\dR A aw w aJ (X.pure.step x).2 w' λ_=>True) P (XF p') (Yk p') U XU (l.p.pure.step y.n).2.2 XH (Yp _) (by show l.bC.length<=1024;rw [B];exact XL.pair.len) Xx
   (XI M O _ F d p' N (ao.refl _ _) YV P I XU XH)
end
section
theorem Dk {α:Type} {l:List α} {k:Nat} {x:α} (h:l[k]?=some x):l.drop k=x::l.drop (k+1):=by obtain ⟨a,b⟩:=lG.1 h;rw [oZ a,b]
def oS (l:List fv):List ax:=l.map fv.cells
theorem B3 (l:List fv):∀ r ∈ oS l,r.length=3:=by intro r a;simp only [oS,cZ] at a;obtain ⟨l,_,rfl⟩:=a;rfl
theorem B4 {l:List fv} {x:fv} (h:l[i]?=some x):(oS l)[i]?=some x.cells:=by simp [oS,h]
structure k0 (w u:ak) (a:an) (cap:Nat) (out:List fv):Prop where
 new:ai w u
 own:a1 u z4 3 a out.length cap (oS out).flatten
 fresh:∀ k,aL a k->w.heap.size<=k
theorem k0.step {u bw:ak} {a:an} {cap:Nat} {out:List fv} (h:k0 w u a cap out) (b:ai u bw):k0 w bw a cap out:=⟨h.new.new b,h.own.new b,h.fresh⟩
theorem k0.append {w u bG:ak} {a:an} {cap b:Nat} {out:List fv} (h:k0 w u a cap out) (x:fv) (F:b=u.heap.size) (hw:bG=u.alloc (.cells x.cells.toArray 89)) (L:out.length<=1000000000) :
  ∃ A g E,(Builtin.append_ #[85,85] 85 #[.slice a out.length cap,.slice (some ⟨b,0,none⟩) 1 1]).run prog bG=.ok (.slice A (out++[x]).length g) E/\k0 w E A g (out++[x]):=by
 obtain ⟨au,C⟩:=bl F hw;have B:=h.step C;obtain ⟨J,H,y,f,q⟩:=fV (T:=89) (z:=.agg #[.int .i64 0,.int .i64 0,.int .i64 0]) (n:=3) (m:=24) (by kernel_rfl);have i:a1 bG z4 J.size a out.length cap (oS out).flatten:=by rw [f];exact B.own
 obtain ⟨ap,dr,K,j,d,r,p⟩:=i.append (P:=prog) (t:=85) (ty:=85) Tryz.underlying85 H y (by rw [f];rfl) (by omega)
  (s:=some ⟨b,0,none⟩) (m:=1) (c:=1) (news:=x.cells) (by rw [f];rfl) (fu au (by simp [fv.cells])) (by simp [fv.cells,single]) (by omega) (by rw [q];omega)
 rw [f] at d;have G:(oS (out++[x])).flatten=(oS out).flatten++x.cells:=by simp [oS]
 refine ⟨ap,dr,K,by simpa using j,B.new.trans r λk I l=>?_,?_,λk l=>?_⟩
 ·have:=h.fresh k l;omega
 ·rw [G];simpa using d
 ·rcases p with e | e
  ·exact h.fresh k (e▸l)
  ·obtain ⟨o,D⟩:=l;rw [e] at D;simp at D;have:=h.new.size;have:=C.size;omega
theorem k0.nil (w:ak):k0 w w none 0 []:=⟨ao.refl _ _,a1.nil _ _ _,λk ⟨o,a⟩=>by cases a⟩
theorem Hb (i:Nat):∀ (j:Nat) (ls:List cA),(j' i j ls).length<=ls.length
 | _,[]=>by simp [j']
 |j,l::ls=>by have:=Hb i (j+1) ls;simp only [j',dy,hh];split<;>simp<;>omega
theorem AF {n:Nat}:∀ (i:Nat) (cs:List bh),(∀ c ∈ cs,c.az.length<=n)->(jw i cs).length<=cs.length * n
 | _,[],_=>by simp [jw]
 |i,c::cs,h=>by
  have b:=AF (i+1) cs λc a=>h c (fw _ a)
  have d:=Hb i 0 c.az;have e:=h c (eO ..);simp only [jw,dy,hh,rr,Nat.one_mul];omega
theorem AG:∀ (i:Nat) (cl:List cR),(lW i cl).length=cl.length
 | _,[]=>rfl
 |i,p::cl=>by simp [lW,AG (i+1) cl]
theorem Ks (h:b6 A aw w aJ X) (I:n9 X.pure) (X7:X.bU.length<=100000000):bb 36 [ptr aJ] w λv w'=>
  ∃ a cap,v=.slice a X.pure.dU.length cap/\k0 w w' a cap X.pure.dU:=by
 refine bd Tryz.func36 ?_;rw [ptr,Ut];have S:∀ c ∈ X.pure.aR,c.az.length<=5:=by intro c x;obtain ⟨i,X0⟩:=ei.1 x;have X5:=(I.aW i c X0).az;have X':=I.nodes;split at X5<;>omega
 have XE:X.pure.aR.length=X.aR.length:=by simp [bR.pure]
 have XZ:=AF 0 X.pure.aR S;have XY:=I.aR;have Xv:∀ (i:Nat) (c:cn),X.aR[i]?=some c->X.pure.aR[i]?=some c.pure:=λi c x=>by simp [bR.pure,x]
 refine ⟨_,_,_,h.ck.cell rfl,?_⟩;refine c8 mix (λm env u=>∃ (i:Nat) (XA:ax) (a:an) (cap:Nat) (out:List fv),i<=X.aR.length/\m=X.aR.length - i/\env=xc ⟨aJ,0,none⟩ a out.length cap (some ⟨X.aY,0,none⟩) X.aR.length X.aR.length X.aR.length i XA/\
   k0 w u a cap out/\out++jw i (X.pure.aR.drop i)=jw 0 X.pure.aR) X.aR.length ⟨0,_,none,0,[],by omega,by omega,rfl,k0.nil w,rfl⟩ ?_
 rintro m env u ⟨i,XA,a,cap,out,X0,rfl,rfl,B,o⟩;rw [Sk];refine bc (λXP=>?_) (λXP=>?_)
 ·have XH:i<X.aR.length:=by omega
  obtain ⟨c,x⟩:∃ c,X.aR[i]?=some c:=⟨X.aR[i],by simp [XH]⟩;have XB:=h.new B.new;refine ej (by omega) (by omega) ?_;rw [fD];have y:cf u ⟨X.aY,0+i * 7,none⟩ 0 c.cells:=k8 λk v al=>by have:=XB.iy x al;simpa using this
  refine ⟨_,_,_,_,_,_,_,_,_,_,_,y,?_⟩;rintro b1 w1 XC Xw;obtain ⟨au,V⟩:=bl XC Xw;refine ⟨gq (vs:=c.cells) au (by simp [cn.cells]) (by simp [cn.cells,single]),?_⟩;intro Yd Xx;obtain ⟨XV,XR⟩:=oK (vs:=c.cells) au (by simp [cn.cells]) V (by omega) Xx;clear Xw Xx au V;refine ⟨_,_,_,XV.cell (i:=2) rfl,?_⟩;have H:X.pure.aR.drop i=c.pure::X.pure.aR.drop (i+1):=by rw [yf (by omega)];congr 1;have:=Xv i c x;rw [bE (by omega)] at this;simpa using this
  rw [H] at o;have XU:c.pure.az.length=c.az.length:=by simp [cn.pure]
  have X6:=S c.pure (b5 (Xv i c x));refine c8 mix (λm env z=>∃ (j:Nat) (X1:ax) (N:an) (n:Nat) (d:List fv),j<=c.az.length/\m=c.az.length - j/\env=uy ⟨aJ,0,none⟩ N d.length n i (some ⟨X.aY,0,none⟩) X.aR.length X.aR.length X.aR.length i c.la c.az.length c.lc c.az.length j X1/\
   k0 w z N n d/\d++j' i j (c.pure.az.drop j)++jw (i+1) (X.pure.aR.drop (i+1))=jw 0 X.pure.aR) c.az.length ⟨0,_,a,cap,out,by omega,by omega,rfl,B.step XR,by rw [<-o];simp [jw]⟩ ?_
  rintro m env z ⟨j,X1,N,n,d,Ya,rfl,rfl,q,e⟩;rw [Sl];have P:=h.new q.new;have XN:d.length<=30:=by have:=congrArg List.length e;simp only [dy] at this;omega
  refine bc (λT=>?_) (λT=>?_)
  ·have XJ:j<c.az.length:=by omega
   obtain ⟨l,XM⟩:∃ l,c.az[j]?=some l:=⟨c.az[j],by simp [XJ]⟩;obtain ⟨g,R,_,_,XF,_⟩:=a1.row (P.aW i c x).own (nH c.az) (by omega) (mz XM);rw [R];refine ej (by omega) (by omega) ?_;rw [fD];refine ⟨_,_,_,_,XF,?_⟩;rintro X_ Ye XD Xy;obtain ⟨M,W⟩:=bl XD Xy;refine ⟨gq (vs:=l.cells) M (by simp [dk.cells]) (by simp [dk.cells,single]),?_⟩;intro Yf Xz;obtain ⟨XW,Y⟩:=oK (vs:=l.cells) M (by simp [dk.cells]) W (by omega) Xz;clear Xy Xz M W;refine ⟨_,XW.cell (i:=0) rfl,?_⟩;have XQ:=((P.new Y).aW i c x).lane j l XM;refine aD (ye XQ.pair) ?_;rintro v X9 ⟨rfl,rfl⟩;have G:c.pure.az.drop j=l.pure::c.pure.az.drop (j+1):=by
    rw [yf (by omega)];congr 1;have:c.pure.az[j]?=some l.pure:=by simp [cn.pure,XM]
    rw [bE (by omega)] at this;simpa using this
   rw [G] at e;have C:=q.step Y;rw [<-R];refine ⟨_,rfl,bc (λX8=>?_) (λX8=>?_)⟩
   ·have K:0<l.pure.pair.a3.length:=by show 0<l.p.a3.length;omega
    rintro X4 X2 E L;obtain ⟨ap,dr,XX,t,s⟩:=C.append ⟨-1,i,j⟩ E L (by omega);refine ⟨ap,_,dr,XX,t,?_⟩;rw [show IntKind.i64.wrap ((j:Int)+1)=((j+1:Nat):Int) by rw [bH (by omega) (by omega)];rfl];refine ⟨c.az.length - (j+1),by omega,j+1,_,ap,dr,d++[⟨-1,i,j⟩],by omega,rfl,rfl,s,?_⟩;rw [<-e];simp [j',K]
   ·have K:¬ 0<l.pure.pair.a3.length:=by show ¬ 0<l.p.a3.length;omega
    rw [show IntKind.i64.wrap ((j:Int)+1)=((j+1:Nat):Int) by rw [bH (by omega) (by omega)];rfl];refine ⟨c.az.length - (j+1),by omega,j+1,_,N,n,d,by omega,rfl,rfl,C,?_⟩;rw [<-e];simp [j',K]
  ·have XI:j=c.az.length:=by omega
   rw [SL];rw [show IntKind.i64.wrap ((i:Int)+1)=((i+1:Nat):Int) by rw [bH (by omega) (by omega)];rfl];refine ⟨X.aR.length - (i+1),by omega,i+1,_,N,n,d,by omega,rfl,rfl,q,?_⟩;rw [<-e,XI,<-XU,ru];simp [j']
 ·have XG:i=X.aR.length:=by omega
  rw [XG,<-XE,ru] at o;have J:out=jw 0 X.pure.aR:=by simpa [jw] using o
  rw [SK];have XB:=h.new B.new;refine ⟨_,_,_,XB.ck.cell (i:=3) rfl,?_⟩;have XT:X.pure.bU.length=X.bU.length:=by simp [bR.pure]
  refine c8 mix (λm env z=>∃ (i:Nat) (XA:ax) (a:an) (cap:Nat) (out:List fv),i<=X.bU.length/\m=X.bU.length - i/\env=xd a out.length cap X.dw X.bU.length X.gW X.bU.length i XA/\
   k0 w z a cap out/\out++lW i (X.pure.bU.drop i)=X.pure.dU) X.bU.length ⟨0,_,a,cap,out,by omega,by omega,rfl,B,by rw [J];rfl⟩ ?_
  rintro m env z ⟨k,Yc,X3,O,D,Yb,rfl,rfl,r,f⟩;rw [Sm];have Q:=h.new r.new;have XO:D.length<=100000030:=by have:=congrArg List.length f;simp only [dy,aE.dU,AG] at this;omega
  refine bc (λU=>?_) (λU=>?_)
  ·have XL:k<X.bU.length:=by omega
   obtain ⟨b,p,XS⟩:∃ b p,X.bU[k]?=some (b,p):=⟨X.bU[k].1,X.bU[k].2,by simp [XL]⟩;have Z:=(Q.eC _ (b5 XS)).1;refine s9 (v:=ptr b) (i:=k) Q.gb (by simp [XS]) rfl λbx F _=>⟨some ⟨b,0,none⟩,F,?_⟩
   refine aD (KL Z) ?_;rintro v X9 ⟨rfl,rfl⟩;refine ⟨_,rfl,?_⟩;refine aD (D9 Z) ?_;rintro v X2 ⟨rfl,rfl⟩;refine ⟨_,rfl,?_⟩;rintro X4 X2 E L;obtain ⟨ap,dr,XX,t,s⟩:=r.append ⟨k,p.aW,p.node⟩ E L (by omega);refine ⟨ap,_,dr,XX,t,?_⟩;rw [show IntKind.i64.wrap ((k:Int)+1)=((k+1:Nat):Int) by rw [bH (by omega) (by omega)];rfl];refine ⟨X.bU.length - (k+1),by omega,k+1,_,ap,dr,_,by omega,rfl,rfl,s,?_⟩;have G:X.pure.bU.drop k=p.pure::X.pure.bU.drop (k+1):=Dk (by simp [bR.pure,XS]);rw [<-f,G];rw [lW,lF];rfl
  ·have XK:k=X.bU.length:=by omega
   rw [XK,<-XT,ru] at f;have:D=X.pure.dU:=by simpa [lW] using f
   subst this;rw [SM];exact ⟨X3,O,rfl,r⟩
end
section
def ij (ls:List dk):List (Nat×dF):=(ls.filter λl=>decide (0<l.p.a3.length)).map λl=>(l.pb,l.p)
theorem Dl (l:dk) (ls:List dk):ij (l::ls)=if 0<l.p.a3.length then (l.pb,l.p)::ij ls else ij ls:=by
 unfold ij;rw [List.filter_cons];by_cases h:0<l.p.a3.length
 ·simp [h]
 ·simp [h]
theorem Lz (ls:List dk):(ij ls).map (λp=>p.2.pure)=((ls.map dk.pure).map cA.pair).filter λp=>decide (0<p.a3.length):=by
 induction ls with
 |nil=>rfl
 |cons l ls a=>
  rw [Dl,gj,gj,List.filter_cons];have:l.pure.pair.a3=l.p.a3:=rfl;rw [this,<-a];by_cases h:0<l.p.a3.length
  ·simp [h];rfl
  ·simp [h]
theorem DY {x:Nat×dF} (h:x ∈ ij ls):∃ (j:Nat) (l:dk),ls[j]?=some l/\x=(l.pb,l.p)/\0<l.p.a3.length:=by simp only [ij,cZ,tp,decide_eq_true_eq] at h;obtain ⟨l,⟨a,b⟩,c⟩:=h;obtain ⟨j,d⟩:=ei.1 a;exact ⟨j,l,d,c.symm,b⟩
def p3 (i:Nat) (ls:List dk):Tag->Tag
 | .lane c n=>if c=i then (match ls[n]? with
  |some l=>if 0<l.p.a3.length then .gX l.pb else .lane c n
  |none=>.lane c n) else .lane c n
 |t=>t
theorem IS (h:∀ n,t≠.lane i n):p3 i ls t=t:=by
 cases t with
 |lane c n=>simp only [p3];rw [if_neg];rintro rfl;exact h n rfl
 | _=>rfl
theorem B5 (h:p3 i ls t≠.cx):t≠.cx:=by rintro rfl;exact h rfl
theorem Jt {n:Nat} {l:dk} (a:ls[n]?=some l) (b:0<l.p.a3.length):p3 i ls (.lane i n)=.gX l.pb:=by simp [p3,a,b]
structure CR (A:a6) (aw:Nat->Tag) (w:ak) (aJ:Nat) (X:bR) (c:cn) (k:Nat) (u:ak) (dw:an) (gW:Nat) (os:List (Nat×dF)):Prop where
 aA:ao (λz=>aw z=.ck\/aw z=.gb) w u
 ck:av u aJ (X.cells.set 3 (.slice dw os.length gW)) lO
 own:a1 u oo 1 dw os.length gW (os.map λp=>ptr p.1)
 tag:∀ z,aL dw z->aw z=.gb\/w.heap.size<=z
 eq:os++ij (c.az.drop k)=X.bU++ij c.az
theorem LA (h:b6 A aw w aJ X) (Z:n9 X.pure) (X9:X.bU.length<=100000000) (XU:X.aR[i]?=some c)
  {j:ax} {R:cz} (X5:∀ u dw gW os,CR A aw w aJ X c c.az.length u dw gW os->∀ XC,W prog (sub (bn f22) [1,1,1,1]) (At (some ⟨X.aY,0+i * 7,none⟩) XC) (dC prog f22 R) u) :
  cG prog (.loop (sub (bn f22) [1,1,1,0,1,0,0])) (sm ⟨aJ,0,none⟩ (some ⟨X.aY,0+i * 7,none⟩) c.la c.az.length c.lc c.az.length 0 j)
   (aP 0 (aZ (λenv w=>W prog (sub (bn f22) [1,1,1,1]) env (dC prog f22 R) w) (dC prog f22 R))) w:=by
 have XJ:=Z.aW i c.pure (by simp [bR.pure,XU]);have X8:=Z.nodes;have X7:c.az.length<=5:=by
  have X4:=XJ.az;have:c.pure.az.length=c.az.length:=by simp [cn.pure]
  split at X4<;>omega
 have XP:∀ ls:List dk,(ij ls).length<=ls.length:=λls=>by simp [ij];exact vA _ _
 have XX:=XP c.az;refine c8 mix (λm env u=>∃ (k:Nat) (XC:ax) (dw:an) (gW:Nat) (os:List (Nat×dF)),k<=c.az.length/\m=c.az.length - k/\env=sm ⟨aJ,0,none⟩ (some ⟨X.aY,0+i * 7,none⟩) c.la c.az.length c.lc c.az.length k XC/\CR A aw w aJ X c k u dw gW os) c.az.length
  ⟨0,_,X.dw,X.gW,X.bU,by omega,by omega,rfl,ao.refl _ _,h.ck,h.gb,λz au=>.inl (h.ki z au),rfl⟩ ?_
 rintro m env u ⟨k,XC,dw,gW,os,Yb,rfl,rfl,a'⟩;rw [S6];have XW:os.length<=100000005:=by have:=congrArg List.length a'.eq;simp only [dy] at this;omega
 refine bc (λU=>?_) (λU=>?_)
 ·have XM:k<c.az.length:=by omega
  obtain ⟨l,XN⟩:∃ l,c.az[k]?=some l:=⟨c.az[k],by simp [XM]⟩;have F:=h.aW i c XU;have Xv:a1 u lP 2 c.la c.az.length c.lc (hc c.az).flatten:=F.own.aA a'.aA λz au=>by rw [F.tag z au];simp
  obtain ⟨g,Q,_,_,XL,_⟩:=a1.row Xv (nH c.az) (by omega) (mz XN);have V:=F.lane k l XN;rw [Q];refine ej (by omega) (by omega) ?_;rw [fD];refine ⟨_,_,_,_,XL,?_⟩;rintro X2 Yc XG Xx;obtain ⟨M,Y⟩:=bl XG Xx;refine ⟨gq (vs:=l.cells) M (by simp [dk.cells]) (by simp [dk.cells,single]),?_⟩;intro XY Xy;obtain ⟨XB,x⟩:=oK (vs:=l.cells) M (by simp [dk.cells]) Y (by omega) Xy;clear Xx Xy M Y;refine ⟨_,XB.cell (i:=0) rfl,?_⟩;have D:ao (λz=>aw z=.ck\/aw z=.gb) w XY:=a'.aA.new x;have XO:dM A XY l.pb l.p:=V.pair.aA D (λz au=>by rw [V.tag z au];simp) (λz au=>h.e9 z (by rcases au with e | e<;>rw [e]<;>simp));refine aD (ye XO) ?_;rintro v Ya ⟨rfl,rfl⟩;have XK:=Dk XN;have heq:=a'.eq;rw [XK,Dl] at heq;rw [<-Q];have b:=ai.aj x a'.ck;have q:=a'.own.new x;refine ⟨_,rfl,bc (λX_=>?_) (λX_=>?_)⟩
  ·have K:0<l.p.a3.length:=by omega
   rw [if_pos K] at heq;intro XZ Xz;have y:ai Ya XZ:=by rw [Xz];exact cK _
   clear Xz;have d:=ai.aj y b;have XQ:=ai.aj y XB;have I:=q.new y;have O:¬ aL dw aJ:=λXF=>by
    rcases a'.tag aJ XF with e | e
    ·rw [h.gT] at e;cases e
    ·have:=h.ck.lt;omega
   have N:¬ aL dw X2:=λXF=>by have:=a'.own.lt XF;omega
   refine ⟨λz=>ao (aL dw) XZ z,ao.refl _ _,_,_,_,λz au=>(au.aj d O).cell (i:=3) rfl,_,λz au=>(au.aj XQ N).cell (i:=0) rfl,?_⟩;rintro X3 X0 XH XA;obtain ⟨XR,f⟩:=bl XH XA;clear XA;refine ⟨ao.b9 f,?_⟩;obtain ⟨X',X6,XS,B,XI⟩:=fV (T:=103) (z:=.pointer none) (n:=1) (m:=8) (by kernel_rfl);have J:a1 X0 oo X'.size dw os.length gW (os.map λp=>ptr p.1):=by rw [B];exact I.new f
   obtain ⟨ap,dr,XT,Xw,r,H,XE⟩:=J.append (P:=prog) (t:=106) (ty:=106) Tryz.underlying106 X6 XS (by rw [B];rfl) (by omega)
    (s:=some ⟨X3,0,none⟩) (m:=1) (c:=1) (news:=[ptr l.pb]) (by rw [B];rfl) (fu XR (by simp [ptr])) (by simp [ptr,single]) (by omega) (by rw [XI];omega)
   rw [B] at r;have a:av XT aJ (X.cells.set 3 (.slice dw os.length gW)) lO:=H.aj (ai.aj f d) O;refine ⟨ap,_,dr,XT,Xw,(ao.b9 f).trans H λ_ _ h=>h,⟨_,a.cell (i:=3) rfl⟩,a.frozen,?_⟩;intro X1 L;have S:ao (λz=>z=aJ) XT X1:=by rw [L];exact eX _ _ _ _
   have G:av X1 aJ (X.cells.set 3 (.slice ap (os.length+1) dr)) lO:=by rw [L];have:=a.setCell (i:=3) (.slice ap (os.length+1) dr);rw [List.set_set] at this;exact this
   clear L;have E:ai u X0:=(x.new y).new f;have C:∀ z,aL ap z->aw z=.gb\/w.heap.size<=z:=by
    intro z au;rcases XE with e | e
    ·exact a'.tag z (e▸au)
    ·obtain ⟨o,XV⟩:=au;rw [e] at XV;simp at XV;have:=a'.aA.size;have:=E.size;exact .inr (by omega)
   rw [show IntKind.i64.wrap ((k:Int)+1)=((k+1:Nat):Int) by rw [bH (by omega) (by omega)];rfl];refine ⟨c.az.length - (k+1),by omega,k+1,_,ap,dr,os++[(l.pb,l.p)],by omega,rfl,rfl,?_,?_,?_,C,?_⟩
   ·refine ((a'.aA.new E).trans H λz U au=>?_).trans S λz _ e=>.inl (by rw [e];exact h.gT)
    rcases a'.tag z au with e | e
    ·exact .inr e
    ·omega
   ·simpa using G
   ·have:=r.aA S (λz au e=>?_)
    ·simpa using this
    ·rcases C z au with XD | XD
     ·rw [e,h.gT] at XD;cases XD
     ·have:=h.ck.lt;omega
   ·rw [<-heq];simp
  ·have K:¬ 0<l.p.a3.length:=by omega
   rw [if_neg K] at heq;rw [show IntKind.i64.wrap ((k:Int)+1)=((k+1:Nat):Int) by rw [bH (by omega) (by omega)];rfl];exact ⟨c.az.length - (k+1),by omega,k+1,_,dw,gW,os,by omega,rfl,rfl,D,b,q,a'.tag,heq⟩
 ·have:k=c.az.length:=by omega
  subst this;exact X5 u dw gW os a' _
theorem NI (ls:List dk):((ij ls).map Prod.fst).Sublist (ls.map dk.pb):=by
 have:(ij ls).map Prod.fst=(ls.filter λl=>decide (0<l.p.a3.length)).map dk.pb:=by simp [ij,Function.comp_def]
 rw [this];exact (List.filter_sublist).map _
def pX (i:Nat) (t:Tag):Prop:=t=.ck\/t=.gb\/t=.aR\/iO i t
open Classical in
theorem b6.die (h:b6 A aw w aJ X) (g:X.aR[i]?=some c) {dw:an} {gW:Nat}
  (d:ao (λz=>aw z=.ck\/aw z=.gb\/aw z=.aR) w w') (K:av w' aJ (X.cells.set 3 (.slice dw (X.bU++ij c.az).length gW)) lO) (F:a1 w' oo 1 dw (X.bU++ij c.az).length gW ((X.bU++ij c.az).map λp=>ptr p.1))
  (C:∀ z,aL dw z->aw z=.gb\/w.heap.size<=z) {c':cn} (N:c'.az=[]/\c'.la=none/\c'.lc=0/\c'.dm=none/\c'.raw=[]/\c'.batch=[]) (f:av w' X.aY (fL (X.aR.set i c')).flatten j8) :
  ∃ A' χ',Next A A' aw χ' w w'/\b6 A' χ' w' aJ { X with aR:=X.aR.set i c',bU:=X.bU++ij c.az,dw:=dw,gW:=gW }:=by
 let χ':Nat->Tag:=λk=>if aL dw k then .gb else p3 i c.az (aw k)
 have t1:∀ k,aL dw k->χ' k=.gb:=λk d=>if_pos d
 have t2:∀ k,¬ aL dw k->χ' k=p3 i c.az (aw k):=λk d=>if_neg d
 have Xx:∀ k,k<w.heap.size->χ' k≠.cx->aw k≠.cx:=by
  intro k E s;by_cases f:aL dw k
  ·rcases C k f with e | e
   ·rw [e];simp
   ·omega
  ·rw [t2 k f] at s;exact B5 s
 have Xz:∀ k,k<w.heap.size->¬ pX i (aw k)->aw k≠.cx->χ' k=aw k:=by
  intro k E V _;by_cases f:aL dw k
  ·rcases C k f with e | e
   ·exact absurd (.inr (.inl e)) V
   ·omega
  ·rw [t2 k f];exact IS λn e=>V (.inr (.inr (.inr (by rw [e];rfl))))
 obtain ⟨m,aU⟩:=h.move (T:=pX i) (χ':=χ') (w':=w') (d.mono λk _ g=>by rcases g with e | e | e<;>simp [pX,e]) (by simp [pX,iO]) Xx Xz;have f2:=a1.cU m h.nodes h.jY (by simp [pX,iO]) (by simp);have s:=h.aW i c g;have B:∀ k,k<w.heap.size->aw k≠.gb->¬ aL dw k:=λk E P f=>by
  rcases C k f with e | e
  ·exact P e
  ·omega
 have H:∀ (j:Nat) (l:dk),c.az[j]?=some l->aw l.pb=.lane i j:=λj l D=>(s.lane j l D).tag _ (.inl rfl)
 refine ⟨_,χ',aU,m.mo,λk g=>?_,?_,?_,f2.1,f2.2,λq z au=>(h.node q z au).cU m (by simp [pX,iO]) (by simp [pX,iO]),f,?_,λq z au=>?_,F,t1,λx G=>?_,?_⟩
 ·rcases g with g | g
  ·by_cases f:aL dw k
   ·exact F.lt f
   ·rw [t2 k f] at g;exact gi (h.jV (B5 g)) d.size
  ·exact gi g.1 d.size
 ·simpa [bR.cells] using K
 ·rw [t2 aJ (B aJ h.ck.lt (by rw [h.gT];simp)),h.gT];rfl
 ·show χ' X.aY=_;rw [t2 _ (B _ h.cls.lt (by rw [h.fk];simp)),h.fk];rfl
 ·simp only [im] at au;split at au
  ·rename_i he;subst he;split at au
   ·simp only [fg] at au;subst au;obtain ⟨Q,R,Y,Z,S,U⟩:=N;refine ⟨?_,λk d=>?_,λj l D=>?_,λ_=>⟨S,U⟩,λb J=>?_,?_⟩
    ·rw [Q,R,Y];exact a1.nil _ _ _
    ·rw [R] at d;obtain ⟨o,Xy⟩:=d;cases Xy
    ·rw [Q] at D;simp at D
    ·rw [Z] at J;cases J
    ·rw [S,U];exact ⟨rfl,λ_ _ _ g=>by simp at g⟩
   ·cases au
  ·rename_i he;refine (h.aW q z au).cU m λt r I=>?_
   rcases I with e | e | e | e
   ·rw [e] at r;cases r
   ·rw [e] at r;cases r
   ·rw [e] at r;cases r
   ·exact E4 he t r (.inr e)
 ·rcases iq.1 G with G | G
  ·exact dM.cU m (h.eC x G).1 (h.eC x G).2 (by simp [pX,iO]) (by simp)
  ·obtain ⟨j,l,D,rfl,W⟩:=DY G;have u:=s.lane j l D;have O:∀ k,l.p.mut l.pb k->k<w.heap.size:=λk d=>h.jV (by rw [u.tag k d];simp)
   have L:∀ k,l.p.mut l.pb k->χ' k=.gX l.pb:=λk d=>by rw [t2 k (B k (O k d) (by rw [u.tag k d];simp)),u.tag k d];exact Jt D W
   refine ⟨?_,L⟩;refine (u.pair.mO (λk E Xv=>m.old k E Xv) (λk d=>m.mo k (by rw [L k d];simp))).aA d (λk d g=>?_) (λk g=>m.mo k ?_)
   ·rw [u.tag k d] at g;rcases g with e | e | e<;>cases e
   ·by_cases f:aL dw k
    ·rw [t1 k f];simp
    ·rw [t2 k f];rcases g with e | e | e<;>rw [e]<;>simp [p3]
 ·show ((X.bU++ij c.az).map Prod.fst).Nodup;rw [jn,List.nodup_append];refine ⟨h.nodup,(NI c.az).nodup ?_,?_⟩
  ·refine BA.2 λa b M f Xw he=>?_
   simp only [fZ] at M f;simp only [List.getElem_map] at he;have r:=H a _ (bE M);have I:=H b _ (bE f);rw [he,I] at r;simp at r <;> omega
  ·intro a M b f he;obtain ⟨x,G,rfl⟩:=cZ.1 M;obtain ⟨y,XA,rfl⟩:=cZ.1 f;obtain ⟨j,l,D,rfl,W⟩:=DY XA;have r:=(h.eC x G).2 x.1 (.inl rfl);have I:=H j l D;rw [he,I] at r;cases r
theorem Fb (h:b6 A aw w aJ X) (N:n9 X.pure) (M:X.bU.length<=100000000) (c:Int):bb 22 [ptr aJ,.int .i64 c] w λv w'=>
  v=.bool (X.pure.die c).1/\dR A aw w aJ (X.pure.die c).2 w' λ_=>True:=by
 refine bd Tryz.func22 ?_;rw [ptr,VG];refine aD (DV h c) ?_;rintro v w1 ⟨rfl,rfl⟩;rcases X.sk c with ⟨n,D⟩ | ⟨i,x,rfl,n,D⟩
 ·have aq:X.pure.die c=(false,X.pure):=by simp [aE.die,n]
  have F:X.pure.alive c=false:=by simp [aE.alive,n]
  rw [aq,F];exact ⟨_,rfl,rfl,dR.same h (ao.refl _ _) trivial⟩
 ·have F:X.pure.alive i=x.alive:=by simp [aE.alive,D,cn.pure]
  rw [F];refine ⟨_,rfl,ev (λV=>?_) (λW=>?_)⟩
  ·have aq:X.pure.die i=(false,X.pure):=by simp [aE.die,D,cn.pure,V]
   rw [aq];exact ⟨rfl,dR.same h (ao.refl _ _) trivial⟩
  refine aD (sC h n) ?_;rintro v Y ⟨rfl,rfl⟩;have aq:X.pure.die i=(true,{ X.pure with bU:=X.pure.bU++(x.pure.az.map cA.pair).filter (λp=>decide (0<p.a3.length)),aR:=X.pure.aR.set i { x.pure with alive:=false,az:=[],batch:=none,waiting:=0 } }):=by simp [aE.die,D,cn.pure,W]
  rw [aq];refine ⟨_,rfl,_,_,_,h.iy (k:=2) n rfl,?_⟩;refine LA h N M n ?_;intro u dw gW os a' Z;rw [TX];have O:os=X.bU++ij x.az:=by have:=a'.eq;rw [ru] at this;simpa [ij] using this
  subst O;have g:av u X.aY (fL X.aR).flatten j8:=a'.aA.aj h.cls (by rw [h.fk];simp);refine ⟨⟨_,lv (k:=0) g n rfl⟩,g.frozen,?_⟩;intro P C;obtain ⟨a,o⟩:=lh (k:=0) (c':={ x with alive:=false }) g n (by omega) (v:=.bool false) (by simp [cn.cells]);have l:P=u.setCell ⟨X.aY,0+i * 7+0,none⟩ (.bool false):=C;rw [<-l] at a;have H:ao (λz=>z=X.aY) u P:=by rw [l];exact eX _ _ _ _
  clear C l;refine ⟨⟨_,lv (k:=2) a o rfl⟩,a.frozen,?_⟩;intro S t;obtain ⟨b,q⟩:=lh (k:=2) (c':={ x with alive:=false,az:=[],la:=none,lc:=0 }) a o (by omega) (v:=.slice none 0 0) (by simp [cn.cells]);rw [<-t] at b;have I:ao (λz=>z=X.aY) P S:=by rw [t];exact eX _ _ _ _
  clear t;refine ⟨⟨_,lv (k:=3) b q rfl⟩,b.frozen,?_⟩;intro T y;obtain ⟨d,r⟩:=lh (k:=3) (c':={ x with alive:=false,az:=[],la:=none,lc:=0,dm:=none,raw:=[],batch:=[] }) b q (by omega) (v:=.slice none 0 0) (by simp [cn.cells]);rw [<-y] at d;have J:ao (λz=>z=X.aY) S T:=by rw [y];exact eX _ _ _ _
  clear y;refine ⟨⟨_,lv (k:=4) d r rfl⟩,d.frozen,?_⟩;intro Q B;obtain ⟨f,R⟩:=lh (k:=4) (c':={ x with alive:=false,az:=[],la:=none,lc:=0,dm:=none,raw:=[],batch:=[],waiting:=0 }) d r (by omega) (v:=.int .i64 0) (by simp [cn.cells]);rw [<-B] at f;have K:ao (λz=>z=X.aY) T Q:=by rw [B];exact eX _ _ _ _
  clear B;rw [jv,jv,jv] at f;have j:ao (λz=>z=X.aY) u Q:=((H.trans I λ_ _ h=>h).trans J λ_ _ h=>h).trans K λ_ _ h=>h
  have s:ao (λz=>aw z=.ck\/aw z=.gb\/aw z=.aR) Y Q:=(a'.aA.mono λz _ au=>au.elim .inl λe=>.inr (.inl e)).trans j λz _ e=>.inr (.inr (by rw [e];exact h.fk))
  have L:∀ z,aL dw z->z≠X.aY:=λz au e=>by
   rcases a'.tag z au with E | E
   ·rw [e,h.fk] at E;cases E
   ·have:=h.cls.lt;omega
  have G:aJ≠X.aY:=λe=>by have:=h.gT;rw [e,h.fk] at this;cases this
  obtain ⟨A',χ',aU,U⟩:=h.die (c':={ x with alive:=false,az:=[],la:=none,lc:=0,dm:=none,raw:=[],batch:=[],waiting:=0 }) n s (j.aj a'.ck G) (a'.own.aA j L) a'.tag ⟨rfl,rfl,rfl,rfl,rfl,rfl⟩ f;refine ⟨rfl,A',χ',_,aU,U,?_,trivial⟩;simp only [bR.pure,jn,iH,Lz];rfl
end
end Go.Proofs.YtmkljjbioomepaaGreat
