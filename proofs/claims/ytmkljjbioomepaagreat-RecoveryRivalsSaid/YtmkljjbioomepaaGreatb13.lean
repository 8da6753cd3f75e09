import Derived.Test.YtmkljjbioomepaaGreatb12
set_option linter.all false
set_option maxHeartbeats 4000000
set_option maxRecDepth 100000
namespace Go.Proofs.YtmkljjbioomepaaGreat
open Go.Proofs.Tryz Go.bu
variable {A:a3} {X:bL} {c:ck} {aI i:Nat} {ls:List dn} {t:Tag} {w w':ak} {aw:Nat->Tag}
section
abbrev zM:TypeId:=89
def fo.cells (x:fo):ax:=[.int .i64 x.ez,.int .i64 x.a1,.int .i64 x.node]
def fo.val (x:fo):a2:=.agg x.cells.toArray
theorem Lu (C:bU) (j:Nat) (l:cS) (p:dg) (a:Option aO) (b:j<C.aD.length) :
  ({ C with aD:=C.aD.set j ⟨p,l.bR⟩ }:bU).ur j p l.bR a=C.comes j l p a:=by
 cases a with
 |none=>rfl
 |some x=>simp [bU.ur,bU.comes]
theorem G8:∀ {l:cP} {x:Nat},x ∈ l->x<=l.sum
 |y::l,x,h=>by
  rw [jR];rcases e6.1 h with rfl | h
  ·omega
  ·have:=G8 h;omega
theorem b2.AN (h:b2 A aw w aI X) (b:ai w w'):b2 (λk=>A k\/(w.heap.size<=k/\k<w'.heap.size)) aw w' aI X:=by
 have m:ll (λ_=>False) A (λk=>A k\/(w.heap.size<=k/\k<w'.heap.size)) aw aw w w':=⟨b,id,h.e9,λk e a=>a.elim id (λa=>by omega),λ_ _ _ _=>rfl,λk a=>.inl (h.e9 k a)⟩;have g:=b.size;refine ⟨m.ma,λk a=>a.elim (λa=>by have:=h.low k a;omega) (λa=>a.2),ai.aj b h.cd,h.gH,h.nodes.new b,h.jJ,λi x f=>(h.node i x f).cM m id id,ai.aj b h.cls,h.fg,
  λi c a=>(h.a1 i c a).cM m λ_ _=>id,h.fZ.new b,h.j_,λp d=>⟨(dK.cM m (h.ez p d).1 (h.ez p d).2 id (by simp)).1,(h.ez p d).2⟩,h.nodup⟩
theorem yV (h:b2 A aw w aI X) (WV:nR X.pure) (x:fo):a9 37 [ptr aI,x.val] w λv w'=>
  v=.bool (X.pure.step x).1/\dT A aw w aI (X.pure.step x).2 w' λ_=>True:=by
 refine bc Tryz.func37 ?_;refine Eq.mpr (TV aI x.ez x.a1 x.node w _) ?_;rintro b1 w1 Xd WY;obtain ⟨H,E⟩:=bl Xd WY;clear WY;have V5:=h.new E;have H:av w1 b1 x.cells zM:=H;refine ⟨_,H.cell (i:=0) rfl,a8 (λXN=>?_) (λXN=>?_)⟩
 ·obtain ⟨i,XE⟩:∃ i:Nat,x.ez=i:=⟨x.ez.toNat,by omega⟩;have Wx:X.pure.step x=X.pure.iZ i:=by unfold aN.step;rw [if_pos (by omega),XE];rfl
  refine ⟨_,H.cell (i:=0) rfl,?_⟩;rw [XE];refine aC (H' V5 WV i) ?_;rintro v XZ ⟨rfl,XW⟩;refine ⟨_,rfl,?_⟩;rw [Wx];exact ⟨rfl,dT.trans (h.refl E) XW⟩
 refine ⟨_,H.cell (i:=0) rfl,a8 (λW5=>?_) (λW5=>?_)⟩
 ·have Wx:X.pure.step x=(false,X.pure):=by unfold aN.step;rw [if_neg (by omega),if_pos W5]
  rw [Wx];exact ⟨rfl,dT.same h E trivial⟩
 have a:X.pure.step x=match X.pure.dm x.a1 with
  |none=>(false,X.pure)
  |some C=>if x.node<0 then (false,X.pure) else match C.aD[x.node.toNat]?,X.pure.nodes[x.node.toNat]? with
   |some l,some n=>if l.pair.ba.length=0 then (false,X.pure) else
    (true,{ X.pure with nodes:=X.pure.nodes.set x.node.toNat (l.pair.step n).2.1,aV:=X.pure.aV.set x.a1.toNat (C.comes x.node.toNat l (l.pair.step n).1 (l.pair.step n).2.2) })
   | _,_=>(false,X.pure):=by
  unfold aN.step;rw [if_neg (by omega),if_neg W5];rfl
 refine ⟨_,H.cell (i:=1) rfl,?_⟩;rcases X.r' x.a1 with ⟨XL,ig⟩ | ⟨i,c,cA,s,ig⟩
 ·refine aC (uF V5 ig) ?_;rintro v XI ⟨rfl,rfl⟩;rw [XL] at a;refine ⟨_,rfl,?_⟩;intro Xy V_;refine ⟨λ_=>True,trivial,?_⟩
  rw [a];exact ⟨rfl,dT.same h (E.new (by rw [V_];exact cE _)) trivial⟩
 have Xv:=cb s;rw [cA];refine aC (sr V5 s) ?_;rintro v XI ⟨rfl,rfl⟩;rw [ig] at a;refine ⟨_,rfl,?_⟩;intro Xy V_;have K:ai XI Xy:=by rw [V_];exact cE _
 clear V_;have J:=V5.new K;have V6:=ai.aj K H;refine ⟨λu=>ai Xy u,ao.refl _ _,?_⟩;refine ⟨_,λu hu=>(ai.aj hu V6).cell (i:=2) rfl,a8 (λW6=>?_) (λW6=>?_)⟩
 ·simp only [if_pos W6] at a;rw [a];exact ⟨rfl,dT.same h (E.new K) trivial⟩
 simp only [if_neg W6] at a;obtain ⟨j,Xn⟩:∃ j:Nat,x.node=j:=⟨x.node.toNat,by omega⟩;have Xo:x.node.toNat=j:=by omega
 rw [Xo] at a;have V8:=WV.a1 i c.pure (by simp [bL.pure,s]);refine ⟨_,λu hu=>(ai.aj hu V6).cell (i:=2) rfl,?_⟩;refine ⟨_,_,_,λu hu=>(J.new hu).ih (k:=2) s rfl,a8 (λW7=>?_) (λW7=>?_)⟩
 ·have e:c.pure.aD[j]?=none:=lv (by
   have:c.pure.aD.length=c.aD.length:=by simp [ck.pure]
   have W8:x.node>=(c.aD.length:Int):=W7;omega)
  simp only [e] at a;rw [a];exact ⟨rfl,dT.same h (E.new K) trivial⟩
 have W8:¬ x.node>=(c.aD.length:Int):=W7;have Ws:j<c.aD.length:=by omega
 obtain ⟨l,Wt⟩:∃ l,c.aD[j]?=some l:=⟨c.aD[j],by simp [Ws]⟩;have WO:j<X.nodes.length:=by
  have XP:=V8.aD;have XA:c.pure.aD.length=c.aD.length:=by simp [ck.pure]
  have XB:X.pure.nodes.length=X.nodes.length:=by simp [bL.pure]
  split at XP<;>omega
 obtain ⟨y,WA⟩:∃ y,X.nodes[j]?=some y:=⟨X.nodes[j],by simp [WO]⟩;have Wr:c.pure.aD[j]?=some l.pure:=by simp [ck.pure,Wt]
 have W4:X.pure.nodes[j]?=some y.n:=by simp [bL.pure,WA]
 simp only [Wr,W4] at a;have Wu:=V8.lane j l.pure Wr;refine ⟨_,_,_,λu hu=>(J.new hu).ih (k:=2) s rfl,_,λu hu=>(ai.aj hu V6).cell (i:=2) rfl,?_⟩;obtain ⟨g,U,XV,⟨XM,XT⟩,XU,WN⟩:=a0.row (J.a1 i c s).own (nu c.aD) (by omega) (ml Wt);have Xm:aw g=.aD i:=(J.a1 i c s).tag g ⟨0,U⟩;show bm c.la c.aD.length x.node 2 _;rw [U,Xn];refine ee (by omega) (by omega) ?_;rw [fU];refine ⟨some ⟨l.pb,0,none⟩,λu hu=>jE hu (WN 0 _ rfl) id,?_⟩;refine aC (xX ((J.a1 i c s).lane j l Wt).pair) ?_;rintro v XJ ⟨rfl,rfl⟩;refine ⟨_,rfl,ao.refl _ _,dY (λXQ=>?_) (λXQ=>?_)⟩
 ·have:l.pure.pair.ba.length=0:=by show l.p.ba.length=0;omega
  rw [if_pos this] at a;rw [a];exact ⟨rfl,dT.same h (E.new K) trivial⟩
 have Wi:¬ l.pure.pair.ba.length=0:=by show ¬ l.p.ba.length=0;omega
 rw [if_neg Wi] at a;intro Xz WZ;have Wv:ai XJ Xz:=by rw [WZ];exact cE _
 clear WZ;have WF:=J.new Wv;have WJ:=ai.aj Wv V6;refine ⟨λu=>ai Xz u,ao.refl _ _,_,_,_,λu hu=>(WF.new hu).ih (k:=2) s rfl,_,λu hu=>(ai.aj hu WJ).cell (i:=2) rfl,?_⟩;show bm c.la c.aD.length x.node 2 _;rw [U,Xn];refine ee (by omega) (by omega) ?_;rw [fU];intro N W0;have Ww:ai Xz N:=by rw [W0];exact cE _
 clear W0;have t:=WF.new Ww;have Xg:=ai.aj Ww WJ;have Wh:ai XJ N:=Wv.new Ww;have WS:ai w N:=(E.new K).new Wh;have WI:aw b1=.cu:=h.fresh (by omega);have WL:=t.a1 i c s;have Wg:=WL.lane j l Wt;have XG:=t.node j y WA;refine ⟨λu=>ao (λk=>h5 i j j (aw k)) N u,ao.refl _ _,some ⟨l.pb,0,none⟩,λu hu=>jE hu (jE Wh (WN 0 _ rfl) id) (by show ¬ h5 i j j (aw g);rw [Xm];simp [h5]),?_⟩;refine ⟨_,_,_,λu hu=>(hu.aj t.cd (by rw [t.gH];simp [h5])).cell (i:=1) rfl,_,λu hu=>(hu.aj Xg (by rw [WI];simp [h5])).cell (i:=2) rfl,?_⟩;refine s0 (v:=ptr y.b) (i:=j) t.nodes (by simp [WA]) Xn λXK V7 WH=>⟨some ⟨y.b,0,none⟩,λu hu=>jE hu V7 ?_,?_⟩
 ·obtain ⟨XC,Xk,rfl⟩:=WH;show ¬ h5 i j j (aw XC);rw [t.jJ XC ⟨0,Xk⟩];simp [h5]
 have V4:c.waiting<=1024:=by have XR:=V8.batch;have e:c.pure.waiting=c.waiting:=rfl;omega
 have B:l.bR.length=l.p.ba.length:=Wu.bR;have WW:∀ XH:Option aO,XH.isSome=true->∃ dk WB ch,l.bR=WB::ch/\WB<c.raw.length/\c.dk=some dk/\0<c.waiting:=by
  intro XH _;cases WX:l.bR with
  |nil=>rw [WX] at B;exact absurd B.symm (by show ¬ l.p.ba.length=0;omega)
  |cons WB ch=>
   have W:=Wu.low WB (by show WB ∈ l.bR;rw [WX];simp);have Xh:=h.a1 i c s;cases WK:c.dk with
   |none=>simp [ck.pure,WK] at W
   |some dk=>
    simp [ck.pure,WK] at W;refine ⟨dk,WB,ch,rfl,by rw [Xh.ds.1];exact W,rfl,?_⟩;have XR:=V8.waiting;have e:c.pure.waiting=c.waiting:=rfl;have XX:l.p.ba.length<=g2 c.pure.aD:=by unfold g2;exact G8 (cT.2 ⟨l.pure,b7 Wr,rfl⟩)
    have XO:l.p.ba.length≠0:=Wi;omega
 have V2:∀ (lz:a3) q r Wq (WU:b2 lz aw q aI X),yc lz l.pb y.b y.aJ l.p y.n q r Wq->∃ G F d p',r=.tuple #[d.val,.bool (l.p.pure.step y.n).2.2.isSome]/\Next lz G aw F q Wq/\
   b2 G F Wq aI { X with nodes:=X.nodes.set j { y with n:=(l.p.pure.step y.n).2.1 },aV:=X.aV.set i { c with aD:=c.aD.set j { l with p:=p' } } }/\p'.pure=(l.p.pure.step y.n).1/\
   ao (λk=>h5 i j j (aw k)) q Wq/\(∀ x,(l.p.pure.step y.n).2.2=some x->lf G Wq d x):=by
  intro lz q r Wq f WG;have Y:=(f.a1 i c s).lane j l Wt;have L:=f.node j y WA;obtain ⟨χ',d,p',rfl,I,V9,WP,Xl,Xs,Xp,Xt,Xb,Xi⟩:=B8 Y.pair Y.tag (by simp) (λk s=>f.jH s) f.e9 L.jQ WG;obtain ⟨aP,W_⟩:=f.GO s Wt WA WP Xl Xs Xp V9 Xb Xt;exact ⟨_,_,d,p',rfl,aP,W_,I,WP,Xi⟩
 have T:∀ (lz:a3) q,b2 lz aw q aI X->a9 70 [.pointer (some ⟨l.pb,0,none⟩),.pointer (some ⟨y.b,0,none⟩)] q (yc lz l.pb y.b y.aJ l.p y.n q):=by intro lz q f;have Y:=(f.a1 i c s).lane j l Wt;have L:=f.node j y WA;exact DG Y.pair L.node (f.e9 _ (by rw [L.jQ];simp)) (f.e9 _ (by rw [L.tag];simp)) (λXS=>by have:=Y.tag _ (.inr (.inr XS));rw [L.jQ] at this;cases this) Wu.hO
 have Wd:∀ D aA G F d p' q,ai N q->Next A G aw F q D->b2 G F D aI { X with nodes:=X.nodes.set j { y with n:=(l.p.pure.step y.n).2.1 },aV:=X.aV.set i { c with aD:=c.aD.set j { l with p:=p' } } }->p'.pure=(l.p.pure.step y.n).1->
   av D aA (bO.cells d) iR->(∀ x,(l.p.pure.step y.n).2.2=some x->lf G D d x)->∀ w' A' χ' W3,Next G A' F χ' D w'->b2 A' χ' w' aI W3->
   W3.pure=(bL.pure { X with nodes:=X.nodes.set j { y with n:=(l.p.pure.step y.n).2.1 },aV:=X.aV.set i { c with aD:=c.aD.set j { l with p:=p' } } }).fs i ((ck.pure { c with aD:=c.aD.set j { l with p:=p' } }).ur j p'.pure l.bR (l.p.pure.step y.n).2.2)->
   (Value.bool true=.bool (X.pure.step x).1/\dT A aw w aI (X.pure.step x).2 w' λ_=>True):=by
  intro D aA G F d p' q WU aP XY I XD ar w' A' χ' W3 Xx W9 Xc;rw [a];refine ⟨rfl,A',χ',W3,((h.refl (WS.new WU)).trans aP).trans Xx,W9,?_,trivial⟩;rw [Xc,bL.T5,cA];have XA:(ck.pure { c with aD:=c.aD.set j { l with p:=p' } })={ c.pure with aD:=c.pure.aD.set j ⟨p'.pure,l.pure.bR⟩ }:=by simp [ck.pure,iv,dn.pure]
  have XB:l.bR=l.pure.bR:=rfl;rw [XA,XB,Lu _ _ _ _ _ (by simpa [ck.pure] using Ws),I];simp [aN.fs];exact ⟨rfl,rfl⟩
 have Wa:∀ p':dG,(X.aV.set i { c with aD:=c.aD.set j { l with p:=p' } })[i]?=some { c with aD:=c.aD.set j { l with p:=p' } }:=λp'=>by simp [Xv]
 have WR:∀ p':dG,(c.aD.set j { l with p:=p' })[j]?=some { l with p:=p' }:=λp'=>by simp [Ws]
 refine ⟨?_,?_⟩
 ·refine aC (T A N t) ?_;intro r Wq WG;obtain ⟨G,F,d,p',rfl,aP,Xa,I,WQ,Xj⟩:=V2 A N r Wq t WG;refine ⟨_,_,_,_,_,rfl,WQ,?_⟩;rintro aA X0 Xe W1;obtain ⟨W2,WT⟩:=bl Xe W1;refine ⟨WQ.new WT,gg (vs:=d.cells) W2 (by simp [bO.cells]) (bO.single d),?_⟩;intro D Wk;obtain ⟨Wm,Z⟩:=oF (vs:=d.cells) W2 (by simp [bO.cells]) WT (by omega) Wk;clear W1 Wk;have V':=Xa.new Z;have Wb:∀ x,(l.p.pure.step y.n).2.2=some x->lf G D d x:=λx Xu=>(Xj x Xu).az (ao.b4 Z) λ_ _ h=>h
  exact B9 (R:=λv w'=>v=.bool (X.pure.step x).1/\dT A aw w aI (X.pure.step x).2 w' λ_=>True) V' (Wa p') (WR p') U Wm (l.p.pure.step y.n).2.2 Wb (WW _) (by show l.bR.length<=1024;rw [B];exact Wg.pair.len) V4
   (Wd D aA G F d p' N (ao.refl _ _) (aP.new Z) V' I Wm Wb)
 ·rintro O Wy Xf Wl;obtain ⟨Wn,z⟩:=bl Xf Wl;clear Wl;refine ⟨ao.b4 z,?_⟩;refine aC (T _ Wy (t.AN z)) ?_;intro r Wz WG;obtain ⟨G,F,d,p',rfl,aP,WD,I,Wf,WM⟩:=V2 _ Wy r Wz (t.AN z) WG;have Q:aw O=.cu:=t.fresh (by omega);have Wo:=Wf.aj Wn (by rw [Q];simp [h5]);refine ⟨_,_,_,_,_,rfl,(ao.b4 z).trans Wf (λk _ h=>h),gg (vs:=d.cells) Wo (by simp [bO.cells]) (bO.single d),?_⟩;intro M V3;have Wp:av M O d.cells iR:=by have hw:M=cr Wz ⟨O,0,none⟩ 0 d.cells:=V3;rw [hw];have:=Wo.cr (o:=0) (i:=0) (vs:=d.cells);rw [pt (by simp [bO.cells])] at this;exact this
  have V:ao (λk=>k=O) Wz M:=by rw [V3];exact h0 _ _ _ _ _
  clear V3;have S:O<Wy.heap.size:=Wn.lt;have XF:=z.size;have WC:G O:=(aP.iff O).2 (.inr ⟨S,.inr ⟨by omega,S⟩,Q⟩);have Xw:F O=.cu:=by
   by_cases s:F O=.cu
   ·exact s
   ·exact absurd Q (aP.grow O S s)
  have WE:=WD.other V (λk We=>by rw [We];exact ⟨WC,Xw⟩);have Wj:∀ k,gp A aw F N k->G k:=by
   intro k We;refine (aP.iff k).2 ?_;rcases We with We | We
   ·exact .inl We
   ·exact .inr ⟨by omega,.inl We.2.1,We.2.2⟩
  have P:=WE.mF Wj (λk s=>.inl s);have Xr:Next A (gp A aw F N) aw F N M:=by refine ⟨((ao.b4 z).trans aP.az λ_ _ h=>h).trans V λk Xq e=>by omega,λk Xq s=>aP.grow k (by omega) s,λ_=>Iff.rfl⟩
  have Wc:∀ x,(l.p.pure.step y.n).2.2=some x->lf (gp A aw F N) M d x:=λx Xu=>(WM x Xu).az (V.mono λk _ e=>by rw [e];exact WC) λk _ s=>Wj k s
  exact B9 (R:=λv w'=>v=.bool (X.pure.step x).1/\dT A aw w aI (X.pure.step x).2 w' λ_=>True) P (Wa p') (WR p') U Wp (l.p.pure.step y.n).2.2 Wc (WW _) (by show l.bR.length<=1024;rw [B];exact Wg.pair.len) V4
   (Wd M O _ F d p' N (ao.refl _ _) Xr P I Wp Wc)
end
section
theorem CQ {α:Type} {l:List α} {k:Nat} {x:α} (h:l[k]?=some x):l.drop k=x::l.drop (k+1):=by obtain ⟨a,b⟩:=lx.1 h;rw [oU a,b]
def oN (l:List fo):List ax:=l.map fo.cells
theorem Bx (l:List fo):∀ r ∈ oN l,r.length=3:=by intro r a;simp only [oN,cT] at a;obtain ⟨l,_,rfl⟩:=a;rfl
theorem By {l:List fo} {x:fo} (h:l[i]?=some x):(oN l)[i]?=some x.cells:=by simp [oN,h]
structure kR (w u:ak) (a:an) (cap:Nat) (out:List fo):Prop where
 new:ai w u
 own:a0 u zM 3 a out.length cap (oN out).flatten
 fresh:∀ k,aL a k->w.heap.size<=k
theorem kR.step {u bs:ak} {a:an} {cap:Nat} {out:List fo} (h:kR w u a cap out) (b:ai u bs):kR w bs a cap out:=⟨h.new.new b,h.own.new b,h.fresh⟩
theorem kR.append {w u bE:ak} {a:an} {cap b:Nat} {out:List fo} (h:kR w u a cap out) (x:fo) (F:b=u.heap.size) (hw:bE=u.alloc (.cells x.cells.toArray 89)) (L:out.length<=1000000000) :
  ∃ A g E,(Builtin.append_ #[85,85] 85 #[.slice a out.length cap,.slice (some ⟨b,0,none⟩) 1 1]).run prog bE=.ok (.slice A (out++[x]).length g) E/\kR w E A g (out++[x]):=by
 obtain ⟨au,C⟩:=bl F hw;have B:=h.step C;obtain ⟨J,H,y,f,q⟩:=fO (T:=89) (z:=.agg #[.int .i64 0,.int .i64 0,.int .i64 0]) (n:=3) (m:=24) (by kernel_rfl);have i:a0 bE zM J.size a out.length cap (oN out).flatten:=by rw [f];exact B.own
 obtain ⟨ap,du,K,j,d,r,p⟩:=i.append (P:=prog) (t:=85) (ty:=85) Tryz.underlying85 H y (by rw [f];rfl) (by omega)
  (s:=some ⟨b,0,none⟩) (m:=1) (c:=1) (news:=x.cells) (by rw [f];rfl) (fm au (by simp [fo.cells])) (by simp [fo.cells,single]) (by omega) (by rw [q];omega)
 rw [f] at d;have G:(oN (out++[x])).flatten=(oN out).flatten++x.cells:=by simp [oN]
 refine ⟨ap,du,K,by simpa using j,B.new.trans r λk I l=>?_,?_,λk l=>?_⟩
 ·have:=h.fresh k l;omega
 ·rw [G];simpa using d
 ·rcases p with e | e
  ·exact h.fresh k (e▸l)
  ·obtain ⟨o,D⟩:=l;rw [e] at D;simp at D;have:=h.new.size;have:=C.size;omega
theorem kR.nil (w:ak):kR w w none 0 []:=⟨ao.refl _ _,a0.nil _ _ _,λk ⟨o,a⟩=>by cases a⟩
theorem GJ (i:Nat):∀ (j:Nat) (ls:List cS),(kV i j ls).length<=ls.length
 | _,[]=>by simp [kV]
 |j,l::ls=>by have:=GJ i (j+1) ls;simp only [kV,dI,g7];split<;>simp<;>omega
theorem Aj {n:Nat}:∀ (i:Nat) (cs:List bU),(∀ c ∈ cs,c.aD.length<=n)->(j2 i cs).length<=cs.length * n
 | _,[],_=>by simp [j2]
 |i,c::cs,h=>by
  have b:=Aj (i+1) cs λc a=>h c (fu _ a)
  have d:=GJ i 0 c.aD;have e:=h c (e2 ..);simp only [j2,dI,g7,rk,Nat.one_mul];omega
theorem Ak:∀ (i:Nat) (ch:List dg),(mh i ch).length=ch.length
 | _,[]=>rfl
 |i,p::ch=>by simp [mh,Ak (i+1) ch]
theorem AZ (h:b2 A aw w aI X) (I:nR X.pure) (WB:X.bP.length<=100000000):a9 36 [ptr aI] w λv w'=>
  ∃ a cap,v=.slice a X.pure.dL.length cap/\kR w w' a cap X.pure.dL:=by
 refine bc Tryz.func36 ?_;rw [ptr,SU];have S:∀ c ∈ X.pure.aV,c.aD.length<=5:=by intro c x;obtain ⟨i,Wv⟩:=eh.1 x;have Wz:=(I.a1 i c Wv).aD;have WF:=I.nodes;split at Wz<;>omega
 have V':X.pure.aV.length=X.aV.length:=by simp [bL.pure]
 have Wu:=Aj 0 X.pure.aV S;have Wt:=I.aV;have V2:∀ (i:Nat) (c:ck),X.aV[i]?=some c->X.pure.aV[i]?=some c.pure:=λi c x=>by simp [bL.pure,x]
 refine ⟨_,_,_,h.cd.cell rfl,?_⟩;refine c2 mix (λm env u=>∃ (i:Nat) (V7:ax) (a:an) (cap:Nat) (out:List fo),i<=X.aV.length/\m=X.aV.length - i/\env=wU ⟨aI,0,none⟩ a out.length cap (some ⟨X.aX,0,none⟩) X.aV.length X.aV.length X.aV.length i V7/\
   kR w u a cap out/\out++j2 i (X.pure.aV.drop i)=j2 0 X.pure.aV) X.aV.length ⟨0,_,none,0,[],by omega,by omega,rfl,kR.nil w,rfl⟩ ?_
 rintro m env u ⟨i,V7,a,cap,out,Wv,rfl,rfl,B,o⟩;rw [QE];refine a8 (λWk=>?_) (λWk=>?_)
 ·have Wc:i<X.aV.length:=by omega
  obtain ⟨c,x⟩:∃ c,X.aV[i]?=some c:=⟨X.aV[i],by simp [Wc]⟩;have V8:=h.new B.new;refine ee (by omega) (by omega) ?_;rw [fU];have y:b6 u ⟨X.aX,0+i * 7,none⟩ 0 c.cells:=kX λk v al=>by have:=V8.ih x al;simpa using this
  refine ⟨_,_,_,_,_,_,_,_,_,_,_,y,?_⟩;rintro b1 w1 V9 V3;obtain ⟨au,V⟩:=bl V9 V3;refine ⟨gg (vs:=c.cells) au (by simp [ck.cells]) (by simp [ck.cells,single]),?_⟩;intro WJ V4;obtain ⟨Wq,Wm⟩:=oF (vs:=c.cells) au (by simp [ck.cells]) V (by omega) V4;clear V3 V4 au V;refine ⟨_,_,_,Wq.cell (i:=2) rfl,?_⟩;have H:X.pure.aV.drop i=c.pure::X.pure.aV.drop (i+1):=by rw [xY (by omega)];congr 1;have:=V2 i c x;rw [bD (by omega)] at this;simpa using this
  rw [H] at o;have Wp:c.pure.aD.length=c.aD.length:=by simp [ck.pure]
  have WA:=S c.pure (b7 (V2 i c x));refine c2 mix (λm env z=>∃ (j:Nat) (Ww:ax) (N:an) (n:Nat) (d:List fo),j<=c.aD.length/\m=c.aD.length - j/\env=uk ⟨aI,0,none⟩ N d.length n i (some ⟨X.aX,0,none⟩) X.aV.length X.aV.length X.aV.length i c.la c.aD.length c.lc c.aD.length j Ww/\
   kR w z N n d/\d++kV i j (c.pure.aD.drop j)++j2 (i+1) (X.pure.aV.drop (i+1))=j2 0 X.pure.aV) c.aD.length ⟨0,_,a,cap,out,by omega,by omega,rfl,B.step Wm,by rw [<-o];simp [j2]⟩ ?_
  rintro m env z ⟨j,Ww,N,n,d,WG,rfl,rfl,q,e⟩;rw [QF];have P:=h.new q.new;have Wi:d.length<=30:=by have:=congrArg List.length e;simp only [dI] at this;omega
  refine a8 (λT=>?_) (λT=>?_)
  ·have We:j<c.aD.length:=by omega
   obtain ⟨l,Wh⟩:∃ l,c.aD[j]?=some l:=⟨c.aD[j],by simp [We]⟩;obtain ⟨g,R,_,_,Wa,_⟩:=a0.row (P.a1 i c x).own (nu c.aD) (by omega) (ml Wh);rw [R];refine ee (by omega) (by omega) ?_;rw [fU];refine ⟨_,_,_,_,Wa,?_⟩;rintro WE WK V_ V5;obtain ⟨M,W⟩:=bl V_ V5;refine ⟨gg (vs:=l.cells) M (by simp [dn.cells]) (by simp [dn.cells,single]),?_⟩;intro WL V6;obtain ⟨Wr,Y⟩:=oF (vs:=l.cells) M (by simp [dn.cells]) W (by omega) V6;clear V5 V6 M W;refine ⟨_,Wr.cell (i:=0) rfl,?_⟩;have Wl:=((P.new Y).a1 i c x).lane j l Wh;refine aC (xX Wl.pair) ?_;rintro v WD ⟨rfl,rfl⟩;have G:c.pure.aD.drop j=l.pure::c.pure.aD.drop (j+1):=by
    rw [xY (by omega)];congr 1;have:c.pure.aD[j]?=some l.pure:=by simp [ck.pure,Wh]
    rw [bD (by omega)] at this;simpa using this
   rw [G] at e;have C:=q.step Y;rw [<-R];refine ⟨_,rfl,a8 (λWC=>?_) (λWC=>?_)⟩
   ·have K:0<l.pure.pair.ba.length:=by show 0<l.p.ba.length;omega
    rintro dq Wx E L;obtain ⟨ap,du,Ws,t,s⟩:=C.append ⟨-1,i,j⟩ E L (by omega);refine ⟨ap,_,du,Ws,t,?_⟩;rw [show IntKind.i64.wrap ((j:Int)+1)=((j+1:Nat):Int) by rw [bC (by omega) (by omega)];rfl];refine ⟨c.aD.length - (j+1),by omega,j+1,_,ap,du,d++[⟨-1,i,j⟩],by omega,rfl,rfl,s,?_⟩;rw [<-e];simp [kV,K]
   ·have K:¬ 0<l.pure.pair.ba.length:=by show ¬ 0<l.p.ba.length;omega
    rw [show IntKind.i64.wrap ((j:Int)+1)=((j+1:Nat):Int) by rw [bC (by omega) (by omega)];rfl];refine ⟨c.aD.length - (j+1),by omega,j+1,_,N,n,d,by omega,rfl,rfl,C,?_⟩;rw [<-e];simp [kV,K]
  ·have Wd:j=c.aD.length:=by omega
   rw [Ri];rw [show IntKind.i64.wrap ((i:Int)+1)=((i+1:Nat):Int) by rw [bC (by omega) (by omega)];rfl];refine ⟨X.aV.length - (i+1),by omega,i+1,_,N,n,d,by omega,rfl,rfl,q,?_⟩;rw [<-e,Wd,<-Wp,rl];simp [kV]
 ·have Wb:i=X.aV.length:=by omega
  rw [Wb,<-V',rl] at o;have J:out=j2 0 X.pure.aV:=by simpa [j2] using o
  rw [Rh];have V8:=h.new B.new;refine ⟨_,_,_,V8.cd.cell (i:=3) rfl,?_⟩;have Wo:X.pure.bP.length=X.bP.length:=by simp [bL.pure]
  refine c2 mix (λm env z=>∃ (i:Nat) (V7:ax) (a:an) (cap:Nat) (out:List fo),i<=X.bP.length/\m=X.bP.length - i/\env=wV a out.length cap X.dy X.bP.length X.gL X.bP.length i V7/\
   kR w z a cap out/\out++mh i (X.pure.bP.drop i)=X.pure.dL) X.bP.length ⟨0,_,a,cap,out,by omega,by omega,rfl,B,by rw [J];rfl⟩ ?_
  rintro m env z ⟨k,WI,Wy,O,D,WH,rfl,rfl,r,f⟩;rw [QG];have Q:=h.new r.new;have Wj:D.length<=100000030:=by have:=congrArg List.length f;simp only [dI,aN.dL,Ak] at this;omega
  refine a8 (λU=>?_) (λU=>?_)
  ·have Wg:k<X.bP.length:=by omega
   obtain ⟨b,p,Wn⟩:∃ b p,X.bP[k]?=some (b,p):=⟨X.bP[k].1,X.bP[k].2,by simp [Wg]⟩;have Z:=(Q.ez _ (b7 Wn)).1;refine s0 (v:=ptr b) (i:=k) Q.fZ (by simp [Wn]) rfl λbx F _=>⟨some ⟨b,0,none⟩,F,?_⟩
   refine aC (Jg Z) ?_;rintro v WD ⟨rfl,rfl⟩;refine ⟨_,rfl,?_⟩;refine aC (Dp Z) ?_;rintro v Wx ⟨rfl,rfl⟩;refine ⟨_,rfl,?_⟩;rintro dq Wx E L;obtain ⟨ap,du,Ws,t,s⟩:=r.append ⟨k,p.a1,p.node⟩ E L (by omega);refine ⟨ap,_,du,Ws,t,?_⟩;rw [show IntKind.i64.wrap ((k:Int)+1)=((k+1:Nat):Int) by rw [bC (by omega) (by omega)];rfl];refine ⟨X.bP.length - (k+1),by omega,k+1,_,ap,du,_,by omega,rfl,rfl,s,?_⟩;have G:X.pure.bP.drop k=p.pure::X.pure.bP.drop (k+1):=CQ (by simp [bL.pure,Wn]);rw [<-f,G];rw [mh,lr];rfl
  ·have Wf:k=X.bP.length:=by omega
   rw [Wf,<-Wo,rl] at f;have:D=X.pure.dL:=by simpa [mh] using f
   subst this;rw [Rj];exact ⟨Wy,O,rfl,r⟩
end
section
def h9 (ls:List dn):List (Nat×dG):=(ls.filter λl=>decide (0<l.p.ba.length)).map λl=>(l.pb,l.p)
theorem CR (l:dn) (ls:List dn):h9 (l::ls)=if 0<l.p.ba.length then (l.pb,l.p)::h9 ls else h9 ls:=by
 unfold h9;rw [List.filter_cons];by_cases h:0<l.p.ba.length
 ·simp [h]
 ·simp [h]
theorem Lv (ls:List dn):(h9 ls).map (λp=>p.2.pure)=((ls.map dn.pure).map cS.pair).filter λp=>decide (0<p.ba.length):=by
 induction ls with
 |nil=>rfl
 |cons l ls a=>
  rw [CR,f9,f9,List.filter_cons];have:l.pure.pair.ba=l.p.ba:=rfl;rw [this,<-a];by_cases h:0<l.p.ba.length
  ·simp [h];rfl
  ·simp [h]
theorem DI {x:Nat×dG} (h:x ∈ h9 ls):∃ (j:Nat) (l:dn),ls[j]?=some l/\x=(l.pb,l.p)/\0<l.p.ba.length:=by simp only [h9,cT,tk,decide_eq_true_eq] at h;obtain ⟨l,⟨a,b⟩,c⟩:=h;obtain ⟨j,d⟩:=eh.1 a;exact ⟨j,l,d,c.symm,b⟩
def p2 (i:Nat) (ls:List dn):Tag->Tag
 | .lane c n=>if c=i then (match ls[n]? with
  |some l=>if 0<l.p.ba.length then .hL l.pb else .lane c n
  |none=>.lane c n) else .lane c n
 |t=>t
theorem Ia (h:∀ n,t≠.lane i n):p2 i ls t=t:=by
 cases t with
 |lane c n=>simp only [p2];rw [if_neg];rintro rfl;exact h n rfl
 | _=>rfl
theorem Bz (h:p2 i ls t≠.cu):t≠.cu:=by rintro rfl;exact h rfl
theorem I1 {n:Nat} {l:dn} (a:ls[n]?=some l) (b:0<l.p.ba.length):p2 i ls (.lane i n)=.hL l.pb:=by simp [p2,a,b]
structure Cu (A:a3) (aw:Nat->Tag) (w:ak) (aI:Nat) (X:bL) (c:ck) (k:Nat) (u:ak) (dy:an) (gL:Nat) (os:List (Nat×dG)):Prop where
 az:ao (λz=>aw z=.cd\/aw z=.fZ) w u
 cd:av u aI (X.cells.set 3 (.slice dy os.length gL)) lD
 own:a0 u oh 1 dy os.length gL (os.map λp=>ptr p.1)
 tag:∀ z,aL dy z->aw z=.fZ\/w.heap.size<=z
 eq:os++h9 (c.aD.drop k)=X.bP++h9 c.aD
theorem Lw (h:b2 A aw w aI X) (Z:nR X.pure) (WE:X.bP.length<=100000000) (Wp:X.aV[i]?=some c)
  {j:ax} {R:cB} (WA:∀ u dy gL os,Cu A aw w aI X c c.aD.length u dy gL os->∀ V9,W prog (sub (bp f22) [1,1,1,1]) (z' (some ⟨X.aX,0+i * 7,none⟩) V9) (dD prog f22 R) u) :
  cv prog (.loop (sub (bp f22) [1,1,1,0,1,0,0])) (se ⟨aI,0,none⟩ (some ⟨X.aX,0+i * 7,none⟩) c.la c.aD.length c.lc c.aD.length 0 j)
   (aM 0 (aU (λenv w=>W prog (sub (bp f22) [1,1,1,1]) env (dD prog f22 R) w) (dD prog f22 R))) w:=by
 have We:=Z.a1 i c.pure (by simp [bL.pure,Wp]);have WD:=Z.nodes;have WC:c.aD.length<=5:=by
  have Wz:=We.aD;have:c.pure.aD.length=c.aD.length:=by simp [ck.pure]
  split at Wz<;>omega
 have Wk:∀ ls:List dn,(h9 ls).length<=ls.length:=λls=>by simp [h9];exact vi _ _
 have Ws:=Wk c.aD;refine c2 mix (λm env u=>∃ (k:Nat) (V9:ax) (dy:an) (gL:Nat) (os:List (Nat×dG)),k<=c.aD.length/\m=c.aD.length - k/\env=se ⟨aI,0,none⟩ (some ⟨X.aX,0+i * 7,none⟩) c.la c.aD.length c.lc c.aD.length k V9/\Cu A aw w aI X c k u dy gL os) c.aD.length
  ⟨0,_,X.dy,X.gL,X.bP,by omega,by omega,rfl,ao.refl _ _,h.cd,h.fZ,λz au=>.inl (h.j_ z au),rfl⟩ ?_
 rintro m env u ⟨k,V9,dy,gL,os,WI,rfl,rfl,a7⟩;rw [Rr];have Wr:os.length<=100000005:=by have:=congrArg List.length a7.eq;simp only [dI] at this;omega
 refine a8 (λU=>?_) (λU=>?_)
 ·have Wh:k<c.aD.length:=by omega
  obtain ⟨l,Wi⟩:∃ l,c.aD[k]?=some l:=⟨c.aD[k],by simp [Wh]⟩;have F:=h.a1 i c Wp;have V2:a0 u lE 2 c.la c.aD.length c.lc (g1 c.aD).flatten:=F.own.az a7.az λz au=>by rw [F.tag z au];simp
  obtain ⟨g,Q,_,_,Wg,_⟩:=a0.row V2 (nu c.aD) (by omega) (ml Wi);have V:=F.lane k l Wi;rw [Q];refine ee (by omega) (by omega) ?_;rw [fU];refine ⟨_,_,_,_,Wg,?_⟩;rintro Wx WJ Wb V4;obtain ⟨M,Y⟩:=bl Wb V4;refine ⟨gg (vs:=l.cells) M (by simp [dn.cells]) (by simp [dn.cells,single]),?_⟩;intro Wt V5;obtain ⟨V8,x⟩:=oF (vs:=l.cells) M (by simp [dn.cells]) Y (by omega) V5;clear V4 V5 M Y;refine ⟨_,V8.cell (i:=0) rfl,?_⟩;have D:ao (λz=>aw z=.cd\/aw z=.fZ) w Wt:=a7.az.new x;have Wj:dK A Wt l.pb l.p:=V.pair.az D (λz au=>by rw [V.tag z au];simp) (λz au=>h.e9 z (by rcases au with e | e<;>rw [e]<;>simp));refine aC (xX Wj) ?_;rintro v WH ⟨rfl,rfl⟩;have Wf:=CQ Wi;have heq:=a7.eq;rw [Wf,CR] at heq;rw [<-Q];have b:=ai.aj x a7.cd;have q:=a7.own.new x;refine ⟨_,rfl,a8 (λWF=>?_) (λWF=>?_)⟩
  ·have K:0<l.p.ba.length:=by omega
   rw [if_pos K] at heq;intro Wu V6;have y:ai WH Wu:=by rw [V6];exact cE _
   clear V6;have d:=ai.aj y b;have Wl:=ai.aj y V8;have I:=q.new y;have O:¬ aL dy aI:=λWa=>by
    rcases a7.tag aI Wa with e | e
    ·rw [h.gH] at e;cases e
    ·have:=h.cd.lt;omega
   have N:¬ aL dy Wx:=λWa=>by have:=a7.own.lt Wa;omega
   refine ⟨λz=>ao (aL dy) Wu z,ao.refl _ _,_,_,_,λz au=>(au.aj d O).cell (i:=3) rfl,_,λz au=>(au.aj Wl N).cell (i:=0) rfl,?_⟩;rintro Wy Wv Wc V7;obtain ⟨Wm,f⟩:=bl Wc V7;clear V7;refine ⟨ao.b4 f,?_⟩;obtain ⟨WG,WB,Wn,B,Wd⟩:=fO (T:=103) (z:=.pointer none) (n:=1) (m:=8) (by kernel_rfl);have J:a0 Wv oh WG.size dy os.length gL (os.map λp=>ptr p.1):=by rw [B];exact I.new f
   obtain ⟨ap,du,Wo,V3,r,H,V'⟩:=J.append (P:=prog) (t:=106) (ty:=106) Tryz.underlying106 WB Wn (by rw [B];rfl) (by omega)
    (s:=some ⟨Wy,0,none⟩) (m:=1) (c:=1) (news:=[ptr l.pb]) (by rw [B];rfl) (fm Wm (by simp [ptr])) (by simp [ptr,single]) (by omega) (by rw [Wd];omega)
   rw [B] at r;have a:av Wo aI (X.cells.set 3 (.slice dy os.length gL)) lD:=H.aj (ai.aj f d) O;refine ⟨ap,_,du,Wo,V3,(ao.b4 f).trans H λ_ _ h=>h,⟨_,a.cell (i:=3) rfl⟩,a.frozen,?_⟩;intro Ww L;have S:ao (λz=>z=aI) Wo Ww:=by rw [L];exact eY _ _ _ _
   have G:av Ww aI (X.cells.set 3 (.slice ap (os.length+1) du)) lD:=by rw [L];have:=a.setCell (i:=3) (.slice ap (os.length+1) du);rw [List.set_set] at this;exact this
   clear L;have E:ai u Wv:=(x.new y).new f;have C:∀ z,aL ap z->aw z=.fZ\/w.heap.size<=z:=by
    intro z au;rcases V' with e | e
    ·exact a7.tag z (e▸au)
    ·obtain ⟨o,Wq⟩:=au;rw [e] at Wq;simp at Wq;have:=a7.az.size;have:=E.size;exact .inr (by omega)
   rw [show IntKind.i64.wrap ((k:Int)+1)=((k+1:Nat):Int) by rw [bC (by omega) (by omega)];rfl];refine ⟨c.aD.length - (k+1),by omega,k+1,_,ap,du,os++[(l.pb,l.p)],by omega,rfl,rfl,?_,?_,?_,C,?_⟩
   ·refine ((a7.az.new E).trans H λz U au=>?_).trans S λz _ e=>.inl (by rw [e];exact h.gH)
    rcases a7.tag z au with e | e
    ·exact .inr e
    ·omega
   ·simpa using G
   ·have:=r.az S (λz au e=>?_)
    ·simpa using this
    ·rcases C z au with V_ | V_
     ·rw [e,h.gH] at V_;cases V_
     ·have:=h.cd.lt;omega
   ·rw [<-heq];simp
  ·have K:¬ 0<l.p.ba.length:=by omega
   rw [if_neg K] at heq;rw [show IntKind.i64.wrap ((k:Int)+1)=((k+1:Nat):Int) by rw [bC (by omega) (by omega)];rfl];exact ⟨c.aD.length - (k+1),by omega,k+1,_,dy,gL,os,by omega,rfl,rfl,D,b,q,a7.tag,heq⟩
 ·have:k=c.aD.length:=by omega
  subst this;exact WA u dy gL os a7 _
theorem Mu (ls:List dn):((h9 ls).map Prod.fst).Sublist (ls.map dn.pb):=by
 have:(h9 ls).map Prod.fst=(ls.filter λl=>decide (0<l.p.ba.length)).map dn.pb:=by simp [h9,Function.comp_def]
 rw [this];exact (List.filter_sublist).map _
def pR (i:Nat) (t:Tag):Prop:=t=.cd\/t=.fZ\/t=.aV\/iF i t
open Classical in
theorem b2.die (h:b2 A aw w aI X) (g:X.aV[i]?=some c) {dy:an} {gL:Nat}
  (d:ao (λz=>aw z=.cd\/aw z=.fZ\/aw z=.aV) w w') (K:av w' aI (X.cells.set 3 (.slice dy (X.bP++h9 c.aD).length gL)) lD) (F:a0 w' oh 1 dy (X.bP++h9 c.aD).length gL ((X.bP++h9 c.aD).map λp=>ptr p.1))
  (C:∀ z,aL dy z->aw z=.fZ\/w.heap.size<=z) {c':ck} (N:c'.aD=[]/\c'.la=none/\c'.lc=0/\c'.dk=none/\c'.raw=[]/\c'.batch=[]) (f:av w' X.aX (fC (X.aV.set i c')).flatten jY) :
  ∃ A' χ',Next A A' aw χ' w w'/\b2 A' χ' w' aI { X with aV:=X.aV.set i c',bP:=X.bP++h9 c.aD,dy:=dy,gL:=gL }:=by
 let χ':Nat->Tag:=λk=>if aL dy k then .fZ else p2 i c.aD (aw k)
 have t1:∀ k,aL dy k->χ' k=.fZ:=λk d=>if_pos d
 have t2:∀ k,¬ aL dy k->χ' k=p2 i c.aD (aw k):=λk d=>if_neg d
 have V4:∀ k,k<w.heap.size->χ' k≠.cu->aw k≠.cu:=by
  intro k E s;by_cases f:aL dy k
  ·rcases C k f with e | e
   ·rw [e];simp
   ·omega
  ·rw [t2 k f] at s;exact Bz s
 have V6:∀ k,k<w.heap.size->¬ pR i (aw k)->aw k≠.cu->χ' k=aw k:=by
  intro k E V _;by_cases f:aL dy k
  ·rcases C k f with e | e
   ·exact absurd (.inr (.inl e)) V
   ·omega
  ·rw [t2 k f];exact Ia λn e=>V (.inr (.inr (.inr (by rw [e];rfl))))
 obtain ⟨m,aP⟩:=h.move (T:=pR i) (χ':=χ') (w':=w') (d.mono λk _ g=>by rcases g with e | e | e<;>simp [pR,e]) (by simp [pR,iF]) V4 V6;have f2:=a0.cM m h.nodes h.jJ (by simp [pR,iF]) (by simp);have s:=h.a1 i c g;have B:∀ k,k<w.heap.size->aw k≠.fZ->¬ aL dy k:=λk E P f=>by
  rcases C k f with e | e
  ·exact P e
  ·omega
 have H:∀ (j:Nat) (l:dn),c.aD[j]?=some l->aw l.pb=.lane i j:=λj l D=>(s.lane j l D).tag _ (.inl rfl)
 refine ⟨_,χ',aP,m.ma,λk g=>?_,?_,?_,f2.1,f2.2,λq z au=>(h.node q z au).cM m (by simp [pR,iF]) (by simp [pR,iF]),f,?_,λq z au=>?_,F,t1,λx G=>?_,?_⟩
 ·rcases g with g | g
  ·by_cases f:aL dy k
   ·exact F.lt f
   ·rw [t2 k f] at g;exact f8 (h.jH (Bz g)) d.size
  ·exact f8 g.1 d.size
 ·simpa [bL.cells] using K
 ·rw [t2 aI (B aI h.cd.lt (by rw [h.gH];simp)),h.gH];rfl
 ·show χ' X.aX=_;rw [t2 _ (B _ h.cls.lt (by rw [h.fg];simp)),h.fg];rfl
 ·simp only [iu] at au;split at au
  ·rename_i he;subst he;split at au
   ·simp only [fe] at au;subst au;obtain ⟨Q,R,Y,Z,S,U⟩:=N;refine ⟨?_,λk d=>?_,λj l D=>?_,λ_=>⟨S,U⟩,λb J=>?_,?_⟩
    ·rw [Q,R,Y];exact a0.nil _ _ _
    ·rw [R] at d;obtain ⟨o,V5⟩:=d;cases V5
    ·rw [Q] at D;simp at D
    ·rw [Z] at J;cases J
    ·rw [S,U];exact ⟨rfl,λ_ _ _ g=>by simp at g⟩
   ·cases au
  ·rename_i he;refine (h.a1 q z au).cM m λt r I=>?_
   rcases I with e | e | e | e
   ·rw [e] at r;cases r
   ·rw [e] at r;cases r
   ·rw [e] at r;cases r
   ·exact Ec he t r (.inr e)
 ·rcases jT.1 G with G | G
  ·exact dK.cM m (h.ez x G).1 (h.ez x G).2 (by simp [pR,iF]) (by simp)
  ·obtain ⟨j,l,D,rfl,W⟩:=DI G;have u:=s.lane j l D;have O:∀ k,l.p.mut l.pb k->k<w.heap.size:=λk d=>h.jH (by rw [u.tag k d];simp)
   have L:∀ k,l.p.mut l.pb k->χ' k=.hL l.pb:=λk d=>by rw [t2 k (B k (O k d) (by rw [u.tag k d];simp)),u.tag k d];exact I1 D W
   refine ⟨?_,L⟩;refine (u.pair.mF (λk E V2=>m.old k E V2) (λk d=>m.ma k (by rw [L k d];simp))).az d (λk d g=>?_) (λk g=>m.ma k ?_)
   ·rw [u.tag k d] at g;rcases g with e | e | e<;>cases e
   ·by_cases f:aL dy k
    ·rw [t1 k f];simp
    ·rw [t2 k f];rcases g with e | e | e<;>rw [e]<;>simp [p2]
 ·show ((X.bP++h9 c.aD).map Prod.fst).Nodup;rw [ja,List.nodup_append];refine ⟨h.nodup,(Mu c.aD).nodup ?_,?_⟩
  ·refine Bb.2 λa b M f V3 he=>?_
   simp only [ft] at M f;simp only [List.getElem_map] at he;have r:=H a _ (bD M);have I:=H b _ (bD f);rw [he,I] at r;simp at r <;> omega
  ·intro a M b f he;obtain ⟨x,G,rfl⟩:=cT.1 M;obtain ⟨y,V7,rfl⟩:=cT.1 f;obtain ⟨j,l,D,rfl,W⟩:=DI V7;have r:=(h.ez x G).2 x.1 (.inl rfl);have I:=H j l D;rw [he,I] at r;cases r
theorem EH (h:b2 A aw w aI X) (N:nR X.pure) (M:X.bP.length<=100000000) (c:Int):a9 22 [ptr aI,.int .i64 c] w λv w'=>
  v=.bool (X.pure.die c).1/\dT A aw w aI (X.pure.die c).2 w' λ_=>True:=by
 refine bc Tryz.func22 ?_;rw [ptr,Uf];refine aC (DH h c) ?_;rintro v w1 ⟨rfl,rfl⟩;rcases X.r' c with ⟨n,D⟩ | ⟨i,x,rfl,n,D⟩
 ·have ar:X.pure.die c=(false,X.pure):=by simp [aN.die,n]
  have F:X.pure.alive c=false:=by simp [aN.alive,n]
  rw [ar,F];exact ⟨_,rfl,rfl,dT.same h (ao.refl _ _) trivial⟩
 ·have F:X.pure.alive i=x.alive:=by simp [aN.alive,D,ck.pure]
  rw [F];refine ⟨_,rfl,ev (λV=>?_) (λW=>?_)⟩
  ·have ar:X.pure.die i=(false,X.pure):=by simp [aN.die,D,ck.pure,V]
   rw [ar];exact ⟨rfl,dT.same h (ao.refl _ _) trivial⟩
  refine aC (sr h n) ?_;rintro v Y ⟨rfl,rfl⟩;have ar:X.pure.die i=(true,{ X.pure with bP:=X.pure.bP++(x.pure.aD.map cS.pair).filter (λp=>decide (0<p.ba.length)),aV:=X.pure.aV.set i { x.pure with alive:=false,aD:=[],batch:=none,waiting:=0 } }):=by simp [aN.die,D,ck.pure,W]
  rw [ar];refine ⟨_,rfl,_,_,_,h.ih (k:=2) n rfl,?_⟩;refine Lw h N M n ?_;intro u dy gL os a7 Z;rw [Sn];have O:os=X.bP++h9 x.aD:=by have:=a7.eq;rw [rl] at this;simpa [h9] using this
  subst O;have g:av u X.aX (fC X.aV).flatten jY:=a7.az.aj h.cls (by rw [h.fg];simp);refine ⟨⟨_,lg (k:=0) g n rfl⟩,g.frozen,?_⟩;intro P C;obtain ⟨a,o⟩:=k3 (k:=0) (c':={ x with alive:=false }) g n (by omega) (v:=.bool false) (by simp [ck.cells]);have l:P=u.setCell ⟨X.aX,0+i * 7+0,none⟩ (.bool false):=C;rw [<-l] at a;have H:ao (λz=>z=X.aX) u P:=by rw [l];exact eY _ _ _ _
  clear C l;refine ⟨⟨_,lg (k:=2) a o rfl⟩,a.frozen,?_⟩;intro S t;obtain ⟨b,q⟩:=k3 (k:=2) (c':={ x with alive:=false,aD:=[],la:=none,lc:=0 }) a o (by omega) (v:=.slice none 0 0) (by simp [ck.cells]);rw [<-t] at b;have I:ao (λz=>z=X.aX) P S:=by rw [t];exact eY _ _ _ _
  clear t;refine ⟨⟨_,lg (k:=3) b q rfl⟩,b.frozen,?_⟩;intro T y;obtain ⟨d,r⟩:=k3 (k:=3) (c':={ x with alive:=false,aD:=[],la:=none,lc:=0,dk:=none,raw:=[],batch:=[] }) b q (by omega) (v:=.slice none 0 0) (by simp [ck.cells]);rw [<-y] at d;have J:ao (λz=>z=X.aX) S T:=by rw [y];exact eY _ _ _ _
  clear y;refine ⟨⟨_,lg (k:=4) d r rfl⟩,d.frozen,?_⟩;intro Q B;obtain ⟨f,R⟩:=k3 (k:=4) (c':={ x with alive:=false,aD:=[],la:=none,lc:=0,dk:=none,raw:=[],batch:=[],waiting:=0 }) d r (by omega) (v:=.int .i64 0) (by simp [ck.cells]);rw [<-B] at f;have K:ao (λz=>z=X.aX) T Q:=by rw [B];exact eY _ _ _ _
  clear B;rw [jh,jh,jh] at f;have j:ao (λz=>z=X.aX) u Q:=((H.trans I λ_ _ h=>h).trans J λ_ _ h=>h).trans K λ_ _ h=>h
  have s:ao (λz=>aw z=.cd\/aw z=.fZ\/aw z=.aV) Y Q:=(a7.az.mono λz _ au=>au.elim .inl λe=>.inr (.inl e)).trans j λz _ e=>.inr (.inr (by rw [e];exact h.fg))
  have L:∀ z,aL dy z->z≠X.aX:=λz au e=>by
   rcases a7.tag z au with E | E
   ·rw [e,h.fg] at E;cases E
   ·have:=h.cls.lt;omega
  have G:aI≠X.aX:=λe=>by have:=h.gH;rw [e,h.fg] at this;cases this
  obtain ⟨A',χ',aP,U⟩:=h.die (c':={ x with alive:=false,aD:=[],la:=none,lc:=0,dk:=none,raw:=[],batch:=[],waiting:=0 }) n s (j.aj a7.cd G) (a7.own.az j L) a7.tag ⟨rfl,rfl,rfl,rfl,rfl,rfl⟩ f;refine ⟨rfl,A',χ',_,aP,U,?_,trivial⟩;simp only [bL.pure,ja,iv,Lv];rfl
end
end Go.Proofs.YtmkljjbioomepaaGreat
