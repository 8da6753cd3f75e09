import Derived.Test.YtmkljjbioomepaaGreatc12
set_option linter.all false
set_option maxHeartbeats 4000000
set_option maxRecDepth 100000
namespace Go.Proofs.YtmkljjbioomepaaGreat
open Go.Proofs.Tryz Go.br
variable {A:a5} {X:bQ} {c:cd} {aN i:Nat} {ls:List dk} {t:Tag} {w w':ak} {aw:Nat->Tag}
section
abbrev zn:TypeId:=89
def fK.cells (x:fK):ax:=[.int .i64 x.eC,.int .i64 x.a3,.int .i64 x.node]
def fK.val (x:fK):a4:=.agg x.cells.toArray
theorem J3 (C:bP) (j:Nat) (l:cP) (p:c4) (a:Option aL) (b:j<C.aD.length) :
  ({ C with aD:=C.aD.set j ⟨p,l.bT⟩ }:bP).tY j p l.bT a=C.comes j l p a:=by
 cases a with
 |none=>rfl
 |some x=>simp [bP.tY,bP.comes]
theorem GJ:∀ {l:cQ} {x:Nat},x ∈ l->x<=l.sum
 |y::l,x,h=>by
  rw [j_];rcases e9.1 h with rfl | h
  ·omega
  ·have:=GJ h;omega
theorem bZ.At (h:bZ A aw w aN X) (b:ai w w'):bZ (λk=>A k\/(w.heap.size<=k/\k<w'.heap.size)) aw w' aN X:=by
 have m:ld (λ_=>False) A (λk=>A k\/(w.heap.size<=k/\k<w'.heap.size)) aw aw w w':=⟨b,id,h.fj,λk e a=>a.elim id (λa=>by omega),λ_ _ _ _=>rfl,λk a=>.inl (h.fj k a)⟩;have g:=b.size;refine ⟨m.l9,λk a=>a.elim (λa=>by have:=h.low k a;omega) (λa=>a.2),ai.aj b h.cl,h.gG,h.nodes.new b,h.jD,λi x f=>(h.node i x f).cK m id id,ai.aj b h.cls,h.fb,
  λi c a=>(h.a3 i c a).cK m λ_ _=>id,h.fU.new b,h.jZ,λp d=>⟨(dM.cK m (h.eC p d).1 (h.eC p d).2 id (by simp)).1,(h.eC p d).2⟩,h.nodup⟩
theorem C7 (h:bZ A aw w aN X) (Wk:nU X.pure) (x:fK):a_ 37 [ptr aN,x.val] w λv w'=>
  v=.bool (X.pure.step x).1/\d8 A aw w aN (X.pure.step x).2 w' λ_=>True:=by
 refine bc Tryz.func37 ?_;refine Eq.mpr (Tg aN x.eC x.a3 x.node w _) ?_;rintro b1 w1 WE Wn;obtain ⟨H,E⟩:=bl WE Wn;clear Wn;have Vu:=h.new E;have H:av w1 b1 x.cells zn:=H;refine ⟨_,H.cell (i:=0) rfl,a' (λXd=>?_) (λXd=>?_)⟩
 ·obtain ⟨i,W5⟩:∃ i:Nat,x.eC=i:=⟨x.eC.toNat,by omega⟩;have VY:X.pure.step x=X.pure.iU i:=by unfold aM.step;rw [if_pos (by omega),W5];rfl
  refine ⟨_,H.cell (i:=0) rfl,?_⟩;rw [W5];refine aC (Hu Vu Wk i) ?_;rintro v Xp ⟨rfl,Xm⟩;refine ⟨_,rfl,?_⟩;rw [VY];exact ⟨rfl,d8.trans (h.refl E) Xm⟩
 refine ⟨_,H.cell (i:=0) rfl,a' (λWv=>?_) (λWv=>?_)⟩
 ·have VY:X.pure.step x=(false,X.pure):=by unfold aM.step;rw [if_neg (by omega),if_pos Wv]
  rw [VY];exact ⟨rfl,d8.same h E trivial⟩
 have a:X.pure.step x=match X.pure.dj x.a3 with
  |none=>(false,X.pure)
  |some C=>if x.node<0 then (false,X.pure) else match C.aD[x.node.toNat]?,X.pure.nodes[x.node.toNat]? with
   |some l,some n=>if l.pair.ba.length=0 then (false,X.pure) else
    (true,{ X.pure with nodes:=X.pure.nodes.set x.node.toNat (l.pair.step n).2.1,aX:=X.pure.aX.set x.a3.toNat (C.comes x.node.toNat l (l.pair.step n).1 (l.pair.step n).2.2) })
   | _,_=>(false,X.pure):=by
  unfold aM.step;rw [if_neg (by omega),if_neg Wv];rfl
 refine ⟨_,H.cell (i:=1) rfl,?_⟩;rcases X.rU x.a3 with ⟨Xb,Wt⟩ | ⟨i,c,cz,s,Wt⟩
 ·refine aC (uh Vu Wt) ?_;rintro v W9 ⟨rfl,rfl⟩;rw [Xb] at a;refine ⟨_,rfl,?_⟩;intro WZ Vz;refine ⟨λ_=>True,trivial,?_⟩
  rw [a];exact ⟨rfl,d8.same h (E.new (by rw [Vz];exact cD _)) trivial⟩
 have WW:=ch s;rw [cz];refine aC (r6 Vu s) ?_;rintro v W9 ⟨rfl,rfl⟩;rw [Wt] at a;refine ⟨_,rfl,?_⟩;intro WZ Vz;have K:ai W9 WZ:=by rw [Vz];exact cD _
 clear Vz;have J:=Vu.new K;have Vv:=ai.aj K H;refine ⟨λu=>ai WZ u,ao.refl _ _,?_⟩;refine ⟨_,λu hu=>(ai.aj hu Vv).cell (i:=2) rfl,a' (λWw=>?_) (λWw=>?_)⟩
 ·simp only [if_pos Ww] at a;rw [a];exact ⟨rfl,d8.same h (E.new K) trivial⟩
 simp only [if_neg Ww] at a;obtain ⟨j,WO⟩:∃ j:Nat,x.node=j:=⟨x.node.toNat,by omega⟩;have WP:x.node.toNat=j:=by omega
 rw [WP] at a;have Vx:=Wk.a3 i c.pure (by simp [bQ.pure,s]);refine ⟨_,λu hu=>(ai.aj hu Vv).cell (i:=2) rfl,?_⟩;refine ⟨_,_,_,λu hu=>(J.new hu).h' (k:=2) s rfl,a' (λWx=>?_) (λWx=>?_)⟩
 ·have e:c.pure.aD[j]?=none:=lp (by
   have:c.pure.aD.length=c.aD.length:=by simp [cd.pure]
   have Wy:x.node>=(c.aD.length:Int):=Wx;omega)
  simp only [e] at a;rw [a];exact ⟨rfl,d8.same h (E.new K) trivial⟩
 have Wy:¬ x.node>=(c.aD.length:Int):=Wx;have VT:j<c.aD.length:=by omega
 obtain ⟨l,VU⟩:∃ l,c.aD[j]?=some l:=⟨c.aD[j],by simp [VT]⟩;have Wd:j<X.nodes.length:=by
  have Xf:=Vx.aD;have W1:c.pure.aD.length=c.aD.length:=by simp [cd.pure]
  have W2:X.pure.nodes.length=X.nodes.length:=by simp [bQ.pure]
  split at Xf<;>omega
 obtain ⟨y,V1⟩:∃ y,X.nodes[j]?=some y:=⟨X.nodes[j],by simp [Wd]⟩;have VS:c.pure.aD[j]?=some l.pure:=by simp [cd.pure,VU]
 have Wu:X.pure.nodes[j]?=some y.n:=by simp [bQ.pure,V1]
 simp only [VS,Wu] at a;have VV:=Vx.lane j l.pure VS;refine ⟨_,_,_,λu hu=>(J.new hu).h' (k:=2) s rfl,_,λu hu=>(ai.aj hu Vv).cell (i:=2) rfl,?_⟩;obtain ⟨g,U,Xl,⟨Xc,Xj⟩,Xk,Wc⟩:=a2.row (J.a3 i c s).own (nh c.aD) (by omega) (mi VU);have WN:aw g=.aD i:=(J.a3 i c s).tag g ⟨0,U⟩;show bk c.la c.aD.length x.node 2 _;rw [U,WO];refine ed (by omega) (by omega) ?_;rw [fY];refine ⟨some ⟨l.pb,0,none⟩,λu hu=>jy hu (Wc 0 _ rfl) id,?_⟩;refine aC (xA ((J.a3 i c s).lane j l VU).pair) ?_;rintro v W_ ⟨rfl,rfl⟩;refine ⟨_,rfl,ao.refl _ _,dJ (λXg=>?_) (λXg=>?_)⟩
 ·have:l.pure.pair.ba.length=0:=by show l.p.ba.length=0;omega
  rw [if_pos this] at a;rw [a];exact ⟨rfl,d8.same h (E.new K) trivial⟩
 have VJ:¬ l.pure.pair.ba.length=0:=by show ¬ l.p.ba.length=0;omega
 rw [if_neg VJ] at a;intro W0 Wo;have VW:ai W_ W0:=by rw [Wo];exact cD _
 clear Wo;have V6:=J.new VW;have V_:=ai.aj VW Vv;refine ⟨λu=>ai W0 u,ao.refl _ _,_,_,_,λu hu=>(V6.new hu).h' (k:=2) s rfl,_,λu hu=>(ai.aj hu V_).cell (i:=2) rfl,?_⟩;show bk c.la c.aD.length x.node 2 _;rw [U,WO];refine ed (by omega) (by omega) ?_;rw [fY];intro N Wp;have VX:ai W0 N:=by rw [Wp];exact cD _
 clear Wp;have t:=V6.new VX;have WH:=ai.aj VX V_;have VI:ai W_ N:=VW.new VX;have Wh:ai w N:=(E.new K).new VI;have V9:aw b1=.cr:=h.fresh (by omega);have Wa:=t.a3 i c s;have VH:=Wa.lane j l VU;have W7:=t.node j y V1;refine ⟨λu=>ao (λk=>h0 i j j (aw k)) N u,ao.refl _ _,some ⟨l.pb,0,none⟩,λu hu=>jy hu (jy VI (Wc 0 _ rfl) id) (by show ¬ h0 i j j (aw g);rw [WN];simp [h0]),?_⟩;refine ⟨_,_,_,λu hu=>(hu.aj t.cl (by rw [t.gG];simp [h0])).cell (i:=1) rfl,_,λu hu=>(hu.aj WH (by rw [V9];simp [h0])).cell (i:=2) rfl,?_⟩;refine sH (v:=ptr y.b) (i:=j) t.nodes (by simp [V1]) WO λXa Vw V8=>⟨some ⟨y.b,0,none⟩,λu hu=>jy hu Vw ?_,?_⟩
 ·obtain ⟨W3,WL,rfl⟩:=V8;show ¬ h0 i j j (aw W3);rw [t.jD W3 ⟨0,WL⟩];simp [h0]
 have Vt:c.waiting<=1024:=by have Xh:=Vx.batch;have e:c.pure.waiting=c.waiting:=rfl;omega
 have B:l.bT.length=l.p.ba.length:=VV.bT;have Wl:∀ W8:Option aL,W8.isSome=true->∃ di V2 b_,l.bT=V2::b_/\V2<c.raw.length/\c.di=some di/\0<c.waiting:=by
  intro W8 _;cases Wm:l.bT with
  |nil=>rw [Wm] at B;exact absurd B.symm (by show ¬ l.p.ba.length=0;omega)
  |cons V2 b_=>
   have W:=VV.low V2 (by show V2 ∈ l.bT;rw [Wm];simp);have WI:=h.a3 i c s;cases V':c.di with
   |none=>simp [cd.pure,V'] at W
   |some di=>
    simp [cd.pure,V'] at W;refine ⟨di,V2,b_,rfl,by rw [WI.ds.1];exact W,rfl,?_⟩;have Xh:=Vx.waiting;have e:c.pure.waiting=c.waiting:=rfl;have Xn:l.p.ba.length<=gZ c.pure.aD:=by unfold gZ;exact GJ (cW.2 ⟨l.pure,cg VS,rfl⟩)
    have Xe:l.p.ba.length≠0:=VJ;omega
 have Vr:∀ (lu:a5) q r VR (Wj:bZ lu aw q aN X),xR lu l.pb y.b y.aI l.p y.n q r VR->∃ G F d p',r=.tuple #[d.val,.bool (l.p.pure.step y.n).2.2.isSome]/\Next lu G aw F q VR/\
   bZ G F VR aN { X with nodes:=X.nodes.set j { y with n:=(l.p.pure.step y.n).2.1 },aX:=X.aX.set i { c with aD:=c.aD.set j { l with p:=p' } } }/\p'.pure=(l.p.pure.step y.n).1/\
   ao (λk=>h0 i j j (aw k)) q VR/\(∀ x,(l.p.pure.step y.n).2.2=some x->k1 G VR d x):=by
  intro lu q r VR f V7;have Y:=(f.a3 i c s).lane j l VU;have L:=f.node j y V1;obtain ⟨χ',d,p',rfl,I,Vy,We,WM,WT,WQ,WU,WC,WJ⟩:=Bk Y.pair Y.tag (by simp) (λk s=>f.jB s) f.fj L.jJ V7;obtain ⟨aQ,WA⟩:=f.Gp s VU V1 We WM WT WQ Vy WC WU;exact ⟨_,_,d,p',rfl,aQ,WA,I,We,WJ⟩
 have T:∀ (lu:a5) q,bZ lu aw q aN X->a_ 70 [.pointer (some ⟨l.pb,0,none⟩),.pointer (some ⟨y.b,0,none⟩)] q (xR lu l.pb y.b y.aI l.p y.n q):=by intro lu q f;have Y:=(f.a3 i c s).lane j l VU;have L:=f.node j y V1;exact C5 Y.pair L.node (f.fj _ (by rw [L.jJ];simp)) (f.fj _ (by rw [L.tag];simp)) (λXi=>by have:=Y.tag _ (.inr (.inr Xi));rw [L.jJ] at this;cases this) VV.hL
 have VE:∀ D aA G F d p' q,ai N q->Next A G aw F q D->bZ G F D aN { X with nodes:=X.nodes.set j { y with n:=(l.p.pure.step y.n).2.1 },aX:=X.aX.set i { c with aD:=c.aD.set j { l with p:=p' } } }->p'.pure=(l.p.pure.step y.n).1->
   av D aA (bR.cells d) iM->(∀ x,(l.p.pure.step y.n).2.2=some x->k1 G D d x)->∀ w' A' χ' Ws,Next G A' F χ' D w'->bZ A' χ' w' aN Ws->
   Ws.pure=(bQ.pure { X with nodes:=X.nodes.set j { y with n:=(l.p.pure.step y.n).2.1 },aX:=X.aX.set i { c with aD:=c.aD.set j { l with p:=p' } } }).fp i ((cd.pure { c with aD:=c.aD.set j { l with p:=p' } }).tY j p'.pure l.bT (l.p.pure.step y.n).2.2)->
   (Value.bool true=.bool (X.pure.step x).1/\d8 A aw w aN (X.pure.step x).2 w' λ_=>True):=by
  intro D aA G F d p' q Wj aQ Xo I W4 ar w' A' χ' Ws WY Wz WD;rw [a];refine ⟨rfl,A',χ',Ws,((h.refl (Wh.new Wj)).trans aQ).trans WY,Wz,?_,trivial⟩;rw [WD,bQ.To,cz];have W1:(cd.pure { c with aD:=c.aD.set j { l with p:=p' } })={ c.pure with aD:=c.pure.aD.set j ⟨p'.pure,l.pure.bT⟩ }:=by simp [cd.pure,il,dk.pure]
  have W2:l.bT=l.pure.bT:=rfl;rw [W1,W2,J3 _ _ _ _ _ (by simpa [cd.pure] using VT),I];simp [aM.fp];exact ⟨rfl,rfl⟩
 have VB:∀ p':dE,(X.aX.set i { c with aD:=c.aD.set j { l with p:=p' } })[i]?=some { c with aD:=c.aD.set j { l with p:=p' } }:=λp'=>by simp [WW]
 have Wg:∀ p':dE,(c.aD.set j { l with p:=p' })[j]?=some { l with p:=p' }:=λp'=>by simp [VT]
 refine ⟨?_,?_⟩
 ·refine aC (T A N t) ?_;intro r VR V7;obtain ⟨G,F,d,p',rfl,aQ,WB,I,Wf,WK⟩:=Vr A N r VR t V7;refine ⟨_,_,_,_,_,rfl,Wf,?_⟩;rintro aA Xq WF Wq;obtain ⟨Wr,Wi⟩:=bl WF Wq;refine ⟨Wf.new Wi,f7 (vs:=d.cells) Wr (by simp [bR.cells]) (bR.single d),?_⟩;intro D VL;obtain ⟨VN,Z⟩:=ow (vs:=d.cells) Wr (by simp [bR.cells]) Wi (by omega) VL;clear Wq VL;have VA:=WB.new Z;have VC:∀ x,(l.p.pure.step y.n).2.2=some x->k1 G D d x:=λx WV=>(WK x WV).az (ao.b3 Z) λ_ _ h=>h
  exact Bl (R:=λv w'=>v=.bool (X.pure.step x).1/\d8 A aw w aN (X.pure.step x).2 w' λ_=>True) VA (VB p') (Wg p') U VN (l.p.pure.step y.n).2.2 VC (Wl _) (by show l.bT.length<=1024;rw [B];exact VH.pair.len) Vt
   (VE D aA G F d p' N (ao.refl _ _) (aQ.new Z) VA I VN VC)
 ·rintro O VZ WG VM;obtain ⟨VO,z⟩:=bl WG VM;clear VM;refine ⟨ao.b3 z,?_⟩;refine aC (T _ VZ (t.At z)) ?_;intro r V0 V7;obtain ⟨G,F,d,p',rfl,aQ,V4,I,VG,Wb⟩:=Vr _ VZ r V0 (t.At z) V7;have Q:aw O=.cr:=t.fresh (by omega);have VP:=VG.aj VO (by rw [Q];simp [h0]);refine ⟨_,_,_,_,_,rfl,(ao.b3 z).trans VG (λk _ h=>h),f7 (vs:=d.cells) VP (by simp [bR.cells]) (bR.single d),?_⟩;intro M Vs;have VQ:av M O d.cells iM:=by have hw:M=ct V0 ⟨O,0,none⟩ 0 d.cells:=Vs;rw [hw];have:=VP.ct (o:=0) (i:=0) (vs:=d.cells);rw [pn (by simp [bR.cells])] at this;exact this
  have V:ao (λk=>k=O) V0 M:=by rw [Vs];exact hT _ _ _ _ _
  clear Vs;have S:O<VZ.heap.size:=VO.lt;have W6:=z.size;have V3:G O:=(aQ.iff O).2 (.inr ⟨S,.inr ⟨by omega,S⟩,Q⟩);have WX:F O=.cr:=by
   by_cases s:F O=.cr
   ·exact s
   ·exact absurd Q (aQ.grow O S s)
  have V5:=V4.other V (λk VF=>by rw [VF];exact ⟨V3,WX⟩);have VK:∀ k,gi A aw F N k->G k:=by
   intro k VF;refine (aQ.iff k).2 ?_;rcases VF with VF | VF
   ·exact .inl VF
   ·exact .inr ⟨by omega,.inl VF.2.1,VF.2.2⟩
  have P:=V5.mA VK (λk s=>.inl s);have WS:Next A (gi A aw F N) aw F N M:=by refine ⟨((ao.b3 z).trans aQ.az λ_ _ h=>h).trans V λk WR e=>by omega,λk WR s=>aQ.grow k (by omega) s,λ_=>Iff.rfl⟩
  have VD:∀ x,(l.p.pure.step y.n).2.2=some x->k1 (gi A aw F N) M d x:=λx WV=>(Wb x WV).az (V.mono λk _ e=>by rw [e];exact V3) λk _ s=>VK k s
  exact Bl (R:=λv w'=>v=.bool (X.pure.step x).1/\d8 A aw w aN (X.pure.step x).2 w' λ_=>True) P (VB p') (Wg p') U VQ (l.p.pure.step y.n).2.2 VD (Wl _) (by show l.bT.length<=1024;rw [B];exact VH.pair.len) Vt
   (VE M O _ F d p' N (ao.refl _ _) WS P I VQ VD)
end
section
theorem CP {α:Type} {l:List α} {k:Nat} {x:α} (h:l[k]?=some x):l.drop k=x::l.drop (k+1):=by obtain ⟨a,b⟩:=lq.1 h;rw [oM a,b]
def oE (l:List fK):List ax:=l.map fK.cells
theorem A2 (l:List fK):∀ r ∈ oE l,r.length=3:=by intro r a;simp only [oE,cW] at a;obtain ⟨l,_,rfl⟩:=a;rfl
theorem A3 {l:List fK} {x:fK} (h:l[i]?=some x):(oE l)[i]?=some x.cells:=by simp [oE,h]
structure kL (w u:ak) (a:al) (cap:Nat) (out:List fK):Prop where
 new:ai w u
 own:a2 u zn 3 a out.length cap (oE out).flatten
 fresh:∀ k,aK a k->w.heap.size<=k
theorem kL.step {u bq:ak} {a:al} {cap:Nat} {out:List fK} (h:kL w u a cap out) (b:ai u bq):kL w bq a cap out:=⟨h.new.new b,h.own.new b,h.fresh⟩
theorem kL.append {w u bE:ak} {a:al} {cap b:Nat} {out:List fK} (h:kL w u a cap out) (x:fK) (F:b=u.heap.size) (hw:bE=u.alloc (.cells x.cells.toArray 89)) (L:out.length<=1000000000) :
  ∃ A g E,(Builtin.append_ #[85,85] 85 #[.slice a out.length cap,.slice (some ⟨b,0,none⟩) 1 1]).run prog bE=.ok (.slice A (out++[x]).length g) E/\kL w E A g (out++[x]):=by
 obtain ⟨au,C⟩:=bl F hw;have B:=h.step C;obtain ⟨J,H,y,f,q⟩:=fL (T:=89) (z:=.agg #[.int .i64 0,.int .i64 0,.int .i64 0]) (n:=3) (m:=24) (by kernel_rfl);have i:a2 bE zn J.size a out.length cap (oE out).flatten:=by rw [f];exact B.own
 obtain ⟨ap,dt,K,j,d,r,p⟩:=i.append (P:=prog) (t:=85) (ty:=85) Tryz.underlying85 H y (by rw [f];rfl) (by omega)
  (s:=some ⟨b,0,none⟩) (m:=1) (c:=1) (news:=x.cells) (by rw [f];rfl) (fk au (by simp [fK.cells])) (by simp [fK.cells,single]) (by omega) (by rw [q];omega)
 rw [f] at d;have G:(oE (out++[x])).flatten=(oE out).flatten++x.cells:=by simp [oE]
 refine ⟨ap,dt,K,by simpa using j,B.new.trans r λk I l=>?_,?_,λk l=>?_⟩
 ·have:=h.fresh k l;omega
 ·rw [G];simpa using d
 ·rcases p with e | e
  ·exact h.fresh k (e▸l)
  ·obtain ⟨o,D⟩:=l;rw [e] at D;simp at D;have:=h.new.size;have:=C.size;omega
theorem kL.nil (w:ak):kL w w none 0 []:=⟨ao.refl _ _,a2.nil _ _ _,λk ⟨o,a⟩=>by cases a⟩
theorem Gj (i:Nat):∀ (j:Nat) (ls:List cP),(kP i j ls).length<=ls.length
 | _,[]=>by simp [kP]
 |j,l::ls=>by have:=Gj i (j+1) ls;simp only [kP,dH,hh];split<;>simp<;>omega
theorem zZ {n:Nat}:∀ (i:Nat) (cs:List bP),(∀ c ∈ cs,c.aD.length<=n)->(jQ i cs).length<=cs.length * n
 | _,[],_=>by simp [jQ]
 |i,c::cs,h=>by
  have b:=zZ (i+1) cs λc a=>h c (fD _ a)
  have d:=Gj i 0 c.aD;have e:=h c (e_ ..);simp only [jQ,dH,hh,ra,Nat.one_mul];omega
theorem z0:∀ (i:Nat) (b_:List c4),(mh i b_).length=b_.length
 | _,[]=>rfl
 |i,p::b_=>by simp [mh,z0 (i+1) b_]
theorem I4 (h:bZ A aw w aN X) (I:nU X.pure) (V2:X.bV.length<=100000000):a_ 36 [ptr aN] w λv w'=>
  ∃ a cap,v=.slice a X.pure.e0.length cap/\kL w w' a cap X.pure.e0:=by
 refine bc Tryz.func36 ?_;rw [ptr,R_];have S:∀ c ∈ X.pure.aX,c.aD.length<=5:=by intro c x;obtain ⟨i,VW⟩:=eF.1 x;have V0:=(I.a3 i c VW).aD;have V6:=I.nodes;split at V0<;>omega
 have VA:X.pure.aX.length=X.aX.length:=by simp [bQ.pure]
 have VV:=zZ 0 X.pure.aX S;have VU:=I.aX;have Vr:∀ (i:Nat) (c:cd),X.aX[i]?=some c->X.pure.aX[i]?=some c.pure:=λi c x=>by simp [bQ.pure,x]
 refine ⟨_,_,_,h.cl.cell rfl,?_⟩;refine c2 mix (λm env u=>∃ (i:Nat) (Vw:ax) (a:al) (cap:Nat) (out:List fK),i<=X.aX.length/\m=X.aX.length - i/\env=wA ⟨aN,0,none⟩ a out.length cap (some ⟨X.aY,0,none⟩) X.aX.length X.aX.length X.aX.length i Vw/\
   kL w u a cap out/\out++jQ i (X.pure.aX.drop i)=jQ 0 X.pure.aX) X.aX.length ⟨0,_,none,0,[],by omega,by omega,rfl,kL.nil w,rfl⟩ ?_
 rintro m env u ⟨i,Vw,a,cap,out,VW,rfl,rfl,B,o⟩;rw [lw];refine a' (λVL=>?_) (λVL=>?_)
 ·have VD:i<X.aX.length:=by omega
  obtain ⟨c,x⟩:∃ c,X.aX[i]?=some c:=⟨X.aX[i],by simp [VD]⟩;have Vx:=h.new B.new;refine ed (by omega) (by omega) ?_;rw [fY];have y:b6 u ⟨X.aY,0+i * 7,none⟩ 0 c.cells:=kR λk v an=>by have:=Vx.h' x an;simpa using this
  refine ⟨_,_,_,_,_,_,_,_,_,_,_,y,?_⟩;rintro b1 w1 Vy Vs;obtain ⟨au,V⟩:=bl Vy Vs;refine ⟨f7 (vs:=c.cells) au (by simp [cd.cells]) (by simp [cd.cells,single]),?_⟩;intro V_ Vt;obtain ⟨VR,VN⟩:=ow (vs:=c.cells) au (by simp [cd.cells]) V (by omega) Vt;clear Vs Vt au V;refine ⟨_,_,_,VR.cell (i:=2) rfl,?_⟩;have H:X.pure.aX.drop i=c.pure::X.pure.aX.drop (i+1):=by rw [xB (by omega)];congr 1;have:=Vr i c x;rw [bF (by omega)] at this;simpa using this
  rw [H] at o;have VQ:c.pure.aD.length=c.aD.length:=by simp [cd.pure]
  have V1:=S c.pure (cg (Vr i c x));refine c2 mix (λm env z=>∃ (j:Nat) (VX:ax) (N:al) (n:Nat) (d:List fK),j<=c.aD.length/\m=c.aD.length - j/\env=tU ⟨aN,0,none⟩ N d.length n i (some ⟨X.aY,0,none⟩) X.aX.length X.aX.length X.aX.length i c.la c.aD.length c.lc c.aD.length j VX/\
   kL w z N n d/\d++kP i j (c.pure.aD.drop j)++jQ (i+1) (X.pure.aX.drop (i+1))=jQ 0 X.pure.aX) c.aD.length ⟨0,_,a,cap,out,by omega,by omega,rfl,B.step VN,by rw [<-o];simp [jQ]⟩ ?_
  rintro m env z ⟨j,VX,N,n,d,V7,rfl,rfl,q,e⟩;rw [Qx];have P:=h.new q.new;have VJ:d.length<=30:=by have:=congrArg List.length e;simp only [dH] at this;omega
  refine a' (λT=>?_) (λT=>?_)
  ·have VF:j<c.aD.length:=by omega
   obtain ⟨l,VI⟩:∃ l,c.aD[j]?=some l:=⟨c.aD[j],by simp [VF]⟩;obtain ⟨g,R,_,_,VB,_⟩:=a2.row (P.a3 i c x).own (nh c.aD) (by omega) (mi VI);rw [R];refine ed (by omega) (by omega) ?_;rw [fY];refine ⟨_,_,_,_,VB,?_⟩;rintro V5 V' Vz Vu;obtain ⟨M,W⟩:=bl Vz Vu;refine ⟨f7 (vs:=l.cells) M (by simp [dk.cells]) (by simp [dk.cells,single]),?_⟩;intro Wa Vv;obtain ⟨VS,Y⟩:=ow (vs:=l.cells) M (by simp [dk.cells]) W (by omega) Vv;clear Vu Vv M W;refine ⟨_,VS.cell (i:=0) rfl,?_⟩;have VM:=((P.new Y).a3 i c x).lane j l VI;refine aC (xA VM.pair) ?_;rintro v V4 ⟨rfl,rfl⟩;have G:c.pure.aD.drop j=l.pure::c.pure.aD.drop (j+1):=by
    rw [xB (by omega)];congr 1;have:c.pure.aD[j]?=some l.pure:=by simp [cd.pure,VI]
    rw [bF (by omega)] at this;simpa using this
   rw [G] at e;have C:=q.step Y;rw [<-R];refine ⟨_,rfl,a' (λV3=>?_) (λV3=>?_)⟩
   ·have K:0<l.pure.pair.ba.length:=by show 0<l.p.ba.length;omega
    rintro dn VY E L;obtain ⟨ap,dt,VT,t,s⟩:=C.append ⟨-1,i,j⟩ E L (by omega);refine ⟨ap,_,dt,VT,t,?_⟩;rw [show IntKind.i64.wrap ((j:Int)+1)=((j+1:Nat):Int) by rw [bC (by omega) (by omega)];rfl];refine ⟨c.aD.length - (j+1),by omega,j+1,_,ap,dt,d++[⟨-1,i,j⟩],by omega,rfl,rfl,s,?_⟩;rw [<-e];simp [kP,K]
   ·have K:¬ 0<l.pure.pair.ba.length:=by show ¬ 0<l.p.ba.length;omega
    rw [show IntKind.i64.wrap ((j:Int)+1)=((j+1:Nat):Int) by rw [bC (by omega) (by omega)];rfl];refine ⟨c.aD.length - (j+1),by omega,j+1,_,N,n,d,by omega,rfl,rfl,C,?_⟩;rw [<-e];simp [kP,K]
  ·have VE:j=c.aD.length:=by omega
   rw [QP];rw [show IntKind.i64.wrap ((i:Int)+1)=((i+1:Nat):Int) by rw [bC (by omega) (by omega)];rfl];refine ⟨X.aX.length - (i+1),by omega,i+1,_,N,n,d,by omega,rfl,rfl,q,?_⟩;rw [<-e,VE,<-VQ,rb];simp [kP]
 ·have VC:i=X.aX.length:=by omega
  rw [VC,<-VA,rb] at o;have J:out=jQ 0 X.pure.aX:=by simpa [jQ] using o
  rw [QO];have Vx:=h.new B.new;refine ⟨_,_,_,Vx.cl.cell (i:=3) rfl,?_⟩;have VP:X.pure.bV.length=X.bV.length:=by simp [bQ.pure]
  refine c2 mix (λm env z=>∃ (i:Nat) (Vw:ax) (a:al) (cap:Nat) (out:List fK),i<=X.bV.length/\m=X.bV.length - i/\env=wB a out.length cap X.dy X.bV.length X.gK X.bV.length i Vw/\
   kL w z a cap out/\out++mh i (X.pure.bV.drop i)=X.pure.e0) X.bV.length ⟨0,_,a,cap,out,by omega,by omega,rfl,B,by rw [J];rfl⟩ ?_
  rintro m env z ⟨k,V9,VZ,O,D,V8,rfl,rfl,r,f⟩;rw [Qy];have Q:=h.new r.new;have VK:D.length<=100000030:=by have:=congrArg List.length f;simp only [dH,aM.e0,z0] at this;omega
  refine a' (λU=>?_) (λU=>?_)
  ·have VH:k<X.bV.length:=by omega
   obtain ⟨b,p,VO⟩:∃ b p,X.bV[k]?=some (b,p):=⟨X.bV[k].1,X.bV[k].2,by simp [VH]⟩;have Z:=(Q.eC _ (cg VO)).1;refine sH (v:=ptr b) (i:=k) Q.fU (by simp [VO]) rfl λbw F _=>⟨some ⟨b,0,none⟩,F,?_⟩
   refine aC (Ja Z) ?_;rintro v V4 ⟨rfl,rfl⟩;refine ⟨_,rfl,?_⟩;refine aC (C4 Z) ?_;rintro v VY ⟨rfl,rfl⟩;refine ⟨_,rfl,?_⟩;rintro dn VY E L;obtain ⟨ap,dt,VT,t,s⟩:=r.append ⟨k,p.a3,p.node⟩ E L (by omega);refine ⟨ap,_,dt,VT,t,?_⟩;rw [show IntKind.i64.wrap ((k:Int)+1)=((k+1:Nat):Int) by rw [bC (by omega) (by omega)];rfl];refine ⟨X.bV.length - (k+1),by omega,k+1,_,ap,dt,_,by omega,rfl,rfl,s,?_⟩;have G:X.pure.bV.drop k=p.pure::X.pure.bV.drop (k+1):=CP (by simp [bQ.pure,VO]);rw [<-f,G];rw [mh,ln];rfl
  ·have VG:k=X.bV.length:=by omega
   rw [VG,<-VP,rb] at f;have:D=X.pure.e0:=by simpa [mh] using f
   subst this;rw [QQ];exact ⟨VZ,O,rfl,r⟩
end
section
def h2 (ls:List dk):List (Nat×dE):=(ls.filter λl=>decide (0<l.p.ba.length)).map λl=>(l.pb,l.p)
theorem CQ (l:dk) (ls:List dk):h2 (l::ls)=if 0<l.p.ba.length then (l.pb,l.p)::h2 ls else h2 ls:=by
 unfold h2;rw [List.filter_cons];by_cases h:0<l.p.ba.length
 ·simp [h]
 ·simp [h]
theorem J4 (ls:List dk):(h2 ls).map (λp=>p.2.pure)=((ls.map dk.pure).map cP.pair).filter λp=>decide (0<p.ba.length):=by
 induction ls with
 |nil=>rfl
 |cons l ls a=>
  rw [CQ,gA,gA,List.filter_cons];have:l.pure.pair.ba=l.p.ba:=rfl;rw [this,<-a];by_cases h:0<l.p.ba.length
  ·simp [h];rfl
  ·simp [h]
theorem CZ {x:Nat×dE} (h:x ∈ h2 ls):∃ (j:Nat) (l:dk),ls[j]?=some l/\x=(l.pb,l.p)/\0<l.p.ba.length:=by simp only [h2,cW,u5,decide_eq_true_eq] at h;obtain ⟨l,⟨a,b⟩,c⟩:=h;obtain ⟨j,d⟩:=eF.1 a;exact ⟨j,l,d,c.symm,b⟩
def pV (i:Nat) (ls:List dk):Tag->Tag
 | .lane c n=>if c=i then (match ls[n]? with
  |some l=>if 0<l.p.ba.length then .ib l.pb else .lane c n
  |none=>.lane c n) else .lane c n
 |t=>t
theorem Hv (h:∀ n,t≠.lane i n):pV i ls t=t:=by
 cases t with
 |lane c n=>simp only [pV];rw [if_neg];rintro rfl;exact h n rfl
 | _=>rfl
theorem A4 (h:pV i ls t≠.cr):t≠.cr:=by rintro rfl;exact h rfl
theorem IZ {n:Nat} {l:dk} (a:ls[n]?=some l) (b:0<l.p.ba.length):pV i ls (.lane i n)=.ib l.pb:=by simp [pV,a,b]
structure Ca (A:a5) (aw:Nat->Tag) (w:ak) (aN:Nat) (X:bQ) (c:cd) (k:Nat) (u:ak) (dy:al) (gK:Nat) (os:List (Nat×dE)):Prop where
 az:ao (λz=>aw z=.cl\/aw z=.fU) w u
 cl:av u aN (X.cells.set 3 (.slice dy os.length gK)) ly
 own:a2 u n7 1 dy os.length gK (os.map λp=>ptr p.1)
 tag:∀ z,aK dy z->aw z=.fU\/w.heap.size<=z
 eq:os++h2 (c.aD.drop k)=X.bV++h2 c.aD
theorem J5 (h:bZ A aw w aN X) (Z:nU X.pure) (V5:X.bV.length<=100000000) (VQ:X.aX[i]?=some c)
  {j:ax} {R:cA} (V1:∀ u dy gK os,Ca A aw w aN X c c.aD.length u dy gK os->∀ Vy,W prog (sub (bo f22) [1,1,1,1]) (zO (some ⟨X.aY,0+i * 7,none⟩) Vy) (dB prog f22 R) u) :
  cu prog (.loop (sub (bo f22) [1,1,1,0,1,0,0])) (rW ⟨aN,0,none⟩ (some ⟨X.aY,0+i * 7,none⟩) c.la c.aD.length c.lc c.aD.length 0 j)
   (aO 0 (aV (λenv w=>W prog (sub (bo f22) [1,1,1,1]) env (dB prog f22 R) w) (dB prog f22 R))) w:=by
 have VF:=Z.a3 i c.pure (by simp [bQ.pure,VQ]);have V4:=Z.nodes;have V3:c.aD.length<=5:=by
  have V0:=VF.aD;have:c.pure.aD.length=c.aD.length:=by simp [cd.pure]
  split at V0<;>omega
 have VL:∀ ls:List dk,(h2 ls).length<=ls.length:=λls=>by simp [h2];exact u0 _ _
 have VT:=VL c.aD;refine c2 mix (λm env u=>∃ (k:Nat) (Vy:ax) (dy:al) (gK:Nat) (os:List (Nat×dE)),k<=c.aD.length/\m=c.aD.length - k/\env=rW ⟨aN,0,none⟩ (some ⟨X.aY,0+i * 7,none⟩) c.la c.aD.length c.lc c.aD.length k Vy/\Ca A aw w aN X c k u dy gK os) c.aD.length
  ⟨0,_,X.dy,X.gK,X.bV,by omega,by omega,rfl,ao.refl _ _,h.cl,h.fU,λz au=>.inl (h.jZ z au),rfl⟩ ?_
 rintro m env u ⟨k,Vy,dy,gK,os,V9,rfl,rfl,aW⟩;rw [Rn];have VS:os.length<=100000005:=by have:=congrArg List.length aW.eq;simp only [dH] at this;omega
 refine a' (λU=>?_) (λU=>?_)
 ·have VI:k<c.aD.length:=by omega
  obtain ⟨l,VJ⟩:∃ l,c.aD[k]?=some l:=⟨c.aD[k],by simp [VI]⟩;have F:=h.a3 i c VQ;have Vr:a2 u lz 2 c.la c.aD.length c.lc (gY c.aD).flatten:=F.own.az aW.az λz au=>by rw [F.tag z au];simp
  obtain ⟨g,Q,_,_,VH,_⟩:=a2.row Vr (nh c.aD) (by omega) (mi VJ);have V:=F.lane k l VJ;rw [Q];refine ed (by omega) (by omega) ?_;rw [fY];refine ⟨_,_,_,_,VH,?_⟩;rintro VY V_ VC Vt;obtain ⟨M,Y⟩:=bl VC Vt;refine ⟨f7 (vs:=l.cells) M (by simp [dk.cells]) (by simp [dk.cells,single]),?_⟩;intro VU Vu;obtain ⟨Vx,x⟩:=ow (vs:=l.cells) M (by simp [dk.cells]) Y (by omega) Vu;clear Vt Vu M Y;refine ⟨_,Vx.cell (i:=0) rfl,?_⟩;have D:ao (λz=>aw z=.cl\/aw z=.fU) w VU:=aW.az.new x;have VK:dM A VU l.pb l.p:=V.pair.az D (λz au=>by rw [V.tag z au];simp) (λz au=>h.fj z (by rcases au with e | e<;>rw [e]<;>simp));refine aC (xA VK) ?_;rintro v V8 ⟨rfl,rfl⟩;have VG:=CP VJ;have heq:=aW.eq;rw [VG,CQ] at heq;rw [<-Q];have b:=ai.aj x aW.cl;have q:=aW.own.new x;refine ⟨_,rfl,a' (λV6=>?_) (λV6=>?_)⟩
  ·have K:0<l.p.ba.length:=by omega
   rw [if_pos K] at heq;intro VV Vv;have y:ai V8 VV:=by rw [Vv];exact cD _
   clear Vv;have d:=ai.aj y b;have VM:=ai.aj y Vx;have I:=q.new y;have O:¬ aK dy aN:=λVB=>by
    rcases aW.tag aN VB with e | e
    ·rw [h.gG] at e;cases e
    ·have:=h.cl.lt;omega
   have N:¬ aK dy VY:=λVB=>by have:=aW.own.lt VB;omega
   refine ⟨λz=>ao (aK dy) VV z,ao.refl _ _,_,_,_,λz au=>(au.aj d O).cell (i:=3) rfl,_,λz au=>(au.aj VM N).cell (i:=0) rfl,?_⟩;rintro VZ VW VD Vw;obtain ⟨VN,f⟩:=bl VD Vw;clear Vw;refine ⟨ao.b3 f,?_⟩;obtain ⟨V7,V2,VO,B,VE⟩:=fL (T:=103) (z:=.pointer none) (n:=1) (m:=8) (by kernel_rfl);have J:a2 VW n7 V7.size dy os.length gK (os.map λp=>ptr p.1):=by rw [B];exact I.new f
   obtain ⟨ap,dt,VP,Vs,r,H,VA⟩:=J.append (P:=prog) (t:=106) (ty:=106) Tryz.underlying106 V2 VO (by rw [B];rfl) (by omega)
    (s:=some ⟨VZ,0,none⟩) (m:=1) (c:=1) (news:=[ptr l.pb]) (by rw [B];rfl) (fk VN (by simp [ptr])) (by simp [ptr,single]) (by omega) (by rw [VE];omega)
   rw [B] at r;have a:av VP aN (X.cells.set 3 (.slice dy os.length gK)) ly:=H.aj (ai.aj f d) O;refine ⟨ap,_,dt,VP,Vs,(ao.b3 f).trans H λ_ _ h=>h,⟨_,a.cell (i:=3) rfl⟩,a.frozen,?_⟩;intro VX L;have S:ao (λz=>z=aN) VP VX:=by rw [L];exact eV _ _ _ _
   have G:av VX aN (X.cells.set 3 (.slice ap (os.length+1) dt)) ly:=by rw [L];have:=a.setCell (i:=3) (.slice ap (os.length+1) dt);rw [List.set_set] at this;exact this
   clear L;have E:ai u VW:=(x.new y).new f;have C:∀ z,aK ap z->aw z=.fU\/w.heap.size<=z:=by
    intro z au;rcases VA with e | e
    ·exact aW.tag z (e▸au)
    ·obtain ⟨o,VR⟩:=au;rw [e] at VR;simp at VR;have:=aW.az.size;have:=E.size;exact .inr (by omega)
   rw [show IntKind.i64.wrap ((k:Int)+1)=((k+1:Nat):Int) by rw [bC (by omega) (by omega)];rfl];refine ⟨c.aD.length - (k+1),by omega,k+1,_,ap,dt,os++[(l.pb,l.p)],by omega,rfl,rfl,?_,?_,?_,C,?_⟩
   ·refine ((aW.az.new E).trans H λz U au=>?_).trans S λz _ e=>.inl (by rw [e];exact h.gG)
    rcases aW.tag z au with e | e
    ·exact .inr e
    ·omega
   ·simpa using G
   ·have:=r.az S (λz au e=>?_)
    ·simpa using this
    ·rcases C z au with Vz | Vz
     ·rw [e,h.gG] at Vz;cases Vz
     ·have:=h.cl.lt;omega
   ·rw [<-heq];simp
  ·have K:¬ 0<l.p.ba.length:=by omega
   rw [if_neg K] at heq;rw [show IntKind.i64.wrap ((k:Int)+1)=((k+1:Nat):Int) by rw [bC (by omega) (by omega)];rfl];exact ⟨c.aD.length - (k+1),by omega,k+1,_,dy,gK,os,by omega,rfl,rfl,D,b,q,aW.tag,heq⟩
 ·have:k=c.aD.length:=by omega
  subst this;exact V1 u dy gK os aW _
theorem Mq (ls:List dk):((h2 ls).map Prod.fst).Sublist (ls.map dk.pb):=by
 have:(h2 ls).map Prod.fst=(ls.filter λl=>decide (0<l.p.ba.length)).map dk.pb:=by simp [h2,Function.comp_def]
 rw [this];exact (List.filter_sublist).map _
def pQ (i:Nat) (t:Tag):Prop:=t=.cl\/t=.fU\/t=.aX\/iy i t
open Classical in
theorem bZ.die (h:bZ A aw w aN X) (g:X.aX[i]?=some c) {dy:al} {gK:Nat}
  (d:ao (λz=>aw z=.cl\/aw z=.fU\/aw z=.aX) w w') (K:av w' aN (X.cells.set 3 (.slice dy (X.bV++h2 c.aD).length gK)) ly) (F:a2 w' n7 1 dy (X.bV++h2 c.aD).length gK ((X.bV++h2 c.aD).map λp=>ptr p.1))
  (C:∀ z,aK dy z->aw z=.fU\/w.heap.size<=z) {c':cd} (N:c'.aD=[]/\c'.la=none/\c'.lc=0/\c'.di=none/\c'.raw=[]/\c'.batch=[]) (f:av w' X.aY (fv (X.aX.set i c')).flatten jN) :
  ∃ A' χ',Next A A' aw χ' w w'/\bZ A' χ' w' aN { X with aX:=X.aX.set i c',bV:=X.bV++h2 c.aD,dy:=dy,gK:=gK }:=by
 let χ':Nat->Tag:=λk=>if aK dy k then .fU else pV i c.aD (aw k)
 have t1:∀ k,aK dy k->χ' k=.fU:=λk d=>if_pos d
 have t2:∀ k,¬ aK dy k->χ' k=pV i c.aD (aw k):=λk d=>if_neg d
 have Vt:∀ k,k<w.heap.size->χ' k≠.cr->aw k≠.cr:=by
  intro k E s;by_cases f:aK dy k
  ·rcases C k f with e | e
   ·rw [e];simp
   ·omega
  ·rw [t2 k f] at s;exact A4 s
 have Vv:∀ k,k<w.heap.size->¬ pQ i (aw k)->aw k≠.cr->χ' k=aw k:=by
  intro k E V _;by_cases f:aK dy k
  ·rcases C k f with e | e
   ·exact absurd (.inr (.inl e)) V
   ·omega
  ·rw [t2 k f];exact Hv λn e=>V (.inr (.inr (.inr (by rw [e];rfl))))
 obtain ⟨m,aQ⟩:=h.move (T:=pQ i) (χ':=χ') (w':=w') (d.mono λk _ g=>by rcases g with e | e | e<;>simp [pQ,e]) (by simp [pQ,iy]) Vt Vv;have f2:=a2.cK m h.nodes h.jD (by simp [pQ,iy]) (by simp);have s:=h.a3 i c g;have B:∀ k,k<w.heap.size->aw k≠.fU->¬ aK dy k:=λk E P f=>by
  rcases C k f with e | e
  ·exact P e
  ·omega
 have H:∀ (j:Nat) (l:dk),c.aD[j]?=some l->aw l.pb=.lane i j:=λj l D=>(s.lane j l D).tag _ (.inl rfl)
 refine ⟨_,χ',aQ,m.l9,λk g=>?_,?_,?_,f2.1,f2.2,λq z au=>(h.node q z au).cK m (by simp [pQ,iy]) (by simp [pQ,iy]),f,?_,λq z au=>?_,F,t1,λx G=>?_,?_⟩
 ·rcases g with g | g
  ·by_cases f:aK dy k
   ·exact F.lt f
   ·rw [t2 k f] at g;exact fX (h.jB (A4 g)) d.size
  ·exact fX g.1 d.size
 ·simpa [bQ.cells] using K
 ·rw [t2 aN (B aN h.cl.lt (by rw [h.gG];simp)),h.gG];rfl
 ·show χ' X.aY=_;rw [t2 _ (B _ h.cls.lt (by rw [h.fb];simp)),h.fb];rfl
 ·simp only [ik] at au;split at au
  ·rename_i he;subst he;split at au
   ·simp only [e8] at au;subst au;obtain ⟨Q,R,Y,Z,S,U⟩:=N;refine ⟨?_,λk d=>?_,λj l D=>?_,λ_=>⟨S,U⟩,λb J=>?_,?_⟩
    ·rw [Q,R,Y];exact a2.nil _ _ _
    ·rw [R] at d;obtain ⟨o,Vu⟩:=d;cases Vu
    ·rw [Q] at D;simp at D
    ·rw [Z] at J;cases J
    ·rw [S,U];exact ⟨rfl,λ_ _ _ g=>by simp at g⟩
   ·cases au
  ·rename_i he;refine (h.a3 q z au).cK m λt r I=>?_
   rcases I with e | e | e | e
   ·rw [e] at r;cases r
   ·rw [e] at r;cases r
   ·rw [e] at r;cases r
   ·exact DL he t r (.inr e)
 ·rcases jL.1 G with G | G
  ·exact dM.cK m (h.eC x G).1 (h.eC x G).2 (by simp [pQ,iy]) (by simp)
  ·obtain ⟨j,l,D,rfl,W⟩:=CZ G;have u:=s.lane j l D;have O:∀ k,l.p.mut l.pb k->k<w.heap.size:=λk d=>h.jB (by rw [u.tag k d];simp)
   have L:∀ k,l.p.mut l.pb k->χ' k=.ib l.pb:=λk d=>by rw [t2 k (B k (O k d) (by rw [u.tag k d];simp)),u.tag k d];exact IZ D W
   refine ⟨?_,L⟩;refine (u.pair.mA (λk E Vr=>m.old k E Vr) (λk d=>m.l9 k (by rw [L k d];simp))).az d (λk d g=>?_) (λk g=>m.l9 k ?_)
   ·rw [u.tag k d] at g;rcases g with e | e | e<;>cases e
   ·by_cases f:aK dy k
    ·rw [t1 k f];simp
    ·rw [t2 k f];rcases g with e | e | e<;>rw [e]<;>simp [pV]
 ·show ((X.bV++h2 c.aD).map Prod.fst).Nodup;rw [iX,List.nodup_append];refine ⟨h.nodup,(Mq c.aD).nodup ?_,?_⟩
  ·refine AN.2 λa b M f Vs he=>?_
   simp only [fC] at M f;simp only [List.getElem_map] at he;have r:=H a _ (bF M);have I:=H b _ (bF f);rw [he,I] at r;simp at r <;> omega
  ·intro a M b f he;obtain ⟨x,G,rfl⟩:=cW.1 M;obtain ⟨y,Vw,rfl⟩:=cW.1 f;obtain ⟨j,l,D,rfl,W⟩:=CZ Vw;have r:=(h.eC x G).2 x.1 (.inl rfl);have I:=H j l D;rw [he,I] at r;cases r
theorem N6 (h:bZ A aw w aN X) (N:nU X.pure) (M:X.bV.length<=100000000) (c:Int):a_ 22 [ptr aN,.int .i64 c] w λv w'=>
  v=.bool (X.pure.die c).1/\d8 A aw w aN (X.pure.die c).2 w' λ_=>True:=by
 refine bc Tryz.func22 ?_;rw [ptr,TC];refine aC (C6 h c) ?_;rintro v w1 ⟨rfl,rfl⟩;rcases X.rU c with ⟨n,D⟩ | ⟨i,x,rfl,n,D⟩
 ·have ar:X.pure.die c=(false,X.pure):=by simp [aM.die,n]
  have F:X.pure.alive c=false:=by simp [aM.alive,n]
  rw [ar,F];exact ⟨_,rfl,rfl,d8.same h (ao.refl _ _) trivial⟩
 ·have F:X.pure.alive i=x.alive:=by simp [aM.alive,D,cd.pure]
  rw [F];refine ⟨_,rfl,er (λV=>?_) (λW=>?_)⟩
  ·have ar:X.pure.die i=(false,X.pure):=by simp [aM.die,D,cd.pure,V]
   rw [ar];exact ⟨rfl,d8.same h (ao.refl _ _) trivial⟩
  refine aC (r6 h n) ?_;rintro v Y ⟨rfl,rfl⟩;have ar:X.pure.die i=(true,{ X.pure with bV:=X.pure.bV++(x.pure.aD.map cP.pair).filter (λp=>decide (0<p.ba.length)),aX:=X.pure.aX.set i { x.pure with alive:=false,aD:=[],batch:=none,waiting:=0 } }):=by simp [aM.die,D,cd.pure,W]
  rw [ar];refine ⟨_,rfl,_,_,_,h.h' (k:=2) n rfl,?_⟩;refine J5 h N M n ?_;intro u dy gK os aW Z;rw [Sb];have O:os=X.bV++h2 x.aD:=by have:=aW.eq;rw [rb] at this;simpa [h2] using this
  subst O;have g:av u X.aY (fv X.aX).flatten jN:=aW.az.aj h.cls (by rw [h.fb];simp);refine ⟨⟨_,k7 (k:=0) g n rfl⟩,g.frozen,?_⟩;intro P C;obtain ⟨a,o⟩:=kX (k:=0) (c':={ x with alive:=false }) g n (by omega) (v:=.bool false) (by simp [cd.cells]);have l:P=u.setCell ⟨X.aY,0+i * 7+0,none⟩ (.bool false):=C;rw [<-l] at a;have H:ao (λz=>z=X.aY) u P:=by rw [l];exact eV _ _ _ _
  clear C l;refine ⟨⟨_,k7 (k:=2) a o rfl⟩,a.frozen,?_⟩;intro S t;obtain ⟨b,q⟩:=kX (k:=2) (c':={ x with alive:=false,aD:=[],la:=none,lc:=0 }) a o (by omega) (v:=.slice none 0 0) (by simp [cd.cells]);rw [<-t] at b;have I:ao (λz=>z=X.aY) P S:=by rw [t];exact eV _ _ _ _
  clear t;refine ⟨⟨_,k7 (k:=3) b q rfl⟩,b.frozen,?_⟩;intro T y;obtain ⟨d,r⟩:=kX (k:=3) (c':={ x with alive:=false,aD:=[],la:=none,lc:=0,di:=none,raw:=[],batch:=[] }) b q (by omega) (v:=.slice none 0 0) (by simp [cd.cells]);rw [<-y] at d;have J:ao (λz=>z=X.aY) S T:=by rw [y];exact eV _ _ _ _
  clear y;refine ⟨⟨_,k7 (k:=4) d r rfl⟩,d.frozen,?_⟩;intro Q B;obtain ⟨f,R⟩:=kX (k:=4) (c':={ x with alive:=false,aD:=[],la:=none,lc:=0,di:=none,raw:=[],batch:=[],waiting:=0 }) d r (by omega) (v:=.int .i64 0) (by simp [cd.cells]);rw [<-B] at f;have K:ao (λz=>z=X.aY) T Q:=by rw [B];exact eV _ _ _ _
  clear B;rw [jf,jf,jf] at f;have j:ao (λz=>z=X.aY) u Q:=((H.trans I λ_ _ h=>h).trans J λ_ _ h=>h).trans K λ_ _ h=>h
  have s:ao (λz=>aw z=.cl\/aw z=.fU\/aw z=.aX) Y Q:=(aW.az.mono λz _ au=>au.elim .inl λe=>.inr (.inl e)).trans j λz _ e=>.inr (.inr (by rw [e];exact h.fb))
  have L:∀ z,aK dy z->z≠X.aY:=λz au e=>by
   rcases aW.tag z au with E | E
   ·rw [e,h.fb] at E;cases E
   ·have:=h.cls.lt;omega
  have G:aN≠X.aY:=λe=>by have:=h.gG;rw [e,h.fb] at this;cases this
  obtain ⟨A',χ',aQ,U⟩:=h.die (c':={ x with alive:=false,aD:=[],la:=none,lc:=0,di:=none,raw:=[],batch:=[],waiting:=0 }) n s (j.aj aW.cl G) (aW.own.az j L) aW.tag ⟨rfl,rfl,rfl,rfl,rfl,rfl⟩ f;refine ⟨rfl,A',χ',_,aQ,U,?_,trivial⟩;simp only [bQ.pure,iX,il,J4];rfl
end
end Go.Proofs.YtmkljjbioomepaaGreat
