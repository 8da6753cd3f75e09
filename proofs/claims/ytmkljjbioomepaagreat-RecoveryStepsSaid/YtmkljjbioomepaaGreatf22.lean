import Derived.Test.YtmkljjbioomepaaGreatf16
import Derived.Test.YtmkljjbioomepaaGreatf21
import Derived.Test.YtmkljjbioomepaaGreatf15
set_option linter.all false
set_option maxHeartbeats 4000000
set_option maxRecDepth 100000
namespace Go.Proofs.YtmkljjbioomepaaGreat
open Go.Proofs.Tryz Go.bd
variable {aX:fO}{P:c7}{Q:Exit->au->aK}{R:bg}{b:Bool}{aQ:ba}{c:Code}{env:au}{fn:Func}{i m aF:Nat}{eO sp:cV}{s:Int}{u w:aj}
section
def tC (r:c3)(ok:Bool)(p c:Int):Int:=if r.hU≠0/\ok=false then 1 else if r.hU≠0/\(c=r.Client/\r.ia<=p\/c=r.eX/\r.fR<=p)then 1 else 0
theorem ln (a:∀ env w,Q .ret env w=cS P fn R .ret env w)(h:W P c env (aV P fn R Q) w):W P c env Q w:=(xv a).mp h
theorem vw (a:∀ env w,Q .ret env w=cS P fn R .ret env w)(h:W P c env Q w):W P c env (aV P fn R Q) w:=(xv a).mpr h
section
variable {R:bg}{u:aj}{b1:Nat}{r:c3}{p c:Int}{ok:Bool}{Q:Exit->au->aK}
 (ax:aq u b1 [.int .i64 r.Client,.int .i64 r.ia,.int .i64 r.et,.int .i64 r.View.Number,.slice r.View.fr r.View.e_ r.View.fS,.int .i64 r.eX,.int .i64 r.fR,.int .u64 r.hU] 41) (c4:∀ env w,Q .ret env w=cS prog f127 R .ret env w)
include ax c4
theorem GV (d:r.hU≠0/\(c=r.Client/\r.ia<=p\/c=r.eX/\r.fR<=p)->R (.int .i64 1) u)(b:¬ (r.hU≠0/\(c=r.Client/\r.ia<=p\/c=r.eX/\r.fR<=p))->∀ a,Q .normal (qV a) u)(a:au) :
  W prog (sub (ay f127) [1,1,1,1,1,0,0,1,1,1,1,1,1,1,1]) (BS ⟨b1,0,none⟩ p c a) Q u:=by
 rw[Xo];refine ln (P:=prog) (fn:=f127) (R:=R) c4 ?_;rw[YA];repeat' first
  |refine⟨_,ax.cell rfl,?_⟩
  |refine dJ (λ_=>?_) (λ_=>?_)
  |refine dw (λ_=>?_) (λ_=>?_)
  |refine a5 (λ_=>?_) (λ_=>?_)
 all_goals
  try dsimp only
  rw[YB];refine cb ?_;refine ln (P:=prog) (fn:=f127) (R:=R) c4 ?_
  grind[YC]
 all_goals grind
theorem Tw (a:r.hU≠0/\ok=false->R (.int .i64 1) u)(g:r.hU≠0/\(c=r.Client/\r.ia<=p\/c=r.eX/\r.fR<=p)->R (.int .i64 1) u)
  (f:¬ (r.hU≠0/\ok=false)->¬ (r.hU≠0/\(c=r.Client/\r.ia<=p\/c=r.eX/\r.fR<=p))->∀ d,Q .normal (qV d) u) (d:au) :
  W prog (sub (ay f127) [1,1,1,1,1,0,0,1,1,1,1,1,1]) (yu ⟨b1,0,none⟩ p c ok d) Q u:=by
 rw[XN];refine ln (P:=prog) (fn:=f127) (R:=R) c4 ?_;rw[Zd];refine⟨_,ax.cell rfl,dw (λb=>?_) (λb=>?_)⟩
 ·refine cb ?_;refine ln (P:=prog) (fn:=f127) (R:=R) c4 ?_;rw[HH];refine eu (λh=>a ⟨b,h⟩) (λh=>?_)
  exact vw c4 <| GV ax c4 g (f (λe=>by grind)) _
 ·refine cb ?_;refine ln (P:=prog) (fn:=f127) (R:=R) c4 ?_;rw[HH];refine dm rfl ?_;exact vw c4 <| GV ax c4 g (f (λe=>e.1 b)) _
theorem Tv (l:R (.int .i64 (if r.eX=r.Client/\r.fR≠r.ia then 1 else if r.eX≠r.Client/\(r.fR<2\/60<r.fR\/Int.tmod r.fR 2≠0) then 2 else tC r ok p c)) u)
  (j:R (.int .i64 0) u->∀ a,Q .normal (qV a) u) (a:au) :
  W prog (sub (ay f127) [1,1,1,1,1,0,0,1,1]) (BP ⟨b1,0,none⟩ p c ok a) Q u:=by
 have d:∀ a,R (.int .i64 (tC r ok p c)) u->W prog (sub (ay f127) [1,1,1,1,1,0,0,1,1,1,1,1,1]) (yu ⟨b1,0,none⟩ p c ok a) Q u:=λa h=>by
  unfold tC at h;refine Tw ax c4 (λe=>?_) (λe=>?_) (λq s=>j ?_) a
  ·grind
  ·grind
  grind
 rw[XL];refine ln (P:=prog) (fn:=f127) (R:=R) c4 ?_;rw[wn];have g:∀ a,¬ (r.eX=r.Client/\r.fR≠r.ia)->W prog (sub (ay f127) [1,1,1,1,1,0,0,1,1,1,1]) (BQ ⟨b1,0,none⟩ p c ok a) Q u:=λa k=>by
  rw[aW k]at l;rw[XM];refine ln (P:=prog) (fn:=f127) (R:=R) c4 ?_;rw[Zb];have i:∀ (b:Bool) a,(b=true↔r.eX≠r.Client/\(r.fR<2\/60<r.fR\/Int.tmod r.fR 2≠0))->W prog (sub (ay f127) [1,1,1,1,1,0,0,1,1,1,1,1]) (sO ⟨b1,0,none⟩ p c ok b a) Q u:=λb a n=>by
   refine ln (P:=prog) (fn:=f127) (R:=R) c4 ?_;rw[Zc];refine ek (λe=>?_) (λe=>vw c4 <| d _ ?_)
   ·grind
   grind
  repeat' first
   |refine⟨_,ax.cell rfl,?_⟩
   |refine dJ (λ_=>?_) (λ_=>?_)
   |refine dw (λ_=>?_) (λ_=>?_)
   |refine a5 (λ_=>?_) (λ_=>?_)
  all_goals
   refine cb (i _ _ ?_)
  all_goals grind
 have f:∀ (b:Bool) a,(b=true↔r.eX=r.Client/\r.fR≠r.ia)->W prog (sub (ay f127) [1,1,1,1,1,0,0,1,1,1]) (yy ⟨b1,0,none⟩ p c ok b a) Q u:=λb a n=>by
  refine ln (P:=prog) (fn:=f127) (R:=R) c4 ?_;rw[Za];refine ek (λe=>?_) (λe=>vw c4 <| g _ (λo=>by grind))
  grind
 repeat' first
  |refine⟨_,ax.cell rfl,?_⟩
  |refine dJ (λ_=>?_) (λ_=>?_)
  |refine dw (λ_=>?_) (λ_=>?_)
  |refine a5 (λ_=>?_) (λ_=>?_)
 all_goals
  refine cb (f _ _ ?_)
 all_goals grind
theorem GW (g:b=true↔r.et<98\/256<r.et)(f:R (.int .i64 (if r.et<98\/256<r.et then 18 else if r.eX=r.Client/\r.fR≠r.ia then 1 else if r.eX≠r.Client/\(r.fR<2\/60<r.fR\/Int.tmod r.fR 2≠0) then 2 else tC r ok p c)) u)
  (d:R (.int .i64 0) u->∀ a,Q .normal (qV a) u) (a:au) :
  W prog (sub (ay f127) [1,1,1,1,1,0,0,1]) (yx ⟨b1,0,none⟩ p c ok b a) Q u:=by
 refine ln (P:=prog) (fn:=f127) (R:=R) c4 ?_;rw[Y'];refine ek (λe=>?_) (λe=>vw c4 <| Tv ax c4 ?_ d _)
 ·grind
 grind
end
abbrev l6 (w:aj)(k:Int):bg:=λx w'=>x=.int .i64 k/\ai w w'
theorem L4 {r:c3}{j:bM}(h:qj w r j):a9 127 [r.val] w (l6 w j.valid):=by
 refine a' Tryz.func127 ?_;rw[J3];rintro b1 w1 g l;obtain⟨ax,c⟩:=bo g l;have ax:aq w1 b1 [.int .i64 r.Client,.int .i64 r.ia,.int .i64 r.et,.int .i64 r.View.Number,.slice r.View.fr r.View.e_ r.View.fS,.int .i64 r.eX,.int .i64 r.fR,.int .u64 r.hU] 41:=ax;clear l g;obtain⟨p,q,s,⟨H,d⟩,t,u,y,hu⟩:=h;have a:j.valid=if ga r.ia r.Client≠0 then ga r.ia r.Client else if r.eX<0\/6<=r.eX then 1 else if j.v.valid 5≠0 then j.v.valid 5 else if r.et<98\/256<r.et then 18 else if r.eX=r.Client/\r.fR≠r.ia then 1 else if r.eX≠r.Client/\(r.fR<2\/60<r.fR\/Int.tmod r.fR 2≠0)then 2 else tC r (mZ r.hU) (lr r.hU) (lu r.hU):=by unfold bM.valid bM.tail tC;rw[p,q,s,t,u,y];cases J:mZ j.prev<;>by_cases E:j.prev=0<;>simp[E]
 rw[a];clear a p q s t u y;refine⟨_,ax.cell (i:=1) rfl,_,ax.cell (i:=0) rfl,?_⟩;refine aE (wW w1 r.ia r.Client) ?_;rintro x F ⟨rfl,rfl⟩;refine⟨_,_,rfl,dw (λhe=>⟨by grind,c⟩) (λhe=>?_)⟩
 rw[aW (λe=>e he),XK,Xn];refine ln (λ_ _=>rfl) ?_;rw[Y7];generalize A:(if r.eX<0\/6<=r.eX then(1:Int)else _)=V;have o:∀ (b:Bool) f,(b=true↔r.eX<0\/6<=r.eX)->W prog (sub (ay f127) [1,1,0,1]) (yw ⟨b1,0,none⟩ b f) (aM (λenv z=>W prog (sub (ay f127) [1,1,1]) env (cS prog f127 (l6 w V)) z) (cS prog f127 (l6 w V))) F:=λb f K=>by
  refine ln (P:=prog) (fn:=f127) (R:=l6 w V) (λ_ _=>rfl) ?_;rw[Y9];refine ek (λe=>⟨by grind,c⟩) (λe=>?_)
  rw[aW (λI=>by grind)]at A;refine cb ?_;refine ln (P:=prog) (fn:=f127) (R:=l6 w V) (λ_ _=>rfl) ?_;rw[Y_];refine c1.aT r.View ⟨bJ ax rfl,?_⟩;refine aE (EG (d.new c) 5) ?_;rintro x G ⟨rfl,k⟩;have ax:=ai.ak k ax;have c:=c.new k;refine⟨_,rfl,dw (λar=>⟨by grind,c⟩) (λar=>⟨_,ax.cell (i:=7) rfl,?_⟩)⟩;rw[aW (λe=>e ar)]at A;refine aE (CJ G hu) ?_;rintro x n ⟨rfl,rfl⟩;have fin:l6 w V (.int .i64 0) n->∀ f,W prog (sub (ay f127) [1,1,1,1,1,1]) (qV f) (aV prog f127 (l6 w V) (cS prog f127 (l6 w V))) n:=λh f=>by
   grind[YD]
  have B:l6 w V (.int .i64 V) n:=⟨rfl,c⟩;refine⟨_,_,_,rfl,_,ax.cell (i:=2) rfl,a5 (λD=>?_) (λD=>⟨_,ax.cell (i:=2) rfl,?_⟩)⟩
  ·refine GW (R:=l6 w V) ax ?_ ?_ ?_ ?_ _
   ·exactλ_ _=>rfl
   ·grind
   ·grind
   grind
  ·refine GW (R:=l6 w V) ax ?_ ?_ ?_ ?_ _
   ·exactλ_ _=>rfl
   ·grind
   ·grind
   ·exactλh f=>k9 (cb (fin h f))
 refine⟨_,ax.cell (i:=5) rfl,a5 (λC=>cb (o _ _ ?_)) (λC=>⟨_,ax.cell (i:=5) rfl,cb (o _ _ ?_)⟩)⟩
 ·grind
 grind
end
section
def mH (j:bM):aU:=j.v.mem.getD 0 jL
def fz (j:bM)(G:bn):bu×dA×Bool:=
 if j.valid≠0 then([],⟨j.valid,0,0,0,0⟩,true)else match (h5 j (mH j) G).1.ask with
 |some vs=>(vs,⟨0,0,0,0,0⟩,false)
 |none=>if(h5 j (mH j) G).1.dC=true\/(h5 j (mH j) G).1.a_≠[]then([],⟨6,0,0,0,0⟩,true)else([],(h5 j (mH j) G).2,true)
def n0 (w:aj)(j:bM)(G:bn)(v:bl)(u:aj):Prop:=
 ∃ (aa:an) (ac:Nat) (a:List aI),v=.tuple #[.slice aa a.length ac,(fz j G).2.1.val,.bool (fz j G).2.2]/\ai w u/\bh u aa (dQ a).flatten/\(∀ k,aP aa k->w.heap.size<=k)/\er (λk=>k<w.heap.size) u a (fz j G).1
theorem n0.nil {j:bM}{G:bn}{o:dA}(h:fz j G=([],o,b))(c:ai w u):n0 w j G (.tuple #[.slice none 0 0,o.val,.bool b]) u:=
 ⟨none,0,[],by grind,c,.inl rfl,λk a=>b_ a nK,by rw[h];exact⟨rfl,λi v x ar=>by grind⟩⟩
theorem yV {b:Nat}{cs:au}(ax:aq u b cs pr)(g:cs.length=5)(o:dA){K:dA->aK}(f:∀ e,ao (λk=>k=b) u e->K o e) :
  dT u ⟨b,0,none⟩ 0 o.cells/\∀ a,a=cv u ⟨b,0,none⟩ 0 o.cells->dA.ex λres=>b6 a ⟨b,0,none⟩ 0 res.cells/\a=a/\K res a:=
 dI ax (vs:=o.cells) (by rw[g];rfl) (dA.single _) λa d c=>dA.aT o ⟨bJ d rfl,rfl,f a c⟩
theorem PZ {A:a6}{r:c3}{j:bM}(Z:qj w r j){g2:an}{aM gc:Nat}{G:bn}(cx:hO A w g2 G)(bX:aM=G.length)(bV:aM<=gc) :
  a9 93 [r.val,.slice g2 aM gc] w (n0 w j G):=by
 refine a' Tryz.func93 ?_;rw[J0];rintro b1 bp bL a4;obtain⟨p,aZ⟩:=bo bL a4;have p:aq bp b1 r.cells 41:=p;clear a4;rintro az b3 bN a5;obtain⟨E,x⟩:=bo bN a5;have E:aq b3 az (dA.cells ⟨0,0,0,0,0⟩) pr:=E;clear a5;have I:=aZ.new x;have cK:=aZ.size;have cy:=p.lt;have cA:=E.lt;refine c3.aT r ⟨bJ (ai.ak x p) rfl,?_⟩;refine aE (L4 (Z.new I)) ?_;rintro v bz ⟨rfl,z⟩;have J:=I.new z;have U:=ai.ak z E;refine⟨_,rfl,dw (λar=>?_) (λar=>?_)⟩
 ·refine yV U rfl ⟨j.valid,0,0,0,0⟩ (K:=λres aI=>n0 w j G (.tuple #[.slice none 0 0,res.val,.bool true]) aI) λdf bY=>n0.nil ?_ (J.trans bY λk a e=>by omega)
  unfold fz
  grind
 have f:=Pm ar (Z.prev▸Z.u64);obtain⟨bP,aW⟩:∃ bP,j.v.mem[0]?=some bP:=⟨_,bW f.mem.1⟩;have b4:mH j=bP:=by grind[mH]
 rintro b9 a7;have B:ai bz b9:=by rw[a7];exact cC _
 clear a7;have L:=J.new B;have q:=ai.ak ((x.new z).new B) p;refine⟨λy=>ai b9 y,ao.refl _ _,c3.aT r ⟨λy b7=>bJ (ai.ak b7 q) rfl,?_⟩⟩;refine aE (F_ b9 g2 aM gc) ?_;rintro v cj ⟨tb,rfl,cQ,br,d⟩;refine⟨_,rfl,d,?_⟩;rintro aL cX bQ a8;obtain⟨ah,C⟩:=bo bQ a8;have ah:aq cX aL (pY r tb ⟨0,0,false⟩ 0 ⟨none,0,0,0⟩ (0,0)) ou:=ah;clear a8;have cO:=d.size;have ch:=L.size;have cL:=x.size;have cM:=z.size;have cN:=B.size;have cG:=br.lt;refine⟨d.new C,c1.aT r.View ⟨bJ (ai.ak (d.new C) q) rfl,?_⟩⟩;obtain⟨cZ,ag⟩:=Z.view;have M:=(L.new d).new C;refine aE (Di (ag.new M) aW) ?_;rintro v u8 ⟨rfl,ad⟩;have bx:=ai.ak ad ah;refine aU.aT bP ⟨true,rfl,fU bx (by simp[pY,aU.cells,c3.cells]) (aU.single _),?_⟩;rintro aP af;have aB:aq aP aL (pY r tb bP 0 ⟨none,0,0,0⟩ (0,0)) ou:=by rw[af];exact bx.cv (o:=9) (i:=0) (vs:=bP.cells)
 have aR:ao (λk=>k=aL) u8 aP:=by rw[af];exact hD _ _ _ _ _
 clear af;have a1:ai w aP:=(M.new ad).trans aR λk a e=>by omega
 have Q:ai cj aP:=(C.new ad).trans aR λk a e=>by omega
 have S:aq aP b1 r.cells 41:=ai.ak (d.new Q) q;refine⟨_,S.cell (i:=1) rfl,_,S.cell (i:=0) rfl,?_⟩;refine aE (wW aP r.ia r.Client) ?_;rintro v ca ⟨rfl,rfl⟩;refine⟨_,_,rfl,⟨_,aB.cell (i:=12) rfl⟩,aB.frozen,?_⟩;rintro b n;have H:ao (λk=>k=aL) ca b:=by rw[n];exact eY _ _ _ _
 have bh:aq b aL (pY r tb bP (gv j.inc j.a3) ⟨none,0,0,0⟩ (0,0)) ou:=by rw[n,<-Z.inc,<-Z.a3];exact aB.setCell (i:=12) _
 clear n;have N:ai w b:=a1.trans H λk a e=>by omega
 have g:ai cj b:=Q.trans H λk a e=>by omega
 have bs:aq b tb (eG.cells ⟨g2,aM,gc,none,0,0,false⟩) pt:=ai.ak g br;have bk:aq b az (dA.cells ⟨0,0,0,0,0⟩) pr:=ai.ak ((B.new d).new g) U;have bR:dt w b aL tb r bP j ⟨none,0,0,0⟩ (0,0):=⟨bh,Z,f,aW,N,by omega,by omega,by omega⟩;have cq:eJ A w b tb ⟨g2,aM,gc,none,0,0,false⟩ G:=⟨bs,cx,bX,bV⟩;refine aE (PY bR cq ⟨rfl,rfl⟩) ?_;rintro v ck ⟨rfl,D⟩;have cP:=g.size;have bD:aq ck az (dA.cells ⟨0,0,0,0,0⟩) pr:=D.aC.ak bk (by omega);have b5:ai w ck:=N.trans D.aC λk a e=>by omega
 obtain⟨c5,s⟩:=D.ak;obtain⟨T,t,bK,u⟩:=D.fN;rw[<-b4]at t bK u s;have cf:∀ (X:Prop),X->X:=λ_ h=>h
 refine⟨rfl,_,s.cell (i:=8) rfl,?_⟩;refine aE (Fs t.ak) ?_;rintro v dh ⟨rfl,l⟩;have V:=ai.ak l bD;have Y:=ai.ak l s;have O:=b5.new l;cases F:(h5 j (mH j) G).1.ask with
 |some vs=>
  rw[F]at u;obtain⟨c6,w1,cl,c9,cb⟩:=u;have cr:=cb.len;refine⟨_,_,_,_,rfl,fq (by grind) ?_⟩;refine yV V rfl ⟨0,0,0,0,0⟩ (K:=λres aI=>n0 w j G (.tuple #[.slice T.aa T.e4 T.ac,res.val,.bool false]) aI) λb_ aV=>?_
  have cm:bO w1 b_ T.aa T.e4 T.ac vs:=(cb.new l).aC aV λk e=>by omega
  obtain⟨⟨bG,cH,bb⟩,cD,cu⟩:=cm;have da:=bb.1;have cS:=cl.size;have b6:fz j G=(vs,⟨0,0,0,0,0⟩,false):=by
   unfold fz
   grind
  refine⟨T.aa,T.ac,bG,?_,O.trans aV λk a e=>by omega,cH.rd,λk c_=>by grind,?_⟩
  ·grind
  ·rw[b6];exact bb.aC (ao.refl _ _) λk a e=>.inl (by omega)
 |none=>
  rw[F]at u;refine⟨_,_,_,_,rfl,dm (by grind) ?_⟩;refine⟨_,Y.cell (i:=8) rfl,?_⟩;refine aE (Ft (ai.ak l t.ak)) ?_;rintro v b_ ⟨rfl,ae⟩;have W:=ai.ak ae V;have bm:=ai.ak ae Y;have P:=O.new ae;have cd:=t.fw;refine⟨_,rfl,?_⟩;cases hm:(T.dC || decide ((T.fw:Int)>0))with
  |true=>
   refine yV W rfl ⟨6,0,0,0,0⟩ (K:=λres aI=>n0 w j G (.tuple #[.slice none 0 0,res.val,.bool true]) aI) λcY ab=>n0.nil ?_ (P.trans ab λk a e=>by omega)
   unfold fz
   grind
  |false=>
   rintro bH R;have c:ai b_ bH:=by rw[R];exact cC _
   clear R;have bq:=ai.ak c bm;refine⟨λy=>ai bH y,ao.refl _ _,dA.aT (h5 j (mH j) G).2 ⟨λy b7=>bJ (ai.ak b7 bq) rfl,?_⟩⟩;refine yV (ai.ak c W) rfl (h5 j (mH j) G).2 (K:=λres aI=>n0 w j G (.tuple #[.slice none 0 0,res.val,.bool true]) aI) λcY ab=>n0.nil ?_ ((P.new c).trans ab λk a e=>by omega)
   unfold fz
   simp_all
end
section
open e2
theorem Gp {f:aD->ba}(b:∀ p,(f p).length=9):∀ {W:List aD} {i:Nat} {p:aD},W[i]?=some p->∀ c,c<9->((W.map f).flatten)[9*i+c]?=(f p)[c]?
 | [],i,p,h,c,a=>by grind
 |q::W,0,p,h,c,a=>by
  grind
 |q::W,i+1,p,h,c,a=>by rw[jT,kR,zm (by grind),b,show 9*(i+1)+c-9=9*i+c by omega];exact Gp b (by simpa using h) c a
theorem P0 {W:List aD}{p:aD}(h:W[i]?=some p){c:Nat}(a:c<9):(fe s W).getD (2+9*i+c) 0=(p.bw::p.Head::hE p).getD c 0:=by
 have b:=dk h;have d:=z8 s W;unfold fe;simp only[lF];rw[zl (by omega)];have:=Gp (f:=λp=>p.bw::p.Head::hE p) (λ_=>rfl) h c a
 grind[nP,List.getElem?_cons_succ]
theorem SP {W:List aD}{p:aD}(h:W[i]?=some p)(a:∀ k,k<(fe s W).length->aQ.getD k 0=(fe s W).getD k 0)(f:p.bw<=256):oM aQ i=p:=by
 have e:=dk h;have b:=pT s W;have g:∀ c,c<9->((aQ.drop (2+9*i)).take 9).getD c 0=(p.bw::p.Head::hE p).getD c 0:=λc d=>by
  rw[<-P0 (s:=s) h d,<-a _ (by omega)]
  grind
 unfold oM ra;rw[g 0 (by omega),g 1 (by omega),g 2 (by omega),g 3 (by omega),g 4 (by omega),g 5 (by omega),g 6 (by omega),g 7 (by omega),g 8 (by omega)];show(⟨if 256<p.bw then 256 else p.bw,_,_,_,_,_,_,_,_⟩:aD)=p;rw[aW (by omega)];rfl
theorem Py {W:List aD}{lines:Int}(ar:fJ s W lines=0)(n:aQ.length=112)(b:∀ k,k<(fe s W).length->aQ.getD k 0=(fe s W).getD k 0):eg aQ lines=0/\ev aQ lines=(s,W):=by
 obtain⟨l,⟨s1,s2,o,fB⟩,g,_⟩:=jn ar;have f:=pT s W;have d:aQ.getD 0 0=s:=b 0 (by omega);have j:aQ.getD 1 0=W.length:=b 1 (by omega);have e:(aQ.getD 1 0).toNat=W.length:=by grind
 have c:hX aQ W.length=W:=by
  apply jb;intro i;unfold hX;rw[hS];by_cases a:i<W.length
  ·rw[zo a,bW a];have:=g _ (vX a);simp only[rD];rw[SP (bW a) b (by omega)]
  grind
 have h:fe s W=aQ.take (3+9*W.length):=by
  apply jb
  grind
 have aA:eg aQ lines=0:=by unfold eg;rw[aW (by omega),aW (by grind),aW (by grind),e,d,c,aW (by grind),aW (by grind)]
 refine⟨aA,?_⟩;unfold ev
 grind
theorem El (h:1<=s/\s<1073741824):fZ s=4*s+2:=by
 obtain⟨n,rfl⟩:∃ n:Nat,s=n:=⟨s.toNat,by omega⟩;have a:hk .u64 (n:Int) 2=((n*4:Nat):Int):=by
  show IntKind.u64.wrap ((n:Int)*2 ^ 2)=_
  grind[kT]
 unfold fZ;rw[a,show(2:Int)=((2:Nat):Int) from rfl,tS _ _ (by omega) (by omega)];have b:=w3 n 2 2 (by omega)
 grind
theorem z' (h:1<=s/\s<1073741824):fZ s≠0:=by grind[El]
theorem Pz (h:1<=s/\s<1073741824):h7 (fZ s)=(s,true):=by
 obtain⟨_,e⟩:=A0 (AD s);have a:cD .u64 (fZ s) 2=s:=by grind[El]
 unfold h7
 grind
theorem PA:h7 0=(0,false):=by
 obtain⟨_,e⟩:=A0 gU;have a:cD .u64 0 2=0:=by grind
 unfold h7
 grind
structure nk (E:Env)(A:bA)(m:Nat)(L:ba):Prop where
 len:L.length=120
 c2:L.getD 0 0=if A.c2 m=true then hQ E else 0
 fi:A.fi m=true->∀ k,k<(fE E).length->L.getD (8+k) 0=(fE E).getD k 0
def vn (x:aO):ba:=(x.words.drop 48).take 120
theorem Gk {x:aO}(h:i<120):(vn x).getD i 0=x.get (48+i):=by
 grind[vn,aO.get,List.getElem?_take_of_lt]
theorem Mem.fs {E:Env}{A:bA}{x:aO}(aA:cl E)(h:Mem E A m x):nk E A m (vn x):=by
 have a:=aA.mC;have c:=aA.k5;have d:=h.aS.len;refine⟨by grind[vn],by rw[Gk (by omega)];exact h.c2,λa k b=>?_⟩;rw[Gk (by omega),<-h.fi a k b]
 grind
section
variable {E:Env}{A:bA}{m:Nat}{L:ba}
theorem nk.whole (aA:cl E)(h:nk E A m L)(b:A.fi m=true):fK L E.L=true/\c9 L E.L=(dv E,bL E):=by
 have d:(L.drop 8).length=112:=by rw[zt,h.len]
 obtain⟨e,f⟩:=Py aA.yX d λk c=>by
  rw[<-h.fi b k c]
  grind
 have a:fK L E.L=true:=by
  grind[fK]
 refine⟨a,?_⟩;unfold c9
 grind
theorem nk.comm (aA:cl E)(h:nk E A m L)(c:A.fi m=true):pp L E.L=A.c2 m/\(A.c2 m=true->li L E.L=(dv E,bL E)):=by
 obtain⟨a,b⟩:=h.whole aA c;have d:pp L E.L=A.c2 m:=by
  unfold pp;rw[a,b,h.c2,vY];cases A.c2 m
  ·exact beq_eq_false_iff_ne.2 (z' aA.seq)
  grind
 refine⟨d,λe=>?_⟩
 unfold li
 grind
theorem nk.none (h:nk E A m L)(c:A.c2 m=false):pp L E.L=false:=by
 cases a:pp L E.L with
 |false=>rfl
 |true=>
  exfalso;obtain⟨b,_⟩:=CV a;have d:=D4 b;unfold pp at a;rw[b,vY]at a;have:=beq_iff_eq.1 a;rw[h.c2,c]at this
  grind[z']
theorem nk.holds (aA:cl E)(h:nk E A m L)(a:A.fi m=true){j:bM}(d:j.lines=E.L):qk j (dv E) (bL E) L=A.c2 m:=by
 obtain⟨b,c⟩:=h.comm aA a
 grind[qk,xo]
end
structure pj (E:Env)(A:bA)(aX:fO):Prop where
 len:aX.length=E.n
 at_:∀ (m:Nat) (L:ba),aX[m]?=some L->nk E A m L
section
variable {E:Env}{A:bA}{aX:fO}
theorem Q8 (h:pj E A aX)(d:gh E A):it E.L aX=((0,[]),false):=by
 have key:∀ (l:fO),(∀ L ∈ l,pp L E.L=false)->∀ b,l.foldl (mG E.L) b=b:=by
  intro l;induction l with
  |nil=>grind
  |cons L l g=>
   intro f b;rw[vS];have:mG E.L b L=b:=aW (λe=>by grind)
   grind
 refine key aX (λL c=>?_) _;obtain⟨i,a⟩:=eP.1 c;exact(h.at_ i L a).none (d i (by have:=dk a;rw[h.len]at this;grind))
theorem PB (aA:cl E)(h:pj E A aX)(d:hT E A)(hm:∃ m,m<E.n/\A.c2 m=true):it E.L aX=((dv E,bL E),true):=by
 have t:=aA.seq;have key:∀ (l:fO),(∀ L ∈ l,pp L E.L=true->li L E.L=(dv E,bL E))->∀ b,(b=((0,[]),false)\/b=((dv E,bL E),true))->(l.foldl (mG E.L) b=((dv E,bL E),true)\/l.foldl (mG E.L) b=((0,[]),false)/\b=((0,[]),false)/\∀ L ∈ l,pp L E.L=false):=by
  intro l;induction l with
  |nil=>grind
  |cons L l p=>
   intro e b d;rw[vS];have o:=λk a=>e k (gm _ a)
   unfold mG at p ⊢
   grind
 obtain⟨m,f,hm⟩:=hm;obtain⟨L,a⟩:∃ L,aX[m]?=some L:=⟨_,bW (by rw[h.len];grind)⟩;have e:∀ L ∈ aX,pp L E.L=true->li L E.L=(dv E,bL E):=λL a s=>by
  obtain⟨i,j⟩:=eP.1 a;have c:=dk j;rw[h.len]at c;obtain⟨q,r⟩:=(h.at_ i L j).comm aA (d i c)
  grind
 rcases key aX e ((0,[]),false) (.inl rfl)with g | ⟨_,_,g⟩
 ·exact g
 ·have:=g L (cu a);rw[((h.at_ m L a).comm aA (d m f)).1,hm]at this
  grind
theorem SQ (aA:cl E)(h:pj E A aX)(s:hT E A){cU:Int}(x:cU=dv E\/cU=E.oy 0):jI E.L cU aX=dv E+1:=by
 have u:=aA.seq;have t:=aA.oy;have B:=aA.e.n;have key:∀ (l:fO),(∀ L ∈ l,(L.getD 0 0=hQ E\/L.getD 0 0=0)/\fK L E.L=true/\c9 L E.L=(dv E,bL E))->∀ g:Int,0<=g/\g<=dv E->l.foldl (hH E.L) g=if l=[]then g else dv E:=by
  intro l;induction l with
  |nil=>grind
  |cons L l w=>
   intro k g z;obtain⟨p,q,r⟩:=k L g_;rw[vS];have f:hH E.L g L=dv E:=by
    unfold hH;have d:(if(h7 (L.getD 0 0)).2=true then mI g (h7 (L.getD 0 0)).1 else g)<=dv E:=by
     rcases p with e | e
     ·rw[e,Pz u,bm rfl]
      grind[mI]
     ·rw[e,PA,aW (by simp)]
      grind
    simp only;generalize (if(h7 (L.getD 0 0)).2=true then mI g (h7 (L.getD 0 0)).1 else g)=y at d ⊢;rw[bm q,r]
    grind[mI]
   rw[f,w (λo a=>k o (gm _ a)) _ (by omega),aW (List.cons_ne_nil L l)]
   grind
 unfold jI;have c:jl cU=cU:=by unfold jl;grind
 rw[c,key aX (λL a=>?_) cU (by omega),aW (λe=>by have:=h.len;grind)];obtain⟨i,j⟩:=eP.1 a;have b:=dk j;rw[h.len]at b;have a:=h.at_ i L j;refine⟨?_,a.whole aA (s i b)⟩;rw[a.c2]
 grind
end
end
section
open e2
def cG (E:Env)(c:Nat):bM:=⟨(c:Int),1,(E.L:Int),ke E.n,0,2,0⟩
def gJ (c:Nat):Int:=256+((c:Int)+1)
section
variable {E:Env}{c:Nat}
theorem wX (a:c<6):ga 1 c=0/\gv 1 c=gJ c:=by have h:ga 1 c=0:=Gc rfl (by omega);exact⟨h,by rw[Ak h];rfl⟩
theorem qg:(cG E c).v.mem=(List.range E.n).map bD:=rfl
theorem Q9 {n:Nat}(h:1<=n/\n<=5):(ke n).valid 5=0:=by
 obtain rfl | rfl | rfl | rfl | rfl:n=1\/n=2\/n=3\/n=4\/n=5:=by omega
 all_goals kernel_rfl
theorem Em (aA:cl E)(i:1<=c/\c<6):(cG E c).valid=0:=by
 have j:=aA.e.L;have f:ga (cG E c).inc (cG E c).a3=0:=(wX i.2).1;have g:(cG E c).v.valid 5=0:=Q9 aA.e.n;unfold bM.valid;rw[f,g];show(if(0:Int)≠0 then(0:Int)else if(0:Int)<0\/6<=(0:Int)then 1 else if(0:Int)≠0 then 0 else(cG E c).tail)=0;rw[aW (by omega),aW (by omega),aW (by omega)];unfold bM.tail;have a:¬ ((cG E c).lines<98\/256<(cG E c).lines):=by show¬ ((E.L:Int)<98\/256<(E.L:Int));omega
 have b:¬ ((cG E c).dead=(cG E c).a3/\(cG E c).fk≠(cG E c).inc):=by show¬ ((0:Int)=(c:Int)/\_);omega
 have d:¬ ((cG E c).dead≠(cG E c).a3/\((cG E c).fk<2\/60<(cG E c).fk\/Int.tmod (cG E c).fk 2≠0)):=by
  grind[cG]
 rw[aW a,aW b,aW d];exact aW λh=>h.1 rfl
theorem Gq (a:1<=E.n):mH (cG E c)=bD 0:=by
 grind[mH,qg,List.range_succ_eq_map]
theorem Gr (hm:m<E.n):(cG E c).v.mem.getD m jL=bD m:=by
 grind[qg,List.getElem?_range]
theorem B5 (m:Nat)(a o w:Int):si (cG E c) (bD m) a o w=fV m a o w:=rfl
theorem z3:c_ (cG E c)=[⟨0,2,true⟩]:=by unfold c_;rw[aW (λh=>by have:mZ (0:Int)=false:=rfl;have a:mZ 0=true:=h.1;grind)];rfl
theorem En {α β:Type}{f:α->β}:∀ (l:List α),(l.map λx=>[f x]).flatten=l.map f
 | []=>rfl
 |a::l=>by rw[jT,kR,En l];rfl
def iB (n:Nat):bu:=(List.range n).map λm=>c5 m 24 1
def hg (eO:cV):bu:=eO.map λm=>fV m 24 1 2
def gZ (c:Nat):bu:=[fV 0 49 0 (gJ c)]
def gP (n:Nat):bu:=((List.range n).map λm=>[c5 m 24 1,c5 m 48 120]).flatten++[c5 0 32 1]
def gK (E:Env)(sp:cV):bu:=(sp.map λm=>[cH m 48 [0],cH m 56 (fE E),cH m 48 [hQ E]]).flatten
def gQ (W:List aD):bu:=W.map λp=>c5 0 (p.bw*8) 1
def fH (E:Env)(l:List aD):bu:=((List.range (E.n-1)).map λm=>l.map (fD (m+1))++[cH (m+1) 32 [dv E]]).flatten
def f' (E:Env)(l:List aD):bu:=cH 0 32 [dv E]::l.map (fD 0)
def ix (a:List aD):bu:=a.map λp=>fV 0 (p.bw*8) (ew p.Head 0) p.Head
def gN (c:Nat):bu:=[fV 0 49 (gJ c) 0]
theorem D7:hq (cG E c)=iB E.n:=by unfold hq iB;rw[z3,qg,rI];exact En (List.range E.n) (f:=λm=>c5 m 24 1)
theorem Gl (i:Nat):gk (cG E c) i=⟨0,2,true⟩:=by
 unfold gk;rw[z3]
 grind
theorem Ru (h:i<E.n):nJ (cG E c) i=bD i:=by unfold nJ;rw[z3];show(cG E c).v.mem.getD (i / 1) jL=_;rw[Nat.div_one];exact Gr h
def kG (n:Nat)(ds:cw):cV:=(List.range n).filter λi=>dE ds i == 1
theorem Eo {ds:cw}(h:∀ i,i<E.n->dE ds i=1\/dE ds i=2):∀ {k:Nat},k<=E.n->h0 (cG E c) ds k=(kG k ds).map λm=>(fV m 24 1 2,(⟨0,2,true⟩:dq))
 | 0,_=>rfl
 |k+1,a=>by
  rw[Ch,Eo h (by omega)];unfold kG rO uk;rw[o1,zk,lG,Gl,Ru (by omega),B5]
  grind
def d3 (eO:cV)(X:bn):cq:=n7 (eO.map λm=>(fV m 24 1 2,(⟨0,2,true⟩:dq))) (bQ X (hg eO))
def lh (X:bn):cq:=⟨true,[],(0,0),X,none,false⟩
def Kp (E:Env)(c:Nat)(G:bn)(f:bn->cq×dA):Prop:=∀ X,h5 (cG E c) (bD 0) (G++X)=f X
theorem Kp.next {G:bn}{f a:bn->cq×dA}(h:Kp E c G f){D:cw}(b:∀ X,f (D::X)=a X):Kp E c (G++[D]) a:=λX=>by rw[vP];exact(h ([D]++X)).trans (b X)
theorem Kp.ask (aA:cl E)(b:1<=c/\c<6){G:bn}{f:bn->cq×dA}(h:Kp E c G f){vs:bu}(a:(f []).1.ask=some vs):fz (cG E c) G=(vs,⟨0,0,0,0,0⟩,false):=by have:=h [];rw[lE]at this;unfold fz;rw[aW (by grind[Em]),Gq aA.e.n.1,this,a]
theorem Kp.out (aA:cl E)(g:1<=c/\c<6){G:bn}{f:bn->cq×dA}(h:Kp E c G f)(a:(f []).1.ask=none)(b:(f []).1.dC=false)(d:(f []).1.a_=[]):fz (cG E c) G=([],(f []).2,true):=by
 have:=h [];rw[lE]at this;unfold fz;rw[aW (by grind[Em]),Gq aA.e.n.1,this,a]
 grind
theorem n1 {vs:bu}(h:vs≠[]):bQ [] vs=⟨false,[],(0,0),[],some vs,false⟩:=zD h 0
theorem mO {vs:bu}{D:cw}(h:vs≠[])(a:Fit vs D)(X:bn):bQ (D::X) vs=⟨true,D,(0,0),X,none,false⟩:=zP X h a 0
theorem uq (X:bn):bQ X []=lh X:=D0 X 0
def qX (E:Env)(c:Nat):bn->cq×dA:=h5 (cG E c) (bD 0)
def k6 (E:Env)(c:Nat)(X:bn):cq×dA:=tc (cG E c) (bD 0) (hZ (cG E c) (bD 0) X)
def mz (E:Env)(c:Nat)(eO:cV)(X:bn):cq×dA:=if(d3 eO X).ok=false then(d3 eO X,iG (d3 eO X).out)else k6 E c (d3 eO X).a_
def oC (E:Env)(c:Nat)(X:bn):cq×dA:=tc (cG E c) (bD 0) (lh X)
def fv (E:Env)(c:Nat)(aX:fO)(cU:Int)(di:Int×Int)(S:cq):cq×dA:=rp (cG E c) (bD 0) aX cU (di,S)
theorem TX:Kp E c [] (qX E c):=λX=>rfl
theorem Bb (a:1<=E.n):iB E.n≠[]:=by unfold iB;intro e;simp_all
theorem Rv (a:1<=E.n):(qX E c []).1.ask=some (iB E.n):=by
 unfold qX h5 hr um
 grind[D7,n1,Bb]
theorem Q_ (e:1<=E.n){D:cw}(a:Fit (iB E.n) D)(hw:∀ i,i<E.n->dE D i=1\/dE D i=2)(X:bn):qX E c (D::X)=mz E c (kG E.n D) X:=by
 have d:D.length=E.n:=by rw[a.len];grind[iB]
 have f:(List.range D.length).any (jz (cG E c) D)=false:=by
  grind[List.any_eq_false,jz,Gl,dE]
 have b:hr (cG E c) (D::X)=d3 (kG E.n D) X:=by unfold hr;rw[D7,mO (Bb e) a];unfold um;simp only;rw[aW (by simp),aW (by grind),d,Eo hw (dr _)];unfold d3 hg;rw[rI];rfl
 unfold qX h5 mz k6;rw[b]
theorem Sf (X:bn):d3 [] X=lh X:=by unfold d3 n7;rw[show hg []=[] from rfl,uq];rfl
theorem Sg (X:bn):mz E c [] X=k6 E c X:=by unfold mz;rw[Sf];exact aW (by simp[lh])
theorem Sh (h:eO≠[]):(mz E c eO []).1.ask=some (hg eO):=by
 have ax:hg eO≠[]:=by unfold hg;simp_all
 grind[mz,d3,n7,n1]
theorem Q' (h:eO≠[]){D:cw}(a:Fit (hg eO) D)(hw:∀ i,i<eO.length->dE D i=1\/dE D i=2)(X:bn):mz E c eO (D::X)=k6 E c X:=by
 have ax:hg eO≠[]:=by unfold hg;simp_all
 have f:D.length=eO.length:=by rw[a.len];grind[hg]
 have d:d3 eO (D::X)=lh X:=by
  unfold d3 n7;rw[mO ax a];simp only;have e:(List.range D.length).any (nx (eO.map λm=>(fV m 24 1 2,(⟨0,2,true⟩:dq))) D)=false:=by
   rw[Jm];intro i b;have b:=jd.1 b;have hw:=hw i (by omega);obtain⟨m,hm⟩:∃ m,eO[i]?=some m:=⟨_,bW (by omega)⟩;unfold nx mw;rw[lF,hS,hm];show¬ ((decide (dE D i≠1) && (decide (dE D i≠2) && (true || decide (dE D i<2))))=true)
   grind
  rw[aW (by simp),aW (by grind)];rfl
 unfold mz;rw[d];exact aW (by simp[lh])
theorem zL (a:c<6):[jr (cG E c) (bD 0)]=gZ c:=by
 unfold jr gZ;rw[B5];show[fV 0 49 0 (gv 1 c)]=_
 grind[wX]
theorem Si (a:c<6):(k6 E c []).1.ask=some (gZ c):=by unfold k6 hZ;rw[zL a,n1 (by simp[gZ])];rfl
theorem Ra (b:c<6){D:cw}(d:Fit (gZ c) D)(a:mc D=0)(X:bn):k6 E c (D::X)=oC E c X:=by unfold k6 hZ oC;rw[zL b,mO (by simp[gZ]) d,aW (by simp)];simp only;rw[a,aW (λh=>h.1 rfl)];rfl
theorem Rb (b:c<6){D:cw}(d:Fit (gZ c) D)(a:mc D≠0)(e:mc D≠gJ c)(X:bn):k6 E c (D::X)=(⟨false,[],(3,mc D),X,none,false⟩,⟨3,0,0,0,mc D⟩):=by unfold k6 hZ;rw[zL b,mO (by simp[gZ]) d,aW (by simp)];simp only;rw[bm ⟨a,by show mc D≠gv 1 c;grind[wX]⟩];rfl
theorem D8:fx (cG E c) (bD 0)=gP E.n:=by unfold fx gP;rw[qg,rI];rfl
theorem Bd (n:Nat):gP n≠[]:=by unfold gP;simp
theorem Sj:(oC E c []).1.ask=some (gP E.n):=by
 unfold oC tc fy sk lh
 grind[D8,n1,Bd]
def l7 (n:Nat)(D:cw):fO:=(List.range n).map λi=>(D.getD (2*i+1) ⟨0,[]⟩).words
theorem Rc {D:cw}(k:Fit (gP E.n) D)(h:∀ i,i<E.n->dE D (2*i)=2)(X:bn):oC E c (D::X)=fv E c (l7 E.n D) (dE D (2*E.n)) (hG (cG E c) (bD 0) (l7 E.n D) X).1 (hG (cG E c) (bD 0) (l7 E.n D) X).2:=by
 have a:(cG E c).v.mem.length=E.n:=by grind[qg]
 have b:bQ (D::X) (fx (cG E c) (bD 0))=⟨true,D,(0,0),X,none,false⟩:=by grind[D8,mO,Bd]
 have d:mN (cG E c) D E.n=true:=by unfold mN;rw[iz];intro i j;exact beq_iff_eq.2 (h i (jd.1 j))
 have e:fy (cG E c) (bD 0) (D::X)=lh X:=by unfold fy sk;rw[b,aW (by simp)];simp only;rw[a,bm d];rfl
 have f:kf (cG E c) (bD 0) (D::X)=l7 E.n D:=by unfold kf rU;rw[b,a];rfl
 have g:mf (cG E c) (bD 0) (D::X)=dE D (2*E.n):=by
  grind[mf,rR]
 unfold oC tc;rw[aW (by simp[lh])];show(if(fy (cG E c) (bD 0) (D::X)).ok=false then _ else rp _ _ (kf (cG E c) (bD 0) (D::X)) (mf (cG E c) (bD 0) (D::X)) (hG _ _ (kf (cG E c) (bD 0) (D::X)) (fy (cG E c) (bD 0) (D::X)).a_))=_;rw[e,f,g,aW (by simp[lh])];rfl
end
end
section
open e2
section
variable {E:Env}{c:Nat}
def mA (E:Env)(l:List aD)(X:bn):cq:=bQ X (f' E l)
def jZ (E:Env)(l:List aD)(X:bn):cq:=if(bQ X (fH E l)).ok=false then bQ X (fH E l)else mA E l (bQ X (fH E l)).a_
def im (E:Env)(D:cw):List aD:=gq (cG E 0) (bL E) D (bL E).length
def kv (E:Env)(X:bn):cq:=
 if(bQ X (gQ (bL E))).ok=false then bQ X (gQ (bL E))else if(im E (bQ X (gQ (bL E))).done).length=0 then bQ X (gQ (bL E))else jZ E (im E (bQ X (gQ (bL E))).done) (bQ X (gQ (bL E))).a_
def kx (E:Env)(sp:cV)(X:bn):cq:=if(bQ X (gK E sp)).ok=false then bQ X (gK E sp)else kv E (bQ X (gK E sp)).a_
def nD (a:List aD)(X:bn):cq:=bQ X (ix a)
def jQ (E:Env)(A:bA):cV:=(List.range E.n).filter λm=>!A.c2 m
theorem Rd (b:1<=E.n):(cG E c).v.mem.tail=(List.range (E.n-1)).map λm=>bD (m+1):=by
 rw[qg];cases a:E.n with
 |zero=>omega
 |succ k=>rw[zB];simp
theorem OZ (a:1<=E.n)(l:List aD):uo (cG E c) (dv E) l=fH E l:=by unfold uo fH;rw[Rd a,rI];rfl
theorem Re (l:List aD):xp (cG E c) (bD 0) (dv E) l=f' E l:=rfl
theorem Rf (X:bn):fu (cG E c) (bD 0) (bL E) X=bQ X (gQ (bL E)):=rfl
theorem D9 (aA:cl E){A:bA}{aX:fO}(h:pj E A aX)(b:hT E A):∀ k,k<=E.n->nT (cG E c) (dv E) (bL E) aX k=gK E ((List.range k).filter λm=>!A.c2 m)
 | 0,_=>rfl
 |k+1,e=>by
  rw[D6,D9 aA h b k (by omega)];obtain⟨L,a⟩:∃ L,aX[k]?=some L:=⟨_,bW (by rw[h.len];omega)⟩;have d:=(h.at_ k L a).holds aA (b k (by omega)) (j:=cG E c) rfl;unfold y1 gK;rw[lF,a,Option.getD_some,d,Gr (by omega),o1,zk,lG,Jo];congr 1;cases hm:A.c2 k with
  |true=>grind
  |false=>simp[hm];rfl
theorem Rg (f:1<=E.n)(X:bn):pG (cG E c) (bD 0) (dv E) (bL E) (fu (cG E c) (bD 0) (bL E) X)=kv E X:=by
 unfold pG kv jZ mA q0;rw[Rf];have a:∀ D:cw,D.length=(bL E).length->gq (cG E c) (bL E) D D.length=im E D:=λD d=>by unfold im;rw[d];rfl
 by_cases e:(bQ X (gQ (bL E))).ok=true
 ·have g:=FA e;have b:¬ (bQ X (gQ (bL E))).ok=false:=by grind
  rw[aW b,aW b,a _ (by grind[gQ]),OZ f,Re]
 grind
theorem NT (aA:cl E){A:bA}(h:pj E A aX)(b:hT E A)(X:bn):p_ (cG E c) (bD 0) (dv E) (bL E) aX X=kx E (jQ E A) X:=by
 unfold p_ kx lj;have a:(cG E c).v.mem.length=E.n:=by grind[qg]
 rw[a,D9 aA h b _ (dr _)];show(if(bQ X (gK E (jQ E A))).ok=false then bQ X (gK E (jQ E A))else pG _ _ _ _ (fu _ _ _ (bQ X (gK E (jQ E A))).a_))=_;rw[Rg aA.e.n.1]
theorem O0 (aA:cl E){A:bA}(h:pj E A aX)(b:hT E A)(hm:∃ m,m<E.n/\A.c2 m=true)(X:bn):hG (cG E c) (bD 0) aX X=((2,dv E),kx E (jQ E A) X):=by have a:it (cG E c).lines aX=((dv E,bL E),true):=PB aA h b hm;unfold hG;rw[a,bm rfl];exact eh _ (NT aA h b X)
theorem O1 (aA:cl E){A:bA}(h:pj E A aX)(q:gh E A):∃ di g,(∀ X,hG (cG E c) (bD 0) aX X=(di,nD g X))/\di.1≠2/\(hT E A->g=bL E/\di=(3,dv E))/\g.length<=12/\∀ p ∈ g,96<=p.bw/\p.bw<E.L:=by
 have d:it (cG E c).lines aX=((0,[]),false):=Q8 h q;have r:=aA.e.n;obtain⟨L,o⟩:∃ L,aX[0]?=some L:=⟨_,bW (by rw[h.len];omega)⟩;have k:aX.getD 0 []=L:=by grind
 have hw:hT E A->fK L E.L=true/\c9 L E.L=(dv E,bL E):=λi=>(h.at_ 0 L o).whole aA (i 0 (by omega))
 cases l:fK L E.L with
 |true=>
  refine⟨(3,(c9 L E.L).1),(c9 L E.L).2,λX=>?_,by simp,λi=>by grind,?_⟩
  ·unfold hG;rw[d,aW (by simp),k,bm (show fK L (cG E c).lines=true from l)];rfl
  ·have j:=l;unfold fK at j;simp only [fP,jA,beq_iff_eq] at j;have f:=j.2;have u:c9 L E.L=((L.drop 8).getD 0 0,hX (L.drop 8) ((L.drop 8).getD 1 0).toNat):=by
    unfold c9 ev
    grind
   unfold eg at f;split at f
   ·omega
   split at f
   ·omega
   split at f
   ·omega
   split at f
   ·omega
   rename_i t;obtain⟨_,a,b,_⟩:=jn (by omega:fJ ((L.drop 8).getD 0 0) (hX (L.drop 8) ((L.drop 8).getD 1 0).toNat) E.L=0)
   grind
 |false=>refine⟨(1,0),[],λX=>?_,by simp,λi=>(by grind),by simp,λp s=>by cases s⟩;unfold hG;rw[d,aW (by simp),k,aW (show¬ fK L (cG E c).lines=true by show¬ fK L E.L=true;grind)];unfold nD ix;rw[List.map_nil,uq];rfl
def s3 (D:cw)(X:bn):cq:=⟨true,D,(0,0),X,none,false⟩
def px (vs:bu):cq:=⟨false,[],(0,0),[],some vs,false⟩
theorem Be (h:sp≠[]):gK E sp≠[]:=by
 cases sp with
 |nil=>grind
 |cons a l=>simp[gK]
theorem Bf (aA:cl E):gQ (bL E)≠[]:=by unfold gQ;have:=aA.job.some_;simp_all
theorem xi (b:1<E.n)(l:List aD):fH E l≠[]:=by obtain⟨k,a⟩:∃ k,E.n-1=k+1:=⟨E.n-2,by omega⟩;unfold fH;rw[a,zB];simp
theorem AT (a:E.n=1)(l:List aD):fH E l=[]:=by grind[fH]
theorem Sk (X:bn):kx E [] X=kv E X:=by unfold kx;rw[show gK E []=[] from rfl,uq];exact aW (by simp[lh])
theorem Sl (h:sp≠[]):kx E sp []=px (gK E sp):=by unfold kx;rw[n1 (Be h)];rfl
theorem Rh (h:sp≠[]){D:cw}(a:Fit (gK E sp) D)(X:bn):kx E sp (D::X)=kv E X:=by
 unfold kx;rw[mO (Be h) a]
 grind
theorem Sm (aA:cl E):kv E []=px (gQ (bL E)):=by unfold kv;rw[n1 (Bf aA)];rfl
theorem Ri (aA:cl E){D:cw}(a:Fit (gQ (bL E)) D)(X:bn):kv E (D::X)=if im E D=[]then s3 D X else jZ E (im E D) X:=by
 unfold kv;rw[mO (Bf aA) a,aW (by simp)];simp only;by_cases h:im E D=[]
 ·rw[bm (by grind),bm h];rfl
 grind
theorem Sn (a:E.n=1)(l:List aD)(X:bn):jZ E l X=mA E l X:=by unfold jZ;rw[AT a,uq];exact aW (by simp[lh])
theorem So (a:1<E.n)(l:List aD):jZ E l []=px (fH E l):=by unfold jZ;rw[n1 (xi a l)];rfl
theorem Rj (b:1<E.n){l:List aD}{D:cw}(a:Fit (fH E l) D)(X:bn):jZ E l (D::X)=mA E l X:=by
 unfold jZ;rw[mO (xi b l) a]
 grind
theorem Sq (l:List aD):mA E l []=px (f' E l):=n1 (by simp[f'])
theorem Rk {l:List aD}{D:cw}(a:Fit (f' E l) D)(X:bn):mA E l (D::X)=s3 D X:=mO (by simp[f']) a X
theorem Sr (X:bn):nD [] X=lh X:=uq X
theorem Ss {a:List aD}(h:a≠[]):nD a []=px (ix a):=n1 (by unfold ix;simp_all)
theorem Rl {a:List aD}(h:a≠[]){D:cw}(b:Fit (ix a) D)(X:bn):nD a (D::X)=s3 D X:=mO (by unfold ix;simp_all) b X
def nz (E:Env)(c:Nat)(aX:fO)(cU:Int)(di:Int×Int)(X:bn):cq×dA:=
 if(bQ X (gN c)).ok=false then(bQ X (gN c),iG (bQ X (gN c)).out)else(bQ X (gN c),⟨0,di.1,di.2,jI E.L cU aX,0⟩)
variable {aX:fO}{cU:Int}{di:Int×Int}
theorem St (a:c<6)(X:bn):hF (cG E c) (bD 0) X=bQ X (gN c):=by
 unfold hF gN;rw[B5];show bQ X [fV 0 49 (gv 1 c) 0]=_
 grind[wX]
theorem xj (a:c<6){S:cq}(h:S.ok=true):fv E c aX cU di S=nz E c aX cU di S.a_:=by unfold fv rp nz;rw[aW (by grind),St a];rfl
theorem ui (vs:bu):(fv E c aX cU di (px vs)).1.ask=some vs:=by unfold fv rp;rw[bm (show(px vs).ok=false from rfl)];rfl
theorem Su:(nz E c aX cU di []).1.ask=some (gN c):=by
 grind[nz,n1,gN]
theorem Rm {D:cw}(a:Fit (gN c) D)(X:bn):nz E c aX cU di (D::X)=(s3 D X,⟨0,di.1,di.2,jI E.L cU aX,0⟩):=by unfold nz;rw[mO (by simp[gN]) a];exact aW (by simp)
end
end
section
open e2
structure o9 (vs:bu)(ds:cw):Prop where
 len:ds.length=vs.length
 each:∀ (q:Nat) (v:bE) (d:cW),vs[q]?=some v->ds[q]?=some d->(d.code=0/\(d.words.length:Int)=v.v.iK)\/(d.code=5/\d.words=[])
theorem DG:∀ {ds:cw},(∀ d ∈ ds,d.code=0\/d.code=5)->(ho ds=5/\∃ d ∈ ds,d.code=5)\/(ho ds=0/\∀ d ∈ ds,d.code=0)
 | [],_=>.inr ⟨rfl,λd g=>by cases g⟩
 |d::ds,h=>by
  unfold ho;rcases h d g_ with e | e
  ·rw[bm e];rcases DG λx a=>h x (gm _ a)with⟨b,x,c,f⟩ | ⟨b,c⟩
   ·exact .inl ⟨b,x,gm _ c,f⟩
   ·exact .inr ⟨b,λx a=>by rcases gw.1 a with rfl | a;exact e;exact c x a⟩
  grind
theorem o9.get {vs:bu}{ds:cw}(h:o9 vs ds){d:cW}(c:d ∈ ds):∃ v,v ∈ vs/\((d.code=0/\(d.words.length:Int)=v.v.iK)\/(d.code=5/\d.words=[])):=by
 obtain⟨q,b⟩:=eP.1 c;have e:=dk b;have a:q<vs.length:=by rw[<-h.len];grind
 exact⟨vs[q],vX a,h.each q vs[q] d (bW a) b⟩
theorem o9.cases {vs:bu}{ds:cw}(h:o9 vs ds):Fit vs ds\/ho ds=5/\∃ d ∈ ds,d.code=5:=by
 rcases DG (ds:=ds) (λd a=>by obtain⟨v,_,g | g⟩:=h.get a;exact .inl g.1;grind)with g | ⟨_,g⟩
 ·grind
 ·refine .inl ⟨h.len,λq v d ar a=>?_⟩;rcases h.each q v d ar a with e | e
  ·exact e
  grind
theorem DH {vs:bu}{d:cw}(G:bn)(ar:vs≠[])(h:o9 vs d)(k:ho d=5)(a:Int):cm (d::G) vs a=⟨false,[],(5,a),G,none,false⟩:=by
 have o:vs.length≠0:=λe=>ar (tG.1 e)
 have n:ks vs d=true:=by
  unfold ks;rw[fP,jA,iz];refine⟨h.len.symm,λp i=>?_⟩;obtain⟨q,j⟩:=eP.1 i;obtain⟨f,g⟩:=Cn.1 j;unfold sP;rcases h.each q p.1 p.2 f g with⟨b,c⟩ | ⟨b,c⟩
  ·grind
  grind
 have l:batch (d::G) vs=⟨d,true,G,none,false⟩:=by unfold batch;grind
 grind[cm]
section
variable {E:Env}
def dZ (E:Env):Nat->bu
 | 0=>(List.range E.n).map λm=>cH m 56 (fE E)
 | 1=>(bL E).map λp=>fV 0 (p.bw*8) p.Head (ew p.Head 0)
 | 2=>(List.range E.n).map λm=>cH m 48 [hQ E]
 | 3=>fH E (bL E)
 | _=>f' E (bL E)
def Bg:Nat->Int
 | 0=>1
 | 1=>1
 | 2=>2
 | _=>3
def AU (E:Env):List (bn->cq):=qh (E.ed 0)
def jU (E:Env)(aF:Nat)(G:bn):Prop:=∀ X,runM (E.ed 0) (G++X)=nR ((AU E).drop aF) X
theorem Ep (aA:cl E):ni (E.ed 0)=dZ E 0:=aA.job.Bp
theorem wq (aA:cl E):dG (E.ed 0)=dZ E 1:=by rw[aA.job.HA aA.e.n.1,aA.rd];simp;rfl
theorem Er (aA:cl E):m6 (E.ed 0)=dZ E 2:=aA.job.BT
theorem Es (aA:cl E):qy (E.ed 0)=dZ E 3:=aA.job.G1
theorem Aq (aA:cl E):hW (E.ed 0)=dZ E 4:=aA.job.G_ aA.e.n.1
theorem rV (aA:cl E):∀ aF,aF<=4->(aF=3->1<E.n)->dZ E aF≠[]
 | 0,_,_=>by have:=aA.e.n;intro e;have:=eh List.length e;grind[dZ]
 | 1,_,_=>by have:=aA.job.some_;simpa[dZ]using this
 | 2,_,_=>by have:=aA.e.n;intro e;have:=eh List.length e;grind[dZ]
 | 3,_,h=>xi (h rfl) _
 | 4,_,_=>by simp[dZ,f']
def tg (E:Env):Nat->bn->cq
 | 0=>se (E.ed 0)
 | 1=>j' (E.ed 0)
 | 2=>uB (E.ed 0)
 | 3=>oa (E.ed 0)
 | _=>nB (E.ed 0)
theorem wu:∀ aF,aF<=4->(AU E).drop aF=tg E aF::(AU E).drop (aF+1)
 | 0,_=>rfl
 | 1,_=>rfl
 | 2,_=>rfl
 | 3,_=>rfl
 | 4,_=>rfl
theorem wY (aA:cl E):∀ aF,aF<=4->aF≠1->∀ X,tg E aF X=cm X (dZ E aF) (Bg aF)
 | 0,_,_,X=>by rw[<-Ep aA];exact Nd aA.job.valid aA.job.some_ X
 | 2,_,_,X=>by rw[<-Er aA];exact Nf aA.job.valid aA.job.some_ X
 | 3,_,_,X=>by rw[<-Es aA];rfl
 | 4,_,_,X=>by rw[<-Aq aA];exact N2 aA.job.valid aA.job.some_ X
def xk (E:Env)(D:cw):Prop:=∀ (q:Nat) (p:aD) (d:cW),(bL E)[q]?=some p->D[q]?=some d->d_ d=p.Head
theorem DI:∀ {xs:ba}{ds:cw},(∀ (q:Nat) (x:Int) (d:cW),xs[q]?=some x->ds[q]?=some d->d_ d=x)->iw xs ds=false
 | [],_,_=>by grind[iw]
 |x::xs,[],_=>by grind[iw]
 |x::xs,d::ds,h=>by unfold iw;rw[DI λq fh a b c=>h (q+1) fh a (by simpa using b) (by simpa using c),h 0 x d rfl rfl];simp
theorem L5 (aA:cl E){D:cw}(h:xk E D):iw (iM (E.ed 0)) D=false:=by
 refine DI λq x d a b=>?_
 unfold iM at a;rw[aA.rd,List.map_nil,lE,hS]at a;obtain⟨p,c,rfl⟩:=kQ.1 a;exact h q p d c b
theorem Rn (aA:cl E)(a:aF<=4)(b:aF=3->1<E.n):tg E aF []=px (dZ E aF):=by
 by_cases e:aF=1
 ·subst e;show j' (E.ed 0) []=_;unfold j';rw[wq aA,zD (rV aA 1 (by omega) (by omega))];rfl
 ·rw[wY aA aF a e];exact zD (rV aA aF a b) _
theorem Ro (aA:cl E)(b:aF<=4)(d:aF=3->1<E.n){D:cw}(a:Fit (dZ E aF) D)(f:aF=1->xk E D)(X:bn):∃ c,tg E aF (D::X)=s3 c X:=by
 by_cases e:aF=1
 ·subst e;refine⟨[],?_⟩;have a:Fit (dG (E.ed 0)) D:=by grind[wq]
  exact P8 aA.job.valid aA.job.some_ a (L5 aA (f rfl)) X
 ·refine⟨D,?_⟩;rw[wY aA aF b e];exact zP X (rV aA aF b d) a _
theorem QL (aA:cl E)(d:aF<=4)(c:aF=3->1<E.n){D:cw}(b:o9 (dZ E aF) D)(a:ho D=5)(X:bn):tg E aF (D::X)=⟨false,[],(5,Bg aF),X,none,false⟩:=by
 by_cases e:aF=1
 ·subst e;show j' (E.ed 0) (D::X)=_;unfold j';rw[wq aA,DH X (rV aA 1 (by omega) (by omega)) b a];rfl
 grind[wY,DH,rV]
theorem TT:jU E 0 []:=λX=>rfl
theorem jU.next (aA:cl E){G:bn}(h:jU E aF G)(a:aF<=4)(b:aF=3->1<E.n){D:cw}(d:Fit (dZ E aF) D)(e:aF=1->xk E D):jU E (aF+1) (G++[D]):=λX=>by obtain⟨f,c⟩:=Ro aA a b d e X;rw[vP];refine(h ([D]++X)).trans ?_;rw[wu aF a];show uA (tg E aF (D::X)) _=_;rw[c];rfl
theorem jU.skip (aA:cl E){G:bn}(h:jU E 3 G)(a:E.n=1):jU E 4 G:=λX=>by refine(h X).trans ?_;rw[wu 3 (by omega),nR,wY aA 3 (by omega) (by omega)];show uA (cm X (fH E (bL E)) 3) _=_;rw[AT a,D0];rfl
theorem jU.ask (aA:cl E){G:bn}(h:jU E aF G)(a:aF<=4)(b:aF=3->1<E.n):ea (E.ed 0) G=(dZ E aF,(0,0),false):=by have:=h [];rw[lE,wu aF a,nR,Rn aA a b]at this;unfold ea;rw[aW (by rw[aA.job.valid];simp),this];rfl
theorem jU.ref (aA:cl E){G:bn}(h:jU E aF G)(a:aF<=4)(b:aF=3->1<E.n){D:cw}(d:o9 (dZ E aF) D)(c:ho D=5):ea (E.ed 0) (G++[D])=([],(5,Bg aF),true):=by have:=h [D];rw[wu aF a,nR,QL aA a b d c]at this;unfold ea;rw[aW (by rw[aA.job.valid];simp),this];rfl
theorem jU.done (aA:cl E){G:bn}(h:jU E 5 G):ea (E.ed 0) G=([],(0,3),true):=by have:=h [];rw[lE]at this;unfold ea;rw[aW (by rw[aA.job.valid];simp),this];rfl
end
end
end Go.Proofs.YtmkljjbioomepaaGreat
