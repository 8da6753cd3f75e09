import Derived.Test.YtmkljjbioomepaaGreatg07
set_option linter.all false
set_option maxHeartbeats 4000000
set_option maxRecDepth 100000
namespace Go.Proofs.YtmkljjbioomepaaGreat
open Go.Proofs.Tryz Go.bJ
variable {A:a4}{c aM i k n:Nat}{inc:Int}{w w':an}
section
abbrev Be:bY:=89
def fb.cells (x:fb):ax:=[.int .i64 x.ew,.int .i64 x.aL,.int .i64 x.node]
def fb.val (x:fb):bf:=.agg x.cells.toArray
theorem OD (C:a9)(j:Nat)(l:ct)(p:cH)(a:Option cN)(b:j<C.az.length) :
  ({C with az:=C.az.set j ⟨p,l.bG⟩}:a9).vv j p l.bG a=C.comes j l p a:=by
 cases a with
 |none=>rfl
 |some x=>simp[a9.vv,a9.comes]
theorem J1:∀ {l:c6} {x:Nat},x ∈ l->x<=l.sum
 |y::l,x,h=>by
  rw[pO];rcases f0.1 h with rfl | h
  ·omega
  ·have:=J1 h;omega
theorem cj.B_ {aw:bR}{X:bs}(h:cj A aw w aM X)(b:ai w w'):cj (λk=>A k\/(w.heap.size<=k/\k<w'.heap.size)) aw w' aM X:=by
 have m:l7 (λ_=>False) A (λk=>A k\/(w.heap.size<=k/\k<w'.heap.size)) aw aw w w':=⟨b,id,h.fs,λk e a=>a.elim id (λa=>by omega),λ_ _ _ _=>rfl,λk a=>.inl (h.fs k a)⟩;have g:=b.size;refine⟨m.m7,λk a=>a.elim (λa=>by have:=h.low k a;omega) (λa=>a.2),ai.aj b h.cw,h.ha,h.nodes.new b,h.kl,λi x f=>(h.node i x f).c5 m id id,ai.aj b h.cls,h.fI,
  λi c a=>(h.aL i c a).c5 m λ_ _=>id,h.gH.new b,h.kI,λp d=>⟨(dN.c5 m (h.ew p d).1 (h.ew p d).2 id (by simp)).1,(h.ew p d).2⟩,h.nodup⟩
theorem z' {aw:bR}{X:bs}(h:cj A aw w aM X)(cA:nU X.pure)(x:fb):a5 37 [ptr aM,x.val] w λv w'=>
  v=.bool (X.pure.step x).1/\d_ A aw w aM (X.pure.step x).2 w' λ_=>True:=by
 refine ba Tryz.func37 ?_;refine Eq.mpr (XX aM x.ew x.aL x.node w _) ?_;rintro b1 w1 de cG;obtain⟨G,D⟩:=bo de cG;clear cG;have ad:=h.new D;have G:av w1 b1 x.cells Be:=G;refine⟨_,G.cell (i:=0) rfl,bb (λeh=>?_) (λeh=>?_)⟩
 ·obtain ⟨i,eF⟩:∃ i:Nat,x.ew=i:=⟨x.ew.toNat,by omega⟩;have bM:X.pure.step x=X.pure.iY i:=by
   unfold ay.step
   grind
  refine⟨_,G.cell (i:=0) rfl,?_⟩;rw[eF];refine aB (Lk ad cA i) ?_;rintro v eS ⟨rfl,eH⟩;refine⟨_,rfl,?_⟩;rw[bM];exact⟨rfl,d_.trans (h.refl D) eH⟩
 refine⟨_,G.cell (i:=0) rfl,bb (λej=>?_) (λej=>?_)⟩
 ·have bM:X.pure.step x=(false,X.pure):=by unfold ay.step;grind
  rw[bM];exact⟨rfl,d_.same h D trivial⟩
 have a:X.pure.step x=match X.pure.cC x.aL with
  |none=>(false,X.pure)
  |some C=>if x.node<0 then(false,X.pure)else match C.az[x.node.toNat]?,X.pure.nodes[x.node.toNat]? with
   |some l,some n=>if l.pair.a1.length=0 then(false,X.pure)else
    (true,{X.pure with nodes:=X.pure.nodes.set x.node.toNat (l.pair.step n).2.1,aF:=X.pure.aF.set x.aL.toNat (C.comes x.node.toNat l (l.pair.step n).1 (l.pair.step n).2.2)})
   | _,_=>(false,X.pure):=by
  unfold ay.step
  grind
 refine⟨_,G.cell (i:=1) rfl,?_⟩;rcases X.s' x.aL with⟨ec,gj⟩ | ⟨i,c,cD,s,gj⟩
 ·refine aB (vM ad gj) ?_;rintro v d' ⟨rfl,rfl⟩;rw[ec]at a;refine⟨_,rfl,?_⟩;intro dL aG;refine⟨λ_=>True,trivial,?_⟩
  rw[a];exact⟨rfl,d_.same h (D.new (by rw[aG];exact cR _)) trivial⟩
 have eK:=cS s;rw[cD];refine aB (tr ad s) ?_;rintro v d' ⟨rfl,rfl⟩;rw[gj]at a;refine⟨_,rfl,?_⟩;intro dL aG;have J:ai d' dL:=by rw[aG];exact cR _
 clear aG;have I:=ad.new J;have ae:=ai.aj J G;refine⟨λu=>ai dL u,ao.refl _ _,?_⟩;refine⟨_,λu hu=>(ai.aj hu ae).cell (i:=2) rfl,bb (λc5=>?_) (λc5=>?_)⟩
 ·simp only[bh c5]at a;rw[a];exact⟨rfl,d_.same h (D.new J) trivial⟩
 simp only[aQ c5]at a;obtain⟨j,dv⟩:∃ j:Nat,x.node=j:=⟨x.node.toNat,by omega⟩;have dx:x.node.toNat=j:=by omega
 rw[dx]at a;have ag:=cA.aL i c.pure (by grind[bs.pure]);refine⟨_,λu hu=>(ai.aj hu ae).cell (i:=2) rfl,?_⟩;refine⟨_,_,_,λu hu=>(I.new hu).iq (k:=2) s rfl,bb (λdS=>?_) (λdS=>?_)⟩
 ·have e:c.pure.az[j]?=none:=uq (by
   grind[b3.pure])
  simp only[e]at a;rw[a];exact⟨rfl,d_.same h (D.new J) trivial⟩
 have ek:¬ x.node>=(c.az.length:Int):=dS;have eG:j<c.az.length:=by omega
 obtain⟨l,bP⟩:∃ l,c.az[j]?=some l:=⟨c.az[j],by grind⟩;have dX:j<X.nodes.length:=by
  have eO:=ag.az
  grind[b3.pure,bs.pure]
 obtain⟨y,cZ⟩:∃ y,X.nodes[j]?=some y:=⟨X.nodes[j],by grind⟩;have bC:c.pure.az[j]?=some l.pure:=by grind[b3.pure]
 have c3:X.pure.nodes[j]?=some y.n:=by grind[bs.pure]
 simp only[bC,c3]at a;have bH:=ag.lane j l.pure bC;refine⟨_,_,_,λu hu=>(I.new hu).iq (k:=2) s rfl,_,λu hu=>(ai.aj hu ae).cell (i:=2) rfl,?_⟩;obtain⟨g,S,eC,⟨ef,ez⟩,eA,cb⟩:=aX.row (I.aL i c s).own (nk c.az) (by omega) (mr bP);have eD:aw g=.az i:=(I.aL i c s).tag g ⟨0,S⟩;show bx c.la c.az.length x.node 2 _;rw[S,dv];refine dW (by omega) (by omega) ?_;rw[hD];refine⟨some ⟨l.pb,0,none⟩,λu hu=>kh hu (cb 0 _ rfl) id,?_⟩;refine aB (y4 ((I.aL i c s).lane j l bP).pair) ?_;rintro v ea ⟨rfl,rfl⟩;refine⟨_,rfl,ao.refl _ _,eg (λer=>?_) (λer=>?_)⟩
 ·have:l.pure.pair.a1.length=0:=by show l.p.a1.length=0;omega
  rw[bh this]at a;rw[a];exact⟨rfl,d_.same h (D.new J) trivial⟩
 have cF:¬ l.pure.pair.a1.length=0:=by show¬ l.p.a1.length=0;omega
 rw[aQ cF]at a;intro dN cP;have bI:ai ea dN:=by rw[cP];exact cR _
 clear cP;have b2:=I.new bI;have b8:=ai.aj bI ae;refine⟨λu=>ai dN u,ao.refl _ _,_,_,_,λu hu=>(b2.new hu).iq (k:=2) s rfl,_,λu hu=>(ai.aj hu b8).cell (i:=2) rfl,?_⟩;show bx c.la c.az.length x.node 2 _;rw[S,dv];refine dW (by omega) (by omega) ?_;rw[hD];intro M cQ;have bK:ai dN M:=by rw[cQ];exact cR _
 clear cQ;have t:=b2.new bK;have dm:=ai.aj bK b8;have a':ai ea M:=bI.new bK;have cu:ai w M:=(D.new J).new a';have dT:aw b1=.cO:=h.fresh (by omega);have b_:=t.aL i c s;have a8:=b_.lane j l bP;have d8:=t.node j y cZ;refine⟨λu=>ao (λk=>iU i j j (aw k)) M u,ao.refl _ _,some ⟨l.pb,0,none⟩,λu hu=>kh hu (kh a' (cb 0 _ rfl) id) (by grind[iU]),?_⟩;refine⟨_,_,_,λu hu=>(hu.aj t.cw (by rw[t.ha];simp[iU])).cell (i:=1) rfl,_,λu hu=>(hu.aj dm (by grind[iU])).cell (i:=2) rfl,?_⟩;refine ue (v:=ptr y.b) (i:=j) t.nodes (by grind) dv λeb af b7=>⟨some ⟨y.b,0,none⟩,λu hu=>kh hu af ?_,?_⟩
 ·obtain⟨dR,dt,rfl⟩:=b7;show¬ iU i j j (aw dR);rw[t.kl dR ⟨0,dt⟩];simp[iU]
 have ab:c.waiting<=1024:=by have et:=ag.batch;have e:c.pure.waiting=c.waiting:=rfl;omega
 have W:l.bG.length=l.p.a1.length:=bH.bG;have cB:∀ d9:Option cN,d9.isSome=true->∃ c2 bT cx,l.bG=bT::cx/\bT<c.raw.length/\c.fS=some c2/\0<c.waiting:=by
  intro d9 _;cases eJ:l.bG with
  |nil=>grind
  |cons bT cx=>
   have cr:=bH.low bT (by show bT ∈ l.bG;grind);have dp:=h.aL i c s;cases dn:c.fS with
   |none=>grind[b3.pure]
   |some c2=>
    simp[b3.pure,dn]at cr;refine⟨c2,bT,cx,rfl,by rw[dp.ds.1];grind,rfl,?_⟩;have et:=ag.waiting;have e:c.pure.waiting=c.waiting:=rfl;have eP:l.p.a1.length<=gQ c.pure.az:=by unfold gQ;exact J1 (cW.2 ⟨l.pure,b9 bC,rfl⟩)
    grind
 have Y:∀ (ma:a4) q r bA (cz:cj ma aw q aM X),zk ma l.pb y.b y.aK l.p y.n q r bA->∃ F E d p',r=.tuple #[d.val,.bool (l.p.pure.step y.n).2.2.isSome]/\Next ma F aw E q bA/\
   cj F E bA aM {X with nodes:=X.nodes.set j {y with n:=(l.p.pure.step y.n).2.1},aF:=X.aF.set i {c with az:=c.az.set j {l with p:=p'} } }/\p'.pure=(l.p.pure.step y.n).1/\
   ao (λk=>iU i j j (aw k)) q bA/\(∀ x,(l.p.pure.step y.n).2.2=some x->lV F bA d x):=by
  intro ma q r bA f b5;have U:=(f.aL i c s).lane j l bP;have K:=f.node j y cZ;obtain⟨χ',d,p',rfl,H,ah,cd,du,dB,dy,dE,db,dq⟩:=DQ U.pair U.tag (by simp) (λk s=>f.kj s) f.fs K.ks b5;obtain⟨aT,c9⟩:=f.Jq s bP cZ cd du dB dy ah db dE;exact⟨_,_,d,p',rfl,aT,c9,H,cd,dq⟩
 have Q:∀ (ma:a4) q,cj ma aw q aM X->a5 70 [.pointer (some ⟨l.pb,0,none⟩),.pointer (some ⟨y.b,0,none⟩)] q (zk ma l.pb y.b y.aK l.p y.n q):=by intro ma q f;have U:=(f.aL i c s).lane j l bP;have K:=f.node j y cZ;exact Fi U.pair K.node (f.fs _ (by rw[K.ks];simp)) (f.fs _ (by rw[K.tag];simp)) (λey=>by have:=U.tag _ (.inr (.inr ey));rw[K.ks]at this;grind) bH.ih
 have aZ:∀ B cY F E d p' q,ai M q->Next A F aw E q B->cj F E B aM { X with nodes:=X.nodes.set j { y with n:=(l.p.pure.step y.n).2.1 },aF:=X.aF.set i { c with az:=c.az.set j { l with p:=p' } } }->p'.pure=(l.p.pure.step y.n).1->
   av B cY (bV.cells d) jz->(∀ x,(l.p.pure.step y.n).2.2=some x->lV F B d x)->∀ w' A' χ' cV,Next F A' E χ' B w'->cj A' χ' w' aM cV->
   cV.pure=(bs.pure {X with nodes:=X.nodes.set j {y with n:=(l.p.pure.step y.n).2.1},aF:=X.aF.set i {c with az:=c.az.set j {l with p:=p'} } }).eo i ((b3.pure {c with az:=c.az.set j {l with p:=p'} }).vv j p'.pure l.bG (l.p.pure.step y.n).2.2)->
   (Value.bool true=.bool (X.pure.step x).1/\d_ A aw w aM (X.pure.step x).2 w' λ_=>True):=by
  intro B cY F E d p' q cz aT eQ H dU eR w' A' χ' cV dK c7 dd;rw[a];refine⟨rfl,A',χ',cV,((h.refl (cu.new cz)).trans aT).trans dK,c7,?_,trivial⟩;rw[dd,bs.Xn,cD];have ed:(b3.pure {c with az:=c.az.set j {l with p:=p'} })={c.pure with az:=c.pure.az.set j ⟨p'.pure,l.pure.bG⟩}:=by simp[b3.pure,mM,c4.pure]
  have ee:l.bG=l.pure.bG:=rfl;rw[ed,ee,OD _ _ _ _ _ (by grind),H];simp[ay.eo];exact⟨rfl,rfl⟩
 have aP:∀ p':dC,(X.aF.set i {c with az:=c.az.set j {l with p:=p'} })[i]?=some {c with az:=c.az.set j {l with p:=p'} }:=λp'=>by grind
 have ct:∀ p':dC,(c.az.set j {l with p:=p'})[j]?=some {l with p:=p'}:=λp'=>by grind
 refine⟨?_,?_⟩
 ·refine aB (Q A M t) ?_;intro r bA b5;obtain⟨F,E,d,p',rfl,aT,da,H,cn,dr⟩:=Y A M r bA t b5;refine⟨_,_,_,_,_,rfl,cn,?_⟩;rintro cY eT dg cT;obtain⟨cU,cy⟩:=bo dg cT;refine⟨cn.new cy,gq (vs:=d.cells) cU (by simp[bV.cells]) (bV.single d),?_⟩;intro B bk;obtain⟨bm,V⟩:=nw (vs:=d.cells) cU (by simp[bV.cells]) cy (by omega) bk;clear cT bk;have aH:=da.new V;have aR:∀ x,(l.p.pure.step y.n).2.2=some x->lV F B d x:=λx dG=>(dr x dG).aA (ao.cm V) λ_ _ h=>h
  exact DR (R:=λv w'=>v=.bool (X.pure.step x).1/\d_ A aw w aM (X.pure.step x).2 w' λ_=>True) aH (aP p') (ct p') S bm (l.p.pure.step y.n).2.2 aR (cB _) (by show l.bG.length<=1024;rw[W];exact a8.pair.len) ab
   (aZ B cY F E d p' M (ao.refl _ _) (aT.new V) aH H bm aR)
 ·rintro N bN di bl;obtain ⟨bq,z⟩:=bo di bl;clear bl;refine ⟨ao.cm z,?_⟩;refine aB (Q _ bN (t.B_ z)) ?_;intro r bO b5;obtain ⟨F,E,d,p',rfl,aT,bX,H,a0,ca⟩:=Y _ bN r bO (t.B_ z) b5;have aO:aw N=.cO:=t.fresh (by omega);have br:=a0.aj bq (by grind [iU]);refine ⟨_,_,_,_,_,rfl,(ao.cm z).trans a0 (λk _ h=>h),gq (vs:=d.cells) br (by simp [bV.cells]) (bV.single d),?_⟩;intro L Z;have bz:av L N d.cells jz:=by
   have hw:L=cI bO ⟨N,0,none⟩ 0 d.cells:=Z;rw[hw];have:=br.cI (o:=0) (i:=0) (vs:=d.cells);rw[qh (by simp[bV.cells])]at this
   grind
  have T:ao (λk=>k=N) bO L:=by rw[Z];exact ir _ _ _ _ _
  clear Z;have P:N<bN.heap.size:=bq.lt;have dY:=z.size;have eu:F N:=(aT.iff N).2 (.inr ⟨P,.inr ⟨by omega,P⟩,aO⟩);have eL:E N=.cO:=by
   by_cases s:E N=.cO
   ·exact s
   ·exact cp aO (aT.grow N P s)
  have b0:=bX.other T (λk bD=>by grind);have bj:∀ k,gV A aw E M k->F k:=by
   intro k bD;refine(aT.iff k).2 ?_;rcases bD with bD | bD
   ·exact .inl bD
   ·exact .inr ⟨by omega,.inl bD.2.1,bD.2.2⟩
  have O:=b0.nB bj (λk s=>.inl s);have dA:Next A (gV A aw E M) aw E M L:=by refine⟨((ao.cm z).trans aT.aA λ_ _ h=>h).trans T λk dz e=>by omega,λk dz s=>aT.grow k (by omega) s,λ_=>Iff.rfl⟩
  have aV:∀ x,(l.p.pure.step y.n).2.2=some x->lV (gV A aw E M) L d x:=λx dG=>(ca x dG).aA (T.mono λk _ e=>by grind) λk _ s=>bj k s
  exact DR (R:=λv w'=>v=.bool (X.pure.step x).1/\d_ A aw w aM (X.pure.step x).2 w' λ_=>True) O (aP p') (ct p') S bz (l.p.pure.step y.n).2.2 aV (cB _) (by show l.bG.length<=1024;rw[W];exact a8.pair.len) ab
   (aZ L N _ E d p' M (ao.refl _ _) dA O H bz aV)
end
section
theorem Ee {α:Type}{l:List α}{x:α}(h:l[k]?=some x):l.drop k=x::l.drop (k+1):=by
 grind[List.getElem?_eq_some_iff,List.drop_eq_getElem_cons]
def g7 (l:List fb):List ax:=l.map fb.cells
theorem CX (l:List fb):∀ r ∈ g7 l,r.length=3:=by intro r a;simp only[g7,cW]at a;obtain⟨l,_,rfl⟩:=a;rfl
theorem CY {l:List fb}{x:fb}(h:l[i]?=some x):(g7 l)[i]?=some x.cells:=by grind[g7]
structure lG (w u:an)(a:ak)(cap:Nat)(out:List fb):Prop where
 new:ai w u
 own:aX u Be 3 a out.length cap (g7 out).flatten
 fresh:∀ k,aP a k->w.heap.size<=k
theorem lG.step {u bB:an}{a:ak}{cap:Nat}{out:List fb}(h:lG w u a cap out)(b:ai u bB):lG w bB a cap out:=⟨h.new.new b,h.own.new b,h.fresh⟩
theorem lG.append {w u bQ:an}{a:ak}{cap b:Nat}{out:List fb}(h:lG w u a cap out)(x:fb)(D:b=u.heap.size)(hw:bQ=u.alloc (.cells x.cells.toArray 89))(K:out.length<=1000000000) :
  ∃ r f cl,(Builtin.append_ #[85,85] 85 #[.slice a out.length cap,.slice (some ⟨b,0,none⟩) 1 1]).run prog bQ=.ok (.slice r (out++[x]).length f) cl/\lG w cl r f (out++[x]):=by
 obtain⟨aq,A⟩:=bo D hw;have y:=h.step A;obtain⟨H,F,q,d,E⟩:=fV (T:=89) (z:=.agg #[.int .i64 0,.int .i64 0,.int .i64 0]) (n:=3) (m:=24) (by kernel_rfl);have i:aX bQ Be H.size a out.length cap (g7 out).flatten:=by rw[d];exact y.own
 obtain⟨ap,dD,I,C,g,p,l⟩:=i.append (P:=prog) (t:=85) (ty:=85) Tryz.underlying85 F q (by rw[d];rfl) (by omega)
  (s:=some ⟨b,0,none⟩) (m:=1) (c:=1) (news:=x.cells) (by rw[d];rfl) (fj aq (by grind)) (by simp[fb.cells,single]) (by omega) (by grind)
 rw[d]at g;have J:(g7 (out++[x])).flatten=(g7 out).flatten++x.cells:=by simp[g7]
 refine⟨ap,dD,I,by grind,y.new.trans p λk G j=>?_,?_,λk j=>?_⟩
 ·have:=h.fresh k j;omega
 ·grind
 ·rcases l with e | e
  ·exact h.fresh k (e▸j)
  ·obtain⟨o,B⟩:=j;rw[e]at B;simp at B;have:=h.new.size;have:=A.size;omega
theorem lG.nil (w:an):lG w w none 0 []:=⟨ao.refl _ _,aX.nil _ _ _,λk ⟨o,a⟩=>by cases a⟩
theorem JG (i:Nat):∀ (j:Nat) (ls:List ct),(kz i j ls).length<=ls.length
 | _,[]=>by simp[kz]
 |j,l::ls=>by have:=JG i (j+1) ls;simp only[kz,fF,h3];split<;>simp<;>omega
theorem BQ {n:Nat}:∀ (i:Nat) (cs:List a9),(∀ c ∈ cs,c.az.length<=n)->(hp i cs).length<=cs.length*n
 | _,[],_=>by simp[hp]
 |i,c::cs,h=>by
  have b:=BQ (i+1) cs λc a=>h c (fG _ a)
  have d:=JG i 0 c.az;have e:=h c (fR ..);simp only[hp,fF,h3,uh,Nat.one_mul];omega
theorem BR:∀ (i:Nat) (cx:List cH),(kA i cx).length=cx.length
 | _,[]=>rfl
 |i,p::cx=>by simp[kA,BR (i+1) cx]
theorem zG {aw:bR}{X:bs}(h:cj A aw w aM X)(G:nU X.pure)(bK:X.bZ.length<=100000000):a5 36 [ptr aM] w λv w'=>
  ∃ a cap,v=.slice a X.pure.dd.length cap/\lG w w' a cap X.pure.dd:=by
 refine ba Tryz.func36 ?_;rw[ptr,W0];have P:∀ c ∈ X.pure.aF,c.az.length<=5:=by
  intro c C;obtain⟨i,bk⟩:=ez.1 C;have bX:=(G.aL i c bk).az;have b0:=G.nodes
  grind
 have ah:X.pure.aF.length=X.aF.length:=by simp[bs.pure]
 have bj:=BQ 0 X.pure.aF P;have bh:=G.aF;have aV:∀ (i:Nat) (c:b3),X.aF[i]?=some c->X.pure.aF[i]?=some c.pure:=λi c C=>by grind[bs.pure]
 refine ⟨_,_,_,h.cw.cell rfl,?_⟩;refine cZ mix (λm env u=>∃ (i:Nat) (aC:ax) (a:ak) (cap:Nat) (out:List fb),i<=X.aF.length/\m=X.aF.length - i/\env=xV ⟨aM,0,none⟩ a out.length cap (some ⟨X.aY,0,none⟩) X.aF.length X.aF.length X.aF.length i aC/\
   lG w u a cap out/\out++hp i (X.pure.aF.drop i)=hp 0 X.pure.aF) X.aF.length ⟨0,_,none,0,[],by omega,by omega,rfl,lG.nil w,rfl⟩ ?_
 rintro m env u ⟨i,aC,a,cap,out,bk,rfl,rfl,s,y⟩;rw[UU];refine bb (λaO=>?_) (λaO=>?_)
 ·have bx:i<X.aF.length:=by omega
  obtain⟨c,C⟩:∃ c,X.aF[i]?=some c:=⟨X.aF[i],by grind⟩;have ae:=h.new s.new;refine dW (by omega) (by omega) ?_;rw[hD];have r:cn u ⟨X.aY,0+i*7,none⟩ 0 c.cells:=k_ λk v al=>by
   have:=ae.iq C al
   grind
  refine⟨_,_,_,_,_,_,_,_,_,_,_,r,?_⟩;rintro b1 w1 af W;obtain⟨aq,S⟩:=bo af W;refine⟨gq (vs:=c.cells) aq (by simp[b3.cells]) (by simp[b3.cells,single]),?_⟩;intro b8 Y;obtain⟨aZ,aQ⟩:=nw (vs:=c.cells) aq (by simp[b3.cells]) S (by omega) Y;clear W Y aq S;refine⟨_,_,_,aZ.cell (i:=2) rfl,?_⟩;have F:X.pure.aF.drop i=c.pure::X.pure.aF.drop (i+1):=by
   grind[y5,List.getElem?_eq_getElem]
  rw[F]at y;have bO:c.pure.az.length=c.az.length:=by simp[b3.pure]
  have bD:=P c.pure (b9 (aV i c C));refine cZ mix (λm env z=>∃ (j:Nat) (bm:ax) (L:ak) (e:Nat) (d:List fb),j<=c.az.length/\m=c.az.length-j/\env=vr ⟨aM,0,none⟩ L d.length e i (some ⟨X.aY,0,none⟩) X.aF.length X.aF.length X.aF.length i c.la c.az.length c.lc c.az.length j bm/\
   lG w z L e d/\d++kz i j (c.pure.az.drop j)++hp (i+1) (X.pure.aF.drop (i+1))=hp 0 X.pure.aF) c.az.length ⟨0,_,a,cap,out,by omega,by omega,rfl,s.step aQ,by grind[hp]⟩ ?_
  rintro m env z ⟨j,bm,L,e,d,b2,rfl,rfl,f,H⟩;rw[Up];have M:=h.new f.new;have aG:d.length<=30:=by
   grind
  refine bb (λQ=>?_) (λQ=>?_)
  ·have bA:j<c.az.length:=by omega
   obtain⟨l,bl⟩:∃ l,c.az[j]?=some l:=⟨c.az[j],by grind⟩;obtain⟨g,O,_,_,ao,_⟩:=aX.row (M.aL i c C).own (nk c.az) (by omega) (mr bl);rw[O];refine dW (by omega) (by omega) ?_;rw[hD];refine⟨_,_,_,_,ao,?_⟩;rintro bV b_ ag Z;obtain⟨K,T⟩:=bo ag Z;refine⟨gq (vs:=l.cells) K (by simp[c4.cells]) (by simp[c4.cells,single]),?_⟩;intro ca ab;obtain⟨a0,U⟩:=nw (vs:=l.cells) K (by simp[c4.cells]) T (by omega) ab;clear Z ab K T;refine⟨_,a0.cell (i:=0) rfl,?_⟩;have aP:=((M.new U).aL i c C).lane j l bl;refine aB (y4 aP.pair) ?_;rintro v bP ⟨rfl,rfl⟩;have E:c.pure.az.drop j=l.pure::c.pure.az.drop (j+1):=by
    grind[y5,b3.pure,List.getElem?_eq_getElem]
   rw[E]at H;have x:=f.step U;rw[<-O];refine⟨_,rfl,bb (λbN=>?_) (λbN=>?_)⟩
   ·have aR:0<l.pure.pair.a1.length:=by show 0<l.p.a1.length;omega
    rintro br bq B J;obtain⟨ap,dD,a8,q,n⟩:=x.append ⟨-1,i,j⟩ B J (by omega);refine⟨ap,_,dD,a8,q,?_⟩;rw[show IntKind.i64.wrap ((j:Int)+1)=((j+1:Nat):Int) by rw[bI (by omega) (by omega)];rfl];refine⟨c.az.length-(j+1),by omega,j+1,_,ap,dD,d++[⟨-1,i,j⟩],by omega,rfl,rfl,n,?_⟩
    grind[kz]
   ·have aR:¬ 0<l.pure.pair.a1.length:=by show¬ 0<l.p.a1.length;omega
    rw[show IntKind.i64.wrap ((j:Int)+1)=((j+1:Nat):Int) by rw[bI (by omega) (by omega)];rfl];refine⟨c.az.length-(j+1),by omega,j+1,_,L,e,d,by omega,rfl,rfl,x,?_⟩
    grind[kz]
  ·have bz:j=c.az.length:=by omega
   rw[VI];rw[show IntKind.i64.wrap ((i:Int)+1)=((i+1:Nat):Int) by rw[bI (by omega) (by omega)];rfl];refine⟨X.aF.length-(i+1),by omega,i+1,_,L,e,d,by omega,rfl,rfl,f,?_⟩
   grind[List.drop_length,kz]
 ·have av:i=X.aF.length:=by omega
  rw[av,<-ah,J']at y;have I:out=hp 0 X.pure.aF:=by grind[hp]
  rw[VH];have ae:=h.new s.new;refine⟨_,_,_,ae.cw.cell (i:=3) rfl,?_⟩;have bM:X.pure.bZ.length=X.bZ.length:=by simp[bs.pure]
  refine cZ mix (λm env z=>∃ (i:Nat) (aC:ax) (a:ak) (cap:Nat) (out:List fb),i<=X.bZ.length/\m=X.bZ.length-i/\env=xW a out.length cap X.gy X.bZ.length X.j1 X.bZ.length i aC/\
   lG w z a cap out/\out++kA i (X.pure.bZ.drop i)=X.pure.dd) X.bZ.length ⟨0,_,a,cap,out,by omega,by omega,rfl,s,by rw[I];rfl⟩ ?_
  rintro m env z ⟨k,b7,bT,a',ad,b5,rfl,rfl,t,o⟩;rw[Uq];have N:=h.new t.new;have aH:ad.length<=100000030:=by
   have:=ey List.length o
   grind[List.length_append,ay.dd,BR]
  refine bb (λR=>?_) (λR=>?_)
  ·have bC:k<X.bZ.length:=by omega
   obtain⟨b,p,bH⟩:∃ b p,X.bZ[k]?=some (b,p):=⟨X.bZ[k].1,X.bZ[k].2,by grind⟩;have V:=(N.ew _ (b9 bH)).1;refine ue (v:=ptr b) (i:=k) N.gH (by grind) rfl λbF D _=>⟨some ⟨b,0,none⟩,D,?_⟩
   refine aB (M5 V) ?_;rintro v bP ⟨rfl,rfl⟩;refine⟨_,rfl,?_⟩;refine aB (Fh V) ?_;rintro v bq ⟨rfl,rfl⟩;refine⟨_,rfl,?_⟩;rintro br bq B J;obtain⟨ap,dD,a8,q,n⟩:=t.append ⟨k,p.aL,p.node⟩ B J (by omega);refine⟨ap,_,dD,a8,q,?_⟩;rw[show IntKind.i64.wrap ((k:Int)+1)=((k+1:Nat):Int) by rw[bI (by omega) (by omega)];rfl];refine⟨X.bZ.length-(k+1),by omega,k+1,_,ap,dD,_,by omega,rfl,rfl,n,?_⟩;have E:X.pure.bZ.drop k=p.pure::X.pure.bZ.drop (k+1):=Ee (by grind[bs.pure]);rw[<-o,E];rw[kA,ke];rfl
  grind[List.drop_length,kA,VJ]
end
section
def iF (ls:List c4):List (Nat×dC):=(ls.filter λl=>decide (0<l.p.a1.length)).map λl=>(l.pb,l.p)
theorem Ef (l:c4)(ls:List c4):iF (l::ls)=if 0<l.p.a1.length then(l.pb,l.p)::iF ls else iF ls:=by
 grind[iF]
theorem OE (ls:List c4):(iF ls).map (λp=>p.2.pure)=((ls.map c4.pure).map ct.pair).filter λp=>decide (0<p.a1.length):=by
 induction ls with
 |nil=>rfl
 |cons l ls a=>
  rw[Ef,iI,iI,List.filter_cons];have:l.pure.pair.a1=l.p.a1:=rfl;rw[this,<-a];by_cases h:0<l.p.a1.length
  ·simp[h];rfl
  grind
theorem Fa {ls:List c4}{x:Nat×dC}(h:x ∈ iF ls):∃ (j:Nat) (l:c4),ls[j]?=some l/\x=(l.pb,l.p)/\0<l.p.a1.length:=by
 simp only[iF,cW,List.mem_filter,mL]at h
 grind[List.mem_iff_getElem?]
def qR (i:Nat)(ls:List c4):Tag->Tag
 |.lane c n=>if c=i then(match ls[n]? with
  |some l=>if 0<l.p.a1.length then .fY l.pb else .lane c n
  |none=>.lane c n)else .lane c n
 |t=>t
theorem Ll {ls:List c4}{t:Tag}(h:∀ n,t≠.lane i n):qR i ls t=t:=by
 cases t with
 |lane c n=>
  simp only[qR]
  grind
 | _=>rfl
theorem CZ {ls:List c4}{t:Tag}(h:qR i ls t≠.cO):t≠.cO:=by rintro rfl;exact h rfl
theorem MJ {ls:List c4}{l:c4}(a:ls[n]?=some l)(b:0<l.p.a1.length):qR i ls (.lane i n)=.fY l.pb:=by
 grind[qR]
structure Dp (A:a4)(aw:bR)(w:an)(aM:Nat)(X:bs)(c:b3)(k:Nat)(u:an)(gy:ak)(j1:Nat)(os:List (Nat×dC)):Prop where
 aA:ao (λz=>aw z=.cw\/aw z=.gH) w u
 cw:av u aM (X.cells.set 3 (.slice gy os.length j1)) lK
 own:aX u o3 1 gy os.length j1 (os.map λp=>ptr p.1)
 tag:∀ z,aP gy z->aw z=.gH\/w.heap.size<=z
 eq:os++iF (c.az.drop k)=X.bZ++iF c.az
theorem OF {aw:bR}{X:bs}(h:cj A aw w aM X)(ab:nU X.pure)(b8:X.bZ.length<=100000000){c:b3}(bX:X.aF[i]?=some c)
  {j:ax} {R:cM} (cd:∀ u x N os,Dp A aw w aM X c c.az.length u x N os->∀ aC,W prog (sub (bu f22) [1,1,1,1]) (BF (some ⟨X.aY,0+i*7,none⟩) aC) (dE prog f22 R) u) :
  cz prog (.loop (sub (bu f22) [1,1,1,0,1,0,0])) (td ⟨aM,0,none⟩ (some ⟨X.aY,0+i*7,none⟩) c.la c.az.length c.lc c.az.length 0 j)
   (aO 0 (aZ (λenv w=>W prog (sub (bu f22) [1,1,1,1]) env (dE prog f22 R) w) (dE prog f22 R))) w:=by
 have a':=ab.aL i c.pure (by grind[bs.pure]);have b7:=ab.nodes;have b5:c.az.length<=5:=by
  have cb:=a'.az
  grind[b3.pure]
 have bq:∀ ls:List c4,(iF ls).length<=ls.length:=λls=>by grind[iF,List.length_filter_le]
 have bH:=bq c.az;refine cZ mix (λm env u=>∃ (k:Nat) (aC:ax) (x:ak) (N:Nat) (os:List (Nat×dC)),k<=c.az.length/\m=c.az.length-k/\env=td ⟨aM,0,none⟩ (some ⟨X.aY,0+i*7,none⟩) c.la c.az.length c.lc c.az.length k aC/\Dp A aw w aM X c k u x N os) c.az.length
  ⟨0,_,X.gy,X.j1,X.bZ,by omega,by omega,rfl,ao.refl _ _,h.cw,h.gH,λz aq=>.inl (h.kI z aq),rfl⟩ ?_
 rintro m env u ⟨k,aC,x,N,os,cn,rfl,rfl,a6⟩;rw[Vw];have bD:os.length<=100000005:=by
  have:=ey List.length a6.eq
  grind
 refine bb (λV=>?_) (λV=>?_)
 ·have b2:k<c.az.length:=by omega
  obtain⟨l,bl⟩:∃ l,c.az[k]?=some l:=⟨c.az[k],by grind⟩;have F:=h.aL i c bX;have ad:aX u lL 2 c.la c.az.length c.lc (hy c.az).flatten:=F.own.aA a6.aA λz aq=>by rw[F.tag z aq];simp
  obtain⟨g,S,_,_,bk,_⟩:=aX.row ad (nk c.az) (by omega) (mr bl);have Y:=F.lane k l bl;rw[S];refine dW (by omega) (by omega) ?_;rw[hD];refine⟨_,_,_,_,bk,?_⟩;rintro bP cp a5 af;obtain⟨M,Z⟩:=bo a5 af;refine⟨gq (vs:=l.cells) M (by simp[c4.cells]) (by simp[c4.cells,single]),?_⟩;intro bK ag;obtain⟨aH,y⟩:=nw (vs:=l.cells) M (by simp[c4.cells]) Z (by omega) ag;clear af ag M Z;refine⟨_,aH.cell (i:=0) rfl,?_⟩;have D:ao (λz=>aw z=.cw\/aw z=.gH) w bK:=a6.aA.new y;have bm:dN A bK l.pb l.p:=Y.pair.aA D (λz aq=>by rw[Y.tag z aq];simp) (λz aq=>h.fs z (by grind));refine aB (y4 bm) ?_;rintro v ca ⟨rfl,rfl⟩;have ba:=Ee bl;have heq:=a6.eq;rw[ba,Ef]at heq;rw[<-S];have b:=ai.aj y a6.cw;have q:=a6.own.new y;refine⟨_,rfl,bb (λb9=>?_) (λb9=>?_)⟩
  ·have J:0<l.p.a1.length:=by omega
   rw[bh J]at heq;intro bM ah;have B:ai ca bM:=by rw[ah];exact cR _
   clear ah;have d:=ai.aj B b;have br:=ai.aj B aH;have H:=q.new B;have Q:¬ aP x aM:=λa0=>by
    rcases a6.tag aM a0 with e | e
    ·rw[h.ha]at e;cases e
    ·have:=h.cw.lt;omega
   have O:¬ aP x bP:=λa0=>by have:=a6.own.lt a0;omega
   refine⟨λz=>ao (aP x) bM z,ao.refl _ _,_,_,_,λz aq=>(aq.aj d Q).cell (i:=3) rfl,_,λz aq=>(aq.aj br O).cell (i:=0) rfl,?_⟩;rintro bT bN a8 aG;obtain⟨bx,f⟩:=bo a8 aG;clear aG;refine⟨ao.cm f,?_⟩;obtain⟨b_,b0,bz,K,bV⟩:=fV (T:=103) (z:=.pointer none) (n:=1) (m:=8) (by kernel_rfl);have I:aX bN o3 b_.size x os.length N (os.map λp=>ptr p.1):=by rw[K];exact H.new f
   obtain⟨ap,dD,bA,ae,r,G,aV⟩:=I.append (P:=prog) (t:=106) (ty:=106) Tryz.underlying106 b0 bz (by rw[K];rfl) (by omega)
    (s:=some ⟨bT,0,none⟩) (m:=1) (c:=1) (news:=[ptr l.pb]) (by grind) (fj bx (by simp[ptr])) (by simp[ptr,single]) (by omega) (by grind)
   rw[K]at r;have a:av bA aM (X.cells.set 3 (.slice x os.length N)) lK:=G.aj (ai.aj f d) Q;refine⟨ap,_,dD,bA,ae,(ao.cm f).trans G λ_ _ h=>h,⟨_,a.cell (i:=3) rfl⟩,a.frozen,?_⟩;intro bO L;have U:ao (λz=>z=aM) bA bO:=by rw[L];exact e4 _ _ _ _
   have bj:av bO aM (X.cells.set 3 (.slice ap (os.length+1) dD)) lK:=by
    rw[L];have:=a.setCell (i:=3) (.slice ap (os.length+1) dD)
    simp_all
   clear L;have E:ai u bN:=(y.new B).new f;have C:∀ z,aP ap z->aw z=.gH\/w.heap.size<=z:=by
    intro z aq;rcases aV with e | e
    ·exact a6.tag z (e▸aq)
    ·obtain⟨o,bC⟩:=aq;rw[e]at bC;simp at bC;have:=a6.aA.size;have:=E.size
     grind
   rw[show IntKind.i64.wrap ((k:Int)+1)=((k+1:Nat):Int) by rw[bI (by omega) (by omega)];rfl];refine⟨c.az.length-(k+1),by omega,k+1,_,ap,dD,os++[(l.pb,l.p)],by omega,rfl,rfl,?_,?_,?_,C,?_⟩
   ·refine((a6.aA.new E).trans G λz V aq=>?_).trans U λz _ e=>.inl (by rw[e];exact h.ha)
    rcases a6.tag z aq with e | e
    ·grind
    ·omega
   ·grind
   ·have:=r.aA U (λz aq e=>?_)
    ·grind
    ·rcases C z aq with aR | aR
     ·rw[e,h.ha]at aR;cases aR
     ·have:=h.cw.lt;omega
   grind
  ·have J:¬ 0<l.p.a1.length:=by omega
   rw[aQ J]at heq;rw[show IntKind.i64.wrap ((k:Int)+1)=((k+1:Nat):Int) by rw[bI (by omega) (by omega)];rfl];exact⟨c.az.length-(k+1),by omega,k+1,_,x,N,os,by omega,rfl,rfl,D,b,q,a6.tag,heq⟩
 grind
theorem P7 (ls:List c4):((iF ls).map Prod.fst).Sublist (ls.map c4.pb):=by
 have:(iF ls).map Prod.fst=(ls.filter λl=>decide (0<l.p.a1.length)).map c4.pb:=by simp[iF,Function.comp_def]
 grind[List.filter_sublist]
def qC (i:Nat)(t:Tag):Prop:=t=.cw\/t=.gH\/t=.aF\/ji i t
open Classical in
theorem cj.die {aw:bR}{X:bs}(h:cj A aw w aM X){c:b3}(f:X.aF[i]?=some c){gy:ak}{j1:Nat}
  (d:ao (λz=>aw z=.cw\/aw z=.gH\/aw z=.aF) w w') (P:av w' aM (X.cells.set 3 (.slice gy (X.bZ++iF c.az).length j1)) lK) (B:aX w' o3 1 gy (X.bZ++iF c.az).length j1 ((X.bZ++iF c.az).map λp=>ptr p.1))
  (Q:∀ z,aP gy z->aw z=.gH\/w.heap.size<=z) {c':b3} (I:c'.az=[]/\c'.la=none/\c'.lc=0/\c'.fS=none/\c'.raw=[]/\c'.batch=[]) (g:av w' X.aY (gE (X.aF.set i c')).flatten im) :
  ∃ A' χ',Next A A' aw χ' w w'/\cj A' χ' w' aM {X with aF:=X.aF.set i c',bZ:=X.bZ++iF c.az,gy:=gy,j1:=j1}:=by
 let χ':bR:=λk=>if aP gy k then .gH else qR i c.az (aw k)
 have t1:∀ k,aP gy k->χ' k=.gH:=λk d=>bh d
 have t2:∀ k,¬ aP gy k->χ' k=qR i c.az (aw k):=λk d=>aQ d
 have Z:∀ k,k<w.heap.size->χ' k≠.cO->aw k≠.cO:=by
  grind[CZ]
 have af:∀ k,k<w.heap.size->¬ qC i (aw k)->aw k≠.cO->χ' k=aw k:=by
  intro k D V _;by_cases g:aP gy k
  ·grind
  ·rw[t2 k g];exact Ll λn e=>V (.inr (.inr (.inr (by rw[e];rfl))))
 obtain⟨m,aT⟩:=h.move (T:=qC i) (χ':=χ') (w':=w') (d.mono λk _ f=>by grind[qC]) (by simp[qC,ji]) Z af;have f2:=aX.c5 m h.nodes h.kl (by simp[qC,ji]) (by simp);have E:=h.aL i c f;have s:∀ k,k<w.heap.size->aw k≠.gH->¬ aP gy k:=λk D ab g=>by
  grind
 have G:∀ (j:Nat) (l:c4),c.az[j]?=some l->aw l.pb=.lane i j:=λj l F=>(E.lane j l F).tag _ (.inl rfl)
 refine⟨_,χ',aT,m.m7,λk f=>?_,?_,?_,f2.1,f2.2,λq z aq=>(h.node q z aq).c5 m (by simp[qC,ji]) (by simp[qC,ji]),g,?_,λq z aq=>?_,B,t1,λx C=>?_,?_⟩
 ·rcases f with f | f
  ·by_cases g:aP gy k
   ·exact B.lt g
   ·rw[t2 k g]at f;exact fE (h.kj (CZ f)) d.size
  ·exact fE f.1 d.size
 ·grind[bs.cells]
 ·rw[t2 aM (s aM h.cw.lt (by rw[h.ha];simp)),h.ha];rfl
 ·show χ' X.aY=_;rw[t2 _ (s _ h.cls.lt (by rw[h.fI];simp)),h.fI];rfl
 ·simp only[kW]at aq;split at aq
  ·rename_i he;subst he;split at aq
   ·simp only[hM]at aq;subst aq;obtain⟨R,L,S,ah,M,N⟩:=I;refine⟨?_,λk d=>?_,λj l F=>?_,λ_=>⟨M,N⟩,λb Y=>?_,?_⟩
    ·rw[R,L,S];exact aX.nil _ _ _
    ·rw[L]at d;obtain⟨o,ad⟩:=d;cases ad
    ·grind
    ·grind
    ·rw[M,N];exact⟨rfl,λ_ _ _ f=>by grind⟩
   grind
  ·rename_i he;refine(h.aL q z aq).c5 m λt u O=>?_
   rcases O with e | e | e | e
   ·rw[e]at u;cases u
   ·rw[e]at u;cases u
   ·rw[e]at u;cases u
   ·exact GR he t u (.inr e)
 ·rcases i'.1 C with C | C
  ·exact dN.c5 m (h.ew x C).1 (h.ew x C).2 (by simp[qC,ji]) (by simp)
  ·obtain⟨j,l,F,rfl,ae⟩:=Fa C;have r:=E.lane j l F;have J:∀ k,l.p.mut l.pb k->k<w.heap.size:=λk d=>h.kj (by rw[r.tag k d];simp)
   have K:∀ k,l.p.mut l.pb k->χ' k=.fY l.pb:=λk d=>by
    rw[t2 k (s k (J k d) (by rw[r.tag k d];simp)),r.tag k d]
    grind[MJ]
   refine⟨?_,K⟩;refine(r.pair.nB (λk D U=>m.old k D U) (λk d=>m.m7 k (by grind))).aA d (λk d f=>?_) (λk f=>m.m7 k ?_)
   ·rw[r.tag k d]at f
    grind
   grind[qR]
 ·show((X.bZ++iF c.az).map Prod.fst).Nodup;rw[kY,List.nodup_append];refine⟨h.nodup,(P7 c.az).nodup ?_,?_⟩
  ·refine Zy.2 λa b H g W he=>?_
   simp only[gR]at H g;simp only[List.getElem_map]at he;have u:=G a _ (b2 H);have O:=G b _ (b2 g)
   grind
  ·intro a H b g he;obtain⟨x,C,rfl⟩:=cW.1 H;obtain⟨y,ag,rfl⟩:=cW.1 g;obtain⟨j,l,F,rfl,ae⟩:=Fa ag;have u:=(h.ew x C).2 x.1 (.inl rfl)
   grind
theorem G8 {aw:bR}{X:bs}(h:cj A aw w aM X)(N:nU X.pure)(M:X.bZ.length<=100000000)(c:Int):a5 22 [ptr aM,.int .i64 c] w λv w'=>
  v=.bool (X.pure.die c).1/\d_ A aw w aM (X.pure.die c).2 w' λ_=>True:=by
 refine ba Tryz.func22 ?_;rw[ptr,Yd];refine aB (Fj h c) ?_;rintro v w1 ⟨rfl,rfl⟩;rcases X.s' c with⟨r,U⟩ | ⟨i,x,rfl,r,U⟩
 ·have C:X.pure.die c=(false,X.pure):=by grind[ay.die]
  have F:X.pure.alive c=false:=by grind[ay.alive]
  rw[C,F];exact⟨_,rfl,rfl,d_.same h (ao.refl _ _) trivial⟩
 ·have F:X.pure.alive i=x.alive:=by grind[ay.alive,b3.pure]
  rw[F];refine⟨_,rfl,eF (λZ=>?_) (λab=>?_)⟩
  ·have C:X.pure.die i=(false,X.pure):=by grind[ay.die,b3.pure]
   rw[C];exact⟨rfl,d_.same h (ao.refl _ _) trivial⟩
  refine aB (tr h r) ?_;rintro v Y ⟨rfl,rfl⟩;have C:X.pure.die i=(true,{X.pure with bZ:=X.pure.bZ++(x.pure.az.map ct.pair).filter (λp=>decide (0<p.a1.length)),aF:=X.pure.aF.set i {x.pure with alive:=false,az:=[],batch:=none,waiting:=0} }):=by
   grind[ay.die,b3.pure]
  rw[C];refine⟨_,rfl,_,_,_,h.iq (k:=2) r rfl,?_⟩;refine OF h N M r ?_;intro u W ad os a6 aC;rw[Wm];have O:os=X.bZ++iF x.az:=by
   have:=a6.eq
   grind[List.drop_length,iF]
  subst O;have g:av u X.aY (gE X.aF).flatten im:=a6.aA.aj h.cls (by rw[h.fI];simp);refine⟨⟨_,lW (k:=0) g r rfl⟩,g.frozen,?_⟩;intro P D;obtain⟨a,n⟩:=nl (k:=0) (c':={x with alive:=false}) g r (by omega) (v:=.bool false) (by simp[b3.cells]);have l:P=u.setCell ⟨X.aY,0+i*7+0,none⟩ (.bool false):=D;rw[<-l]at a;have H:ao (λz=>z=X.aY) u P:=by rw[l];exact e4 _ _ _ _
  clear D l;refine⟨⟨_,lW (k:=2) a n rfl⟩,a.frozen,?_⟩;intro S t;obtain⟨b,o⟩:=nl (k:=2) (c':={x with alive:=false,az:=[],la:=none,lc:=0}) a n (by omega) (v:=.slice none 0 0) (by simp[b3.cells]);rw[<-t]at b;have I:ao (λz=>z=X.aY) P S:=by rw[t];exact e4 _ _ _ _
  clear t;refine⟨⟨_,lW (k:=3) b o rfl⟩,b.frozen,?_⟩;intro T y;obtain⟨d,q⟩:=nl (k:=3) (c':={x with alive:=false,az:=[],la:=none,lc:=0,fS:=none,raw:=[],batch:=[]}) b o (by omega) (v:=.slice none 0 0) (by simp[b3.cells]);rw[<-y]at d;have J:ao (λz=>z=X.aY) S T:=by rw[y];exact e4 _ _ _ _
  clear y;refine⟨⟨_,lW (k:=4) d q rfl⟩,d.frozen,?_⟩;intro Q B;obtain⟨f,R⟩:=nl (k:=4) (c':={x with alive:=false,az:=[],la:=none,lc:=0,fS:=none,raw:=[],batch:=[],waiting:=0}) d q (by omega) (v:=.int .i64 0) (by simp[b3.cells]);rw[<-B]at f;have K:ao (λz=>z=X.aY) T Q:=by rw[B];exact e4 _ _ _ _
  clear B;rw[k4,k4,k4]at f;have j:ao (λz=>z=X.aY) u Q:=((H.trans I λ_ _ h=>h).trans J λ_ _ h=>h).trans K λ_ _ h=>h
  have s:ao (λz=>aw z=.cw\/aw z=.gH\/aw z=.aF) Y Q:=(a6.aA.mono λz _ aq=>aq.elim .inl λe=>.inr (.inl e)).trans j λz _ e=>.inr (.inr (by rw[e];exact h.fI))
  have L:∀ z,aP W z->z≠X.aY:=λz aq e=>by
   rcases a6.tag z aq with E | E
   ·rw[e,h.fI]at E;cases E
   ·have:=h.cls.lt;omega
  have G:aM≠X.aY:=λe=>by have:=h.ha;rw[e,h.fI]at this;grind
  obtain⟨A',χ',aT,V⟩:=h.die (c':={x with alive:=false,az:=[],la:=none,lc:=0,fS:=none,raw:=[],batch:=[],waiting:=0}) r s (j.aj a6.cw G) (a6.own.aA j L) a6.tag ⟨rfl,rfl,rfl,rfl,rfl,rfl⟩ f;refine⟨rfl,A',χ',_,aT,V,?_,trivial⟩;simp only[bs.pure,kY,mM,OE];rfl
end
section
theorem tU (h:aP none k):False:=by obtain⟨o,a⟩:=h;cases a
def tE (i:Nat)(inc:Int)(j:Nat):ct:=⟨⟨i,inc,j,[],0,[]⟩,[]⟩
def hU (n i:Nat)(inc:Int):List ct:=(List.range n).map (tE i inc)
def jm (pb i:Nat)(inc:Int)(j:Nat):c4:=⟨pb,⟨i,inc,j,[],[],none,0,0,[],none,0⟩,[],none,0⟩
theorem MK (pb i:Nat)(inc:Int)(j:Nat):(jm pb i inc j).pure=tE i inc j:=rfl
def ay.connect (F:ay)(i:Nat)(C:a9)(inc:Int):ay:=F.eo i {C with alive:=true,inc:=inc,az:=hU F.nodes.length i inc}
theorem Lm (a b:List c4):(hy (a++b)).flatten=(hy a).flatten++(hy b).flatten:=by simp[hy]
open Classical in
theorem cj.To {aw:bR}{X:bs}(h:cj A aw w aM X){pb:Nat}{c:b3}(r:X.aF[i]?=some c){la:ak}{lc:Nat}
  (s:ao (λk=>aw k=.az i\/aw k=.aF) w w') (H:w.heap.size<=pb) (F:∀ k,aP la k->aw k=.az i\/w.heap.size<=k) (G:¬ aP la pb)
  (n:∀ M:a4,M pb->dN M w' pb (jm pb i inc c.az.length).p) (g:aX w' lL 2 la (c.az++[jm pb i inc c.az.length]).length lc (hy (c.az++[jm pb i inc c.az.length])).flatten)
  (q:av w' X.aY (gE (X.aF.set i {c with az:=c.az++[jm pb i inc c.az.length],la:=la,lc:=lc})).flatten im) :
  ∃ A' χ',Next A A' aw χ' w w'/\cj A' χ' w' aM {X with aF:=X.aF.set i {c with az:=c.az++[jm pb i inc c.az.length],la:=la,lc:=lc} }:=by
 let χ':bR:=λk=>if k=pb then .lane i c.az.length else if aP la k then .az i else aw k
 have t1:χ' pb=.lane i c.az.length:=bh rfl;have t2:∀ k,aP la k->χ' k=.az i:=λk s=>by
  grind
 have t3:∀ k,k≠pb->¬ aP la k->χ' k=aw k:=λk K L=>by
  grind
 have B:∀ k,k<w.heap.size->χ' k=aw k:=by
  grind
 have C:∀ k,k<w.heap.size->χ' k≠.cO->aw k≠.cO:=λk f r=>by grind
 obtain⟨m,_⟩:=h.move (T:=λt=>t=.az i\/t=.aF) (χ':=χ') s (by simp) C (λk f _ _=>B k f);have d:=h.aL i c r;have y:=n (gV A aw χ' w) (.inl (by grind));have J:∀ k,χ' k≠.cO->k<w'.heap.size:=λk r=>by
  by_cases u:k=pb
  ·rw[u];exact y.aj.lt
  ·by_cases q:aP la k
   ·exact g.lt q
   ·rw[t3 k u q]at r;exact fE (h.kj r) s.size
 have I:ln (gV A aw χ' w) χ' w' i {c with az:=c.az++[jm pb i inc c.az.length],la:=la,lc:=lc}:=by
  refine⟨g,t2,λj l E=>?_,d.none,λb q=>av.c5 m (d.batch b q).1 (d.batch b q).2 (by simp) (by simp),d.ds.aA m.tn m.old⟩;have a:(c.az++[jm pb i inc c.az.length])[j]?=some l:=E;rw[sg]at a;split at a
  ·exact(d.lane j l a).c5 m (by simp) (by simp)
  ·rename_i O;rw[List.getElem?_singleton]at a;split at a
   ·rename_i D;have z:j=c.az.length:=by omega
    simp only[hM]at a;subst a;subst z;refine⟨y,?_,aX.nil _ _ _,λk ⟨o,x⟩=>by cases x⟩;rintro k (s | ⟨o,x⟩ | ⟨o,x⟩)
    ·rw[s];exact t1
    ·cases x
    ·cases x
   grind
 obtain⟨aT,N⟩:=h.r0 (χ':=χ') r (s.mono λk _ e=>e.elim (λe=>.inr (by rw[e];rfl)) .inl) C (λk f _ _=>B k f) J (by grind[tD]) (by rw[B _ h.cls.lt];exact h.fI) I
 grind
theorem cj.setRow {aw:bR}{X:bs}(h:cj A aw w aM X){c c':b3}(a:X.aF[i]?=some c)(f:ao (λk=>aw k=.aF) w w')(n:av w' X.aY (gE (X.aF.set i c')).flatten im)
  (b:∀ A' w',ln A' aw w' i c->ln A' aw w' i c'):∃ A',Next A A' aw aw w w'/\cj A' aw w' aM {X with aF:=X.aF.set i c'}:=by
 obtain⟨m,_⟩:=h.move (χ':=aw) (T:=λt=>t=.aF) f (by simp) (λ_ _ h=>h) (λ_ _ _ _=>rfl);have d:=(h.aL i c a).c5 m (λt g e=>by rw[e]at g;exact g);obtain⟨j,l⟩:=h.r0 (χ':=aw) (c':=c') a (f.mono λk _ e=>.inl e) (λ_ _ h=>h) (λ_ _ _ _=>rfl) (λk a=>fE (h.kj a) f.size) (by grind[tD]) h.fI (b _ _ d)
 grind
theorem MV {aw:bR}{X:bs}(h:cj A aw w aM X)(cF:X.nodes.length<=5){c:b3}(bj:X.aF[i]?=some c)(cd:X.aF.length<=6)(ad:0<=inc/\inc<=59) :
  a5 53 [ptr aM,.int .i64 i,.int .i64 inc] w λv w'=>v=.tuple #[]/\d_ A aw w aM (X.pure.connect i c.pure inc) w' λ_=>True:=by
 refine ba Tryz.func53 ?_;rw[ptr,W1];have cn:=cS bj;refine⟨_,_,_,h.cw.cell (i:=2) rfl,dW (by omega) (by omega) ?_⟩;rw[hD];refine⟨⟨_,h.iq (k:=0) bj rfl⟩,h.cls.frozen,?_⟩;intro w1 aR;obtain⟨a,E⟩:=nl (k:=0) (c':={c with alive:=true}) h.cls bj (by omega) (v:=.bool true) (by simp[b3.cells]);have y:w1=w.setCell ⟨X.aY,0+i*7+0,none⟩ (.bool true):=aR;rw[<-y]at a;have bm:ao (λz=>z=X.aY) w w1:=by rw[y];exact e4 _ _ _ _
 clear aR y;refine⟨⟨_,lW (k:=1) a E rfl⟩,a.frozen,?_⟩;intro b2 Q;obtain⟨b,F⟩:=nl (k:=1) (c':={c with alive:=true,inc:=inc}) a E (by omega) (v:=.int .i64 inc) (by simp[b3.cells]);rw[<-Q]at b;have bq:ao (λz=>z=X.aY) w1 b2:=by rw[Q];exact e4 _ _ _ _
 clear Q;refine⟨⟨_,lW (k:=2) b F rfl⟩,b.frozen,?_⟩;intro b5 R;obtain⟨d,bP⟩:=nl (k:=2) (c':={c with alive:=true,inc:=inc,az:=[],la:=none,lc:=0}) b F (by omega) (v:=.slice none 0 0) (by simp[b3.cells]);rw[<-R]at d;have br:ao (λz=>z=X.aY) b2 b5:=by rw[R];exact e4 _ _ _ _
 clear R;rw[k4,k4]at d;have ae:ao (λz=>aw z=.aF) w b5:=((bm.trans bq λ_ _ h=>h).trans br λ_ _ h=>h).mono λz _ e=>by rw[e];exact h.fI
 obtain ⟨b8,bM,U⟩:=h.setRow (c':={ c with alive:=true,inc:=inc,az:=[],la:=none,lc:=0 }) bj ae d (λA' w' H=>⟨aX.nil _ _ _,(λk bV=>(tU bV).elim),(λj l cB=>by grind),H.none,H.batch,H.ds⟩);refine ⟨_,_,_,U.cw.cell (i:=1) rfl,?_⟩;show cz _ _ (vt i inc ⟨X.aY,0+i * 7,none⟩ X.nodes.length 0 _) _ _;refine cZ mix (λm env u=>∃ (k:Nat) (aC:ax) (A':a4) (χ':bR) (ls:List c4) (la:ak) (lc:Nat),k<=X.nodes.length/\m=X.nodes.length - k/\env=vt i inc ⟨X.aY,0+i * 7,none⟩ X.nodes.length k aC/\
   Next A A' aw χ' w u/\cj A' χ' u aM {X with aF:=X.aF.set i {c with alive:=true,inc:=inc,az:=ls,la:=la,lc:=lc} }/\ls.length=k/\ls.map c4.pure=hU k i inc) X.nodes.length
  ⟨0,_,b8,aw,[],none,0,by omega,by omega,rfl,bM,U,rfl,rfl⟩ ?_
 rintro m env u ⟨k,aC,A',χ',ls,la,lc,bV,rfl,rfl,aT,S,ah,cr⟩;rw[Ur];refine bb (λbz=>?_) (λbz=>?_)
 ·have cp:k<X.nodes.length:=by omega
  have g:(X.aF.set i {c with alive:=true,inc:=inc,az:=ls,la:=la,lc:=lc})[i]?=some {c with alive:=true,inc:=inc,az:=ls,la:=la,lc:=lc}:=by grind
  refine aB (Rx (w:=u) (c:=i) (i:=inc) (n:=k) (by omega) ad (by omega)) ?_;rintro v b7 ⟨rfl,O,aG,ct⟩;have V:=S.new aG;refine⟨_,_,rfl,_,_,_,V.iq (k:=2) g rfl,?_⟩;rintro b_ a0 bk aV;obtain⟨bH,K⟩:=bo bk aV;have cu:a0.heap.size=b7.heap.size+1:=by simp_all
  clear aV;have I:=V.new K;have r:=I.aL i _ g;obtain⟨cy,bD,bK,D,cb⟩:=fV (T:=105) (z:=.agg #[.pointer none,.slice none 0 0]) (n:=2) (m:=32) (by kernel_rfl);have L:aX a0 lL cy.size la ls.length lc (hy ls).flatten:=by rw[D];exact r.own
  obtain⟨ap,dD,a8,aQ,x,ag,Y⟩:=L.append (P:=prog) (t:=99) (ty:=99) Tryz.underlying99 bD bK (by rw[D];rfl) (by omega)
   (s:=some ⟨b_,0,none⟩) (m:=1) (c:=1) (news:=(jm u.heap.size i inc k).cells) (by rw[D];rfl) (fj bH (by simp[c4.cells,jm])) (by simp[c4.cells,single]) (by omega) (by grind)
  rw[D]at x;have G:ao (λz=>χ' z=.az i) a0 a8:=ag.mono λz _ aq=>r.tag z aq
  have f:av a8 X.aY (gE (X.aF.set i {c with alive:=true,inc:=inc,az:=ls,la:=la,lc:=lc})).flatten im:=G.aj I.cls (by have:=I.fI;grind);refine⟨ap,_,dD,a8,aQ,⟨_,lW (k:=2) f g rfl⟩,f.frozen,?_⟩;intro a' aZ;obtain⟨q,bT⟩:=nl (k:=2) (c':={c with alive:=true,inc:=inc,az:=ls++[jm u.heap.size i inc ls.length],la:=ap,lc:=dD}) f g (by omega) (v:=.slice ap (ls.length+1) dD) (by simp[b3.cells]);have B:a'=a8.setCell ⟨X.aY,0+i*7+2,none⟩ (.slice ap (ls.length+1) dD):=aZ;rw[<-B]at q;have J:ao (λz=>z=X.aY) a8 a':=by rw[B];exact e4 _ _ _ _
  clear aZ B;have aH:ai u a0:=aG.new K;have bl:χ' X.aY=.aF:=S.fI;have af:ao (λz=>χ' z=.az i\/χ' z=.aF) u a':=((ao.cm aH).trans G λz _ e=>.inl e).trans J λz _ e=>.inr (by grind)
  have bX:∀ z,aP la z->z<u.heap.size:=λz aq=>(S.aL i _ g).own.lt aq
  have ab:∀ z,aP ap z->χ' z=.az i\/a0.heap.size<=z:=by
   intro z aq;rcases Y with e | e
   ·exact .inl (r.tag z (e▸aq))
   ·obtain⟨o,aO⟩:=aq
    grind
  have bO:X.aY<u.heap.size:=S.cls.lt;have Z:¬ aP ap u.heap.size:=λbh=>by
   rcases Y with e | e
   ·grind
   ·obtain⟨o,aO⟩:=bh
    grind
  have C:∀ M:a4,M u.heap.size->dN M a' u.heap.size (jm u.heap.size i inc ls.length).p:=by
   intro M ca;have bA:dN (λk=>M k\/aP la k\/k=X.aY) b7 u.heap.size (jm u.heap.size i inc ls.length).p:=by have:=O (λk=>M k\/aP la k\/k=X.aY) (.inl ca);rw[ah];exact this
   have b0:∀ z,(jm u.heap.size i inc ls.length).p.mut u.heap.size z->z=u.heap.size:=by
    rintro z (aq | ⟨o,aO⟩ | ⟨o,aO⟩)
    ·exact aq
    ·cases aO
    ·cases aO
   have bC:=((bA.new K).aA ag (λz aq bh=>by grind) (λz bh=>.inr (.inl bh))).aA J (λz aq e=>by grind) (λz e=>.inr (.inr e));exact bC.nB (λz _ aq=>.inl aq) (λz aq=>by grind)
  have N:aX a' lL 2 ap (ls++[jm u.heap.size i inc ls.length]).length dD (hy (ls++[jm u.heap.size i inc ls.length])).flatten:=by
   rw[Lm,fF];have e:(hy [jm u.heap.size i inc ls.length]).flatten=(jm u.heap.size i inc k).cells:=by rw[ah];rfl
   rw[e];refine x.aA J λz aq e=>?_
   grind
  rw[k4]at q;obtain⟨b9,cA,bN,W⟩:=S.To (pb:=u.heap.size) (inc:=inc) (la:=ap) (lc:=dD) g af (db _) (λz aq=>(ab z aq).imp id λe=>by grind) Z C N (by simp_all);rw[k4]at W;rw[show IntKind.i64.wrap ((k:Int)+1)=((k+1:Nat):Int) by rw[bI (by omega) (by omega)];rfl];refine⟨X.nodes.length-(k+1),by omega,k+1,_,b9,cA,ls++[jm u.heap.size i inc ls.length],ap,dD,by omega,rfl,rfl,aT.trans bN,W,by grind,?_⟩
  grind[hU,List.range_succ,MK]
 ·have bx:k=X.nodes.length:=by omega
  subst bx;refine⟨rfl,A',χ',_,aT,S,?_,trivial⟩
  grind[bs.yU,ay.connect,b3.pure,bs.pure]
open Classical in
theorem cj.addNode {aw:bR}{X:bs}(h:cj A aw w aM X){y:g4}{na:ak}{nc:Nat}
  (g:ao (λk=>aw k=.nodes\/aw k=.cw) w w') (i:dX w' y.b y.aK y.n) (F:w.heap.size<=y.b) (G:w.heap.size<=y.aK) (K:∀ k,aP na k->aw k=.nodes\/w.heap.size<=k) (B:¬ aP na y.b) (C:¬ aP na y.aK)
  (c:aX w' Bf 1 na (X.nodes++[y]).length nc ((X.nodes++[y]).map λx=>ptr x.b)) (M:av w' aM (X.cells.set 1 (.slice na (X.nodes++[y]).length nc)) lK) :
  ∃ A' χ',Next A A' aw χ' w w'/\cj A' χ' w' aM {X with nodes:=X.nodes++[y],na:=na,nc:=nc}:=by
 have H:=i.ne;let χ':bR:=λk=>if k=y.b then .node X.nodes.length else if k=y.aK then .word X.nodes.length else if aP na k then .nodes else aw k
 have t1:χ' y.b=.node X.nodes.length:=bh rfl;have o:χ' y.aK=.word X.nodes.length:=by
  grind
 have t2:∀ k,aP na k->χ' k=.nodes:=λk g=>by
  grind
 have t3:∀ k,k≠y.b->k≠y.aK->¬ aP na k->χ' k=aw k:=λk j s L=>by
  grind
 have D:∀ k,k<w.heap.size->χ' k=aw k:=by
  grind
 have I:∀ k,k<w.heap.size->χ' k≠.cO->aw k≠.cO:=λk f d=>by grind
 obtain⟨m,aT⟩:=h.move (T:=λt=>t=.nodes\/t=.cw) (χ':=χ') g (by simp) I (λk f _ _=>D k f);have f3:=aX.c5 m h.gH h.kI (by simp) (by simp);have f4:=av.c5 m h.cls h.fI (by simp) (by simp);refine⟨_,χ',aT,m.m7,λk d=>?_,?_,?_,c,t2,λq z aq=>?_,f4.1,f4.2,λq z aq=>(h.aL q z aq).c5 m λt j s=>?_,f3.1,f3.2,λx E=>dN.c5 m (h.ew x E).1 (h.ew x E).2 (by simp) (by simp),h.nodup⟩
 ·rcases d with d | d
  ·by_cases p:k=y.b
   ·rw[p];exact i.node.lt
   ·by_cases r:k=y.aK
    ·rw[r];exact i.words.lt
    ·by_cases u:aP na k
     ·exact c.lt u
     ·rw[t3 k p r u]at d;exact fE (h.kj d) g.size
  ·exact fE d.1 g.size
 ·grind[bs.cells]
 ·rw[D _ h.cw.lt];exact h.ha
 ·have a:(X.nodes++[y])[q]?=some z:=aq;rw[sg]at a;split at a
  ·exact(h.node q z a).c5 m (by simp) (by simp)
  ·rename_i N;rw[List.getElem?_singleton]at a;split at a
   ·rename_i J;have l:q=X.nodes.length:=by omega
    simp only[hM]at a;subst a;subst l;exact⟨i,t1,o⟩
   grind
 ·rcases s with e | e<;>(rw[e]at j;cases j)
def mN:b3:=⟨false,0,[],none,0,none,[],[],0,0,0⟩
def tV (lines:Nat):aD:=⟨List.replicate (8*lines) 0,false⟩
def hd (n i:Nat):a9:=⟨true,1,hU n i 1,none,0,0,0⟩
def ay.init (n c lines:Nat):ay:=⟨lines,List.replicate n (tV lines),(List.range c).map (hd n),[]⟩
theorem MW (n:Nat):ko n [.bool false,.int .i64 0,.slice none 0 0,.slice none 0 0,.int .i64 0,.int .i64 0,.int .i64 0]=(gE (List.replicate n mN)).flatten:=by
 induction n with
 |zero=>rfl
 |succ n a=>rw[ux,gE,iI,lD,<-gE,<-a];rfl
theorem OG (a:k<c):((List.range k).map (hd n)++List.replicate (c-k) mN.pure).set k (hd n k)=(List.range (k+1)).map (hd n)++List.replicate (c-(k+1)) mN.pure:=by obtain⟨d,rfl⟩:∃ d,c=k+1+d:=⟨c-(k+1),by omega⟩;rw[show k+1+d-k=d+1 by omega,show k+1+d-(k+1)=d by omega,ux,List.set_append_right _ _ (by simp)];simp[qP]
open Classical in
theorem RC {lines:Nat}(c3:1<=n/\n<=5)(b2:1<=c/\c<=6)(cy:1<=lines/\lines<=256):a5 46 [.int .i64 n,.int .i64 c,.int .i64 lines] w λv w'=>
  ∃ aM A aw X,v=.tuple #[ptr aM,.int .i64 0]/\cj A aw w' aM X/\ai w w'/\(∀ k,A k->w.heap.size<=k)/\X.pure=ay.init n c lines:=by
 refine ba Tryz.func46 ?_;rw[La];refine bb (λh=>by omega) (λ_=>bb (λh=>by omega) (λ_=>bb (λh=>by omega) (λ_=>bb (λh=>by omega) (λ_=>bb (λh=>by omega) (λ_=>bb (λh=>by omega) (λ_=>?_))))))
 refine⟨by omega,by omega,by omega,by omega,?_⟩;rintro aY w1 bm V;rw[hD,MW]at V;obtain⟨bk,bH⟩:=bo bm V;have cG:w1.heap.size=w.heap.size+1:=by simp_all
 clear V;rintro aM aR bz aO;obtain⟨cr,ah⟩:=bo bz aO;have cI:aR.heap.size=w1.heap.size+1:=by simp_all
 clear aO;let aV:bs:=⟨lines,[],none,0,aY,List.replicate c mN,[],none,0⟩;let q:bR:=λk=>if k=aM then .cw else if k=aY then .aF else .cO
 have t1:q aM=.cw:=bh rfl;have t2:q aY=.aF:=by
  grind
 have t3:∀ k,q k≠.cO->k=aM\/k=aY:=by
  grind
 have Z:cj (λk=>q k≠.cO) q aR aM aV:=by
  refine⟨λ_ h=>h,λk M=>?_,?_,t1,aX.nil _ _ _,(λk M=>(tU M).elim),(λi x b8=>by grind),?_,t2,λi x b8=>?_,aX.nil _ _ _,(λk M=>(tU M).elim),(λp c4=>by grind),by grind⟩
  ·grind
  ·grind[bs.cells]
  ·have:=ai.aj ah bk
   grind
  ·have C:(List.replicate c mN)[i]?=some x:=b8;rw[List.getElem?_replicate]at C;split at C
   ·simp only[hM]at C;subst C;exact⟨aX.nil _ _ _,(λk M=>(tU M).elim),(λj l cy=>by grind[mN]),λ_=>⟨rfl,rfl⟩,(λb b0=>by grind[mN]),⟨rfl,λ_ _ _ b2=>by grind[mN]⟩⟩
   grind
 refine cZ mix (λm env u=>∃ (k:Nat) (aC:ax) (A':a4) (χ':bR) (ns:List g4) (na:ak) (nc:Nat),k<=n/\m=n - k/\env=yA lines ⟨aM,0,none⟩ n k aC/\
   Next (λk=>q k≠.cO) A' q χ' aR u/\cj A' χ' u aM {aV with nodes:=ns,na:=na,nc:=nc}/\ns.length=k/\ns.map g4.n=List.replicate k (tV lines)) n
  ⟨0,_,_,q,[],none,0,by omega,by omega,rfl,Z.refl (ao.refl _ _),Z,rfl,rfl⟩ ?_
 rintro m env u ⟨k,aC,A',χ',ns,na,nc,M,rfl,rfl,aT,E,cz,bD⟩;rw[XZ];refine bb (λd=>?_) (λd=>?_)
 ·refine aB (Ow (w:=u) (lines:=lines) (by omega) (by omega)) ?_;rintro v cS ⟨rfl,f,av,cP⟩;rw[hD]at f;have ad:=E.new av;refine⟨_,_,rfl,d8 (λh=>cp rfl h) (λ_=>⟨_,_,_,ad.cw.cell (i:=1) rfl,?_⟩)⟩;rintro cd Y bl aQ;obtain⟨bO,O⟩:=bo bl aQ;have cQ:Y.heap.size=cS.heap.size+1:=by simp_all
  clear aQ;have r:=ad.new O;obtain⟨cR,bN,bP,U,ct⟩:=fV (T:=92) (z:=.pointer none) (n:=1) (m:=8) (by kernel_rfl);have R:aX Y Bf cR.size na ns.length nc (ns.map λx=>ptr x.b):=by rw[U];exact r.nodes
  obtain⟨ap,dD,a0,aH,g,ag,ae⟩:=R.append (P:=prog) (t:=107) (ty:=107) Tryz.underlying107 bN bP (by rw[U];rfl) (by omega)
   (s:=some ⟨cd,0,none⟩) (m:=1) (c:=1) (news:=[ptr (u.heap.size+1)]) (by grind) (fj bO (by simp[ptr])) (by simp[ptr,single]) (by omega) (by grind)
  rw[U]at g;have Q:∀ z,aP na z->χ' z=.nodes:=r.kl;have I:ao (λz=>χ' z=.nodes) Y a0:=ag.mono λz _ aq=>Q z aq
  have a:=I.aj r.cw (by rw[r.ha];simp);refine⟨ap,_,dD,a0,aH,⟨_,a.cell (i:=1) rfl⟩,a.frozen,?_⟩;intro a8 W;have N:ao (λz=>z=aM) a0 a8:=by rw[W];exact e4 _ _ _ _
  have L:=a.setCell (i:=1) (.slice ap (ns.length+1) dD);have J:a8=a0.setCell ⟨aM,1,none⟩ (.slice ap (ns.length+1) dD):=W;rw[<-J]at L;clear W J;have aG:ai u Y:=av.new O;have af:ao (λz=>χ' z=.nodes\/χ' z=.cw) u a8:=((ao.cm aG).trans I λz _ e=>.inl e).trans N λz _ e=>.inr (by rw[e];exact E.ha)
  have b7:∀ z,aP na z->z<u.heap.size:=λz aq=>E.nodes.lt aq
  have b5:aM<u.heap.size:=E.cw.lt;have H:∀ z,aP ap z->χ' z=.nodes\/Y.heap.size<=z:=by
   intro z aq;rcases ae with e | e
   ·grind
   ·obtain⟨o,cA⟩:=aq
    grind
  have G:∀ z,u.heap.size<=z->z<Y.heap.size->¬ aP ap z:=by
   intro z cW cY aq;rcases ae with e | e
   ·grind
   ·obtain⟨o,cA⟩:=aq
    grind
  have B:dX a8 (u.heap.size+1) u.heap.size ⟨List.replicate (8*lines) 0,false⟩:=((f.new O).aA ag (λb0=>by grind) (λb0=>by grind)).aA N (by omega) (by omega);obtain⟨ca,cV,bV,bj⟩:=E.addNode (y:=⟨u.heap.size+1,u.heap.size,tV lines⟩) (na:=ap) (nc:=dD) af B (by grind) (db _) (λz aq=>(H z aq).imp id λe=>by omega) (G _ (by grind) (by grind)) (G _ (db _) (by grind))
   (by
    have:=g.aA N (λz aq e=>by
     rcases H z aq with cn | cn
     ·have cu:χ' aM=.cw:=E.ha
      grind
     ·omega)
    grind) (by grind)
  rw[show IntKind.i64.wrap ((k:Int)+1)=((k+1:Nat):Int) by rw[bI (by omega) (by omega)];rfl];refine⟨n-(k+1),by omega,k+1,_,ca,cV,ns++[⟨u.heap.size+1,u.heap.size,tV lines⟩],ap,dD,by omega,rfl,rfl,aT.trans bV,bj,by grind,?_⟩
  grind[List.replicate_succ']
 ·have bC:k=n:=by omega
  subst bC;rw[YT];refine⟨_,_,_,E.cw.cell (i:=2) rfl,?_⟩;have bq:({aV with nodes:=ns,na:=na,nc:=nc}:bs).aF.length=c:=by grind
  rw [bq];refine cZ mix (λm env z=>∃ (i:Nat) (aC:ax) (A':a4) (χ':bR) (bX:bs),i<=c/\m=c - i/\env=yB ⟨aM,0,none⟩ c i aC/\
    Next (λk=>q k≠.cO) A' q χ' aR z/\cj A' χ' z aM bX/\bX.pure=⟨lines,List.replicate k (tV lines),(List.range i).map (hd k)++List.replicate (c-i) mN.pure,[]⟩) c
   ⟨0,_,_,χ',_,by omega,by omega,rfl,aT,E,by simp[bs.pure,aV,bD]⟩ ?_
  rintro m env z ⟨i,aC,b9,cT,K,c2,rfl,rfl,D,ab,S⟩;rw[X0];refine bb (λd=>?_) (λd=>?_)
  ·have bM:K.aF.map b3.pure=(List.range i).map (hd k)++List.replicate (c - i) mN.pure:=ey ay.aF S;have cF:K.nodes.length=k:=by
    have:=ey (λF=>F.nodes.length) S
    grind[bs.pure]
   have cB:K.aF.length=c:=by
    have:=ey List.length bM
    grind
   obtain⟨aZ,bx⟩:∃ aZ,K.aF[i]?=some aZ:=⟨K.aF[i],by grind⟩;have br:aZ.pure=mN.pure:=by
    have:(K.aF.map b3.pure)[i]?=some aZ.pure:=by grind
    grind
   refine aB (MV ab (by omega) bx (by omega) (inc:=1) (by omega)) ?_;rintro v Y ⟨rfl,b_,cU,cb,bT,a',bK,_⟩;refine⟨rfl,?_⟩;rw[show IntKind.i64.wrap ((i:Int)+1)=((i+1:Nat):Int) by rw[bI (by omega) (by omega)];rfl];refine⟨c-(i+1),by omega,i+1,_,b_,cU,cb,by omega,rfl,rfl,D.trans bT,a',?_⟩;rw[bK,br,S];simp only[ay.connect,ay.eo,hD,Ke];rw[<-OG (by omega)];rfl
  ·have bA:i=c:=by omega
   subst bA;rw[YU];refine⟨aM,b9,cT,K,rfl,ab,?_,λz aq=>?_,?_⟩
   ·refine(bH.new ah).trans D.aA λz aq b2=>?_
    grind
   ·rcases(D.iff z).1 aq with aq | aq
    ·by_cases d:z<aR.heap.size
     ·rcases t3 z (D.grow z d aq)with e | e<;>omega
     ·omega
    grind
   grind[ay.init]
end
end Go.Proofs.YtmkljjbioomepaaGreat
