import Derived.Test.YtmkljjbioomepaaGreate12
set_option linter.all false
set_option maxHeartbeats 4000000
set_option maxRecDepth 100000
namespace Go.Proofs.YtmkljjbioomepaaGreat
open Go.Proofs.Tryz Go.bn
variable {A:a2} {aM i:Nat} {w w':al}
section
abbrev ym:TypeId:=89
def fw.cells (x:fw):aw:=[.int .i64 x.ea,.int .i64 x.aP,.int .i64 x.node]
def fw.val (x:fw):a0:=.agg x.cells.toArray
theorem KD (C:bf) (j:Nat) (l:cH) (p:cF) (a:Option aC) (b:j<C.ay.length) :
  ({ C with ay:=C.ay.set j ⟨p,l.bt⟩ }:bf).sP j p l.bt a=C.comes j l p a:=by
 cases a with
 |none=>rfl
 |some x=>simp [bf.sP,bf.comes]
theorem FK:∀ {l:d9} {x:Nat},x ∈ l->x<=l.sum
 |y::l,x,h=>by
  rw [m2];rcases dy.1 h with rfl | h
  ·omega
  ·have:=FK h;omega
theorem bX.zq {ar:Nat->Tag} {X:bl} (h:bX A ar w aM X) (b:ai w w'):bX (λk=>A k\/(w.heap.size<=k/\k<w'.heap.size)) ar w' aM X:=by
 have m:kU (λ_=>False) A (λk=>A k\/(w.heap.size<=k/\k<w'.heap.size)) ar ar w w':=⟨b,id,h.eO,λk e a=>a.elim id (λa=>by omega),λ_ _ _ _=>rfl,λk a=>.inl (h.eO k a)⟩;have g:=b.size;refine ⟨m.lI,λk a=>a.elim (λa=>by have:=h.low k a;omega) (λa=>a.2),ai.ak b h.b9,h.gm,h.nodes.new b,h.jq,λi x f=>(h.node i x f).cM m id id,ai.ak b h.cls,h.eW,
  λi c a=>(h.aP i c a).cM m λ_ _=>id,h.fD.new b,h.jK,λp d=>⟨(dx.cM m (h.ea p d).1 (h.ea p d).2 id (by simp)).1,(h.ea p d).2⟩,h.nodup⟩
theorem BZ {ar:Nat->Tag} {X:bl} (h:bX A ar w aM X) (Vc:nb X.pure) (x:fw):ba 37 [ptr aM,x.val] w λv w'=>
  v=.bool (X.pure.step x).1/\dD A ar w aM (X.pure.step x).2 w' λ_=>True:=by
 refine bc Tryz.func37 ?_;refine Eq.mpr (Sq aM x.ea x.aP x.node w _) ?_;rintro b1 w1 Vw Vf;obtain ⟨H,E⟩:=bk Vw Vf;clear Vf;have Ul:=h.new E;have H:av w1 b1 x.cells ym:=H;refine ⟨_,H.cell (i:=0) rfl,a9 (λV5=>?_) (λV5=>?_)⟩
 ·obtain ⟨i,VX⟩:∃ i:Nat,x.ea=i:=⟨x.ea.toNat,by omega⟩;have UQ:X.pure.step x=X.pure.jb i:=by unfold aB.step;rw [if_pos (by omega),VX];rfl
  refine ⟨_,H.cell (i:=0) rfl,?_⟩;rw [VX];refine aD (GK Ul Vc i) ?_;rintro v Wf ⟨rfl,Wc⟩;refine ⟨_,rfl,?_⟩;rw [UQ];exact ⟨rfl,dD.trans (h.refl E) Wc⟩
 refine ⟨_,H.cell (i:=0) rfl,a9 (λVn=>?_) (λVn=>?_)⟩
 ·have UQ:X.pure.step x=(false,X.pure):=by unfold aB.step;rw [if_neg (by omega),if_pos Vn]
  rw [UQ];exact ⟨rfl,dD.same h E trivial⟩
 have a:X.pure.step x=match X.pure.cC x.aP with
  |none=>(false,X.pure)
  |some C=>if x.node<0 then (false,X.pure) else match C.ay[x.node.toNat]?,X.pure.nodes[x.node.toNat]? with
   |some l,some n=>if l.pair.a6.length=0 then (false,X.pure) else
    (true,{ X.pure with nodes:=X.pure.nodes.set x.node.toNat (l.pair.step n).2.1,aU:=X.pure.aU.set x.aP.toNat (C.comes x.node.toNat l (l.pair.step n).1 (l.pair.step n).2.2) })
   | _,_=>(false,X.pure):=by
  unfold aB.step;rw [if_neg (by omega),if_neg Vn];rfl
 refine ⟨_,H.cell (i:=1) rfl,?_⟩;rcases X.qN x.aP with ⟨b8,Vl⟩ | ⟨i,c,cg,s,Vl⟩
 ·refine aD (s4 Ul Vl) ?_;rintro v V1 ⟨rfl,rfl⟩;rw [b8] at a;refine ⟨_,rfl,?_⟩;intro VR Uq;refine ⟨λ_=>True,trivial,?_⟩
  rw [a];exact ⟨rfl,dD.same h (E.new (by rw [Uq];exact cL _)) trivial⟩
 have VO:=cz s;rw [cg];refine aD (qZ Ul s) ?_;rintro v V1 ⟨rfl,rfl⟩;rw [Vl] at a;refine ⟨_,rfl,?_⟩;intro VR Uq;have K:ai V1 VR:=by rw [Uq];exact cL _
 clear Uq;have J:=Ul.new K;have Um:=ai.ak K H;refine ⟨λu=>ai VR u,ao.refl _ _,?_⟩;refine ⟨_,λu hu=>(ai.ak hu Um).cell (i:=2) rfl,a9 (λVo=>?_) (λVo=>?_)⟩
 ·simp only [if_pos Vo] at a;rw [a];exact ⟨rfl,dD.same h (E.new K) trivial⟩
 simp only [if_neg Vo] at a;obtain ⟨j,VG⟩:∃ j:Nat,x.node=j:=⟨x.node.toNat,by omega⟩;have VH:x.node.toNat=j:=by omega
 rw [VH] at a;have Uo:=Vc.aP i c.pure (by simp [bl.pure,s]);refine ⟨_,λu hu=>(ai.ak hu Um).cell (i:=2) rfl,?_⟩;refine ⟨_,_,_,λu hu=>(J.new hu).hO (k:=2) s rfl,a9 (λVp=>?_) (λVp=>?_)⟩
 ·have e:c.pure.ay[j]?=none:=kX (by
   have:c.pure.ay.length=c.ay.length:=by simp [bU.pure]
   have Vq:x.node>=(c.ay.length:Int):=Vp;omega)
  simp only [e] at a;rw [a];exact ⟨rfl,dD.same h (E.new K) trivial⟩
 have Vq:¬ x.node>=(c.ay.length:Int):=Vp;have UL:j<c.ay.length:=by omega
 obtain ⟨l,UM⟩:∃ l,c.ay[j]?=some l:=⟨c.ay[j],by simp [UL]⟩;have U7:j<X.nodes.length:=by
  have V7:=Uo.ay;have VT:c.pure.ay.length=c.ay.length:=by simp [bU.pure]
  have VU:X.pure.nodes.length=X.nodes.length:=by simp [bl.pure]
  split at V7<;>omega
 obtain ⟨y,UT⟩:∃ y,X.nodes[j]?=some y:=⟨X.nodes[j],by simp [U7]⟩;have UK:c.pure.ay[j]?=some l.pure:=by simp [bU.pure,UM]
 have Vm:X.pure.nodes[j]?=some y.n:=by simp [bl.pure,UT]
 simp only [UK,Vm] at a;have UN:=Uo.lane j l.pure UK;refine ⟨_,_,_,λu hu=>(J.new hu).hO (k:=2) s rfl,_,λu hu=>(ai.ak hu Um).cell (i:=2) rfl,?_⟩;obtain ⟨g,U,Wb,⟨V4,V'⟩,Wa,U6⟩:=aY.row (J.aP i c s).own (mG c.ay) (by omega) (lP UM);have VF:ar g=.ay i:=(J.aP i c s).tag g ⟨0,U⟩;show bB c.la c.ay.length x.node 2 _;rw [U,VG];refine dT (by omega) (by omega) ?_;rw [fT];refine ⟨some ⟨l.pb,0,none⟩,λu hu=>jj hu (U6 0 _ rfl) id,?_⟩;refine aD (wk ((J.aP i c s).lane j l UM).pair) ?_;rintro v V2 ⟨rfl,rfl⟩;refine ⟨_,rfl,ao.refl _ _,dJ (λV8=>?_) (λV8=>?_)⟩
 ·have:l.pure.pair.a6.length=0:=by show l.p.a6.length=0;omega
  rw [if_pos this] at a;rw [a];exact ⟨rfl,dD.same h (E.new K) trivial⟩
 have UB:¬ l.pure.pair.a6.length=0:=by show ¬ l.p.a6.length=0;omega
 rw [if_neg UB] at a;intro VS Vg;have UO:ai V2 VS:=by rw [Vg];exact cL _
 clear Vg;have UY:=J.new UO;have U2:=ai.ak UO Um;refine ⟨λu=>ai VS u,ao.refl _ _,_,_,_,λu hu=>(UY.new hu).hO (k:=2) s rfl,_,λu hu=>(ai.ak hu U2).cell (i:=2) rfl,?_⟩;show bB c.la c.ay.length x.node 2 _;rw [U,VG];refine dT (by omega) (by omega) ?_;rw [fT];intro N Vh;have UP:ai VS N:=by rw [Vh];exact cL _
 clear Vh;have t:=UY.new UP;have Vz:=ai.ak UP U2;have UA:ai V2 N:=UO.new UP;have U':ai w N:=(E.new K).new UA;have U1:ar b1=.ck:=h.fresh (by omega);have U4:=t.aP i c s;have Uz:=U4.lane j l UM;have VZ:=t.node j y UT;refine ⟨λu=>ao (λk=>hD i j j (ar k)) N u,ao.refl _ _,some ⟨l.pb,0,none⟩,λu hu=>jj hu (jj UA (U6 0 _ rfl) id) (by show ¬ hD i j j (ar g);rw [VF];simp [hD]),?_⟩;refine ⟨_,_,_,λu hu=>(hu.ak t.b9 (by rw [t.gm];simp [hD])).cell (i:=1) rfl,_,λu hu=>(hu.ak Vz (by rw [U1];simp [hD])).cell (i:=2) rfl,?_⟩;refine rI (v:=ptr y.b) (i:=j) t.nodes (by simp [UT]) VG λV3 Un U0=>⟨some ⟨y.b,0,none⟩,λu hu=>jj hu Un ?_,?_⟩
 ·obtain ⟨VV,VD,rfl⟩:=U0;show ¬ hD i j j (ar VV);rw [t.jq VV ⟨0,VD⟩];simp [hD]
 have Uk:c.waiting<=1024:=by have V9:=Uo.batch;have e:c.pure.waiting=c.waiting:=rfl;omega
 have B:l.bt.length=l.p.a6.length:=UN.bt;have Vd:∀ V0:Option aC,V0.isSome=true->∃ c9 UU cn,l.bt=UU::cn/\UU<c.raw.length/\c.c9=some c9/\0<c.waiting:=by
  intro V0 _;cases Ve:l.bt with
  |nil=>rw [Ve] at B;exact absurd B.symm (by show ¬ l.p.a6.length=0;omega)
  |cons UU cn=>
   have W:=UN.low UU (by show UU ∈ l.bt;rw [Ve];simp);have VA:=h.aP i c s;cases U3:c.c9 with
   |none=>simp [bU.pure,U3] at W
   |some c9=>
    simp [bU.pure,U3] at W;refine ⟨c9,UU,cn,rfl,by rw [VA.ds.1];exact W,rfl,?_⟩;have V9:=Uo.waiting;have e:c.pure.waiting=c.waiting:=rfl;have Wd:l.p.a6.length<=f0 c.pure.ay:=by unfold f0;exact FK (cD.2 ⟨l.pure,cj UK,rfl⟩)
    have V6:l.p.a6.length≠0:=UB;omega
 have Ui:∀ (Ur:a2) q r UJ (Vb:bX Ur ar q aM X),wD Ur l.pb y.b y.aK l.p y.n q r UJ->∃ G F d p',r=.tuple #[d.val,.bool (l.p.pure.step y.n).2.2.isSome]/\Next Ur G ar F q UJ/\
   bX G F UJ aM { X with nodes:=X.nodes.set j { y with n:=(l.p.pure.step y.n).2.1 },aU:=X.aU.set i { c with ay:=c.ay.set j { l with p:=p' } } }/\p'.pure=(l.p.pure.step y.n).1/\
   ao (λk=>hD i j j (ar k)) q UJ/\(∀ x,(l.p.pure.step y.n).2.2=some x->kK G UJ d x):=by
  intro Ur q r UJ f UZ;have Y:=(f.aP i c s).lane j l UM;have L:=f.node j y UT;obtain ⟨χ',d,p',rfl,I,Up,U8,VE,VL,VI,VM,Vu,VB⟩:=Af Y.pair Y.tag (by simp) (λk s=>f.jl s) f.eO L.ju UZ;obtain ⟨aZ,Vs⟩:=f.Ff s UM UT U8 VE VL VI Up Vu VM;exact ⟨_,_,d,p',rfl,aZ,Vs,I,U8,VB⟩
 have T:∀ (Ur:a2) q,bX Ur ar q aM X->ba 70 [.pointer (some ⟨l.pb,0,none⟩),.pointer (some ⟨y.b,0,none⟩)] q (wD Ur l.pb y.b y.aK l.p y.n q):=by intro Ur q f;have Y:=(f.aP i c s).lane j l UM;have L:=f.node j y UT;exact BW Y.pair L.node (f.eO _ (by rw [L.ju];simp)) (f.eO _ (by rw [L.tag];simp)) (λV_=>by have:=Y.tag _ (.inr (.inr V_));rw [L.ju] at this;cases this) UN.h'
 have Uw:∀ D az G F d p' q,ai N q->Next A G ar F q D->bX G F D aM { X with nodes:=X.nodes.set j { y with n:=(l.p.pure.step y.n).2.1 },aU:=X.aU.set i { c with ay:=c.ay.set j { l with p:=p' } } }->p'.pure=(l.p.pure.step y.n).1->
   av D az (bF.cells d) ij->(∀ x,(l.p.pure.step y.n).2.2=some x->kK G D d x)->∀ w' A' χ' Vk,Next G A' F χ' D w'->bX A' χ' w' aM Vk->
   Vk.pure=(bl.pure { X with nodes:=X.nodes.set j { y with n:=(l.p.pure.step y.n).2.1 },aU:=X.aU.set i { c with ay:=c.ay.set j { l with p:=p' } } }).fS i ((bU.pure { c with ay:=c.ay.set j { l with p:=p' } }).sP j p'.pure l.bt (l.p.pure.step y.n).2.2)->
   (Value.bool true=.bool (X.pure.step x).1/\dD A ar w aM (X.pure.step x).2 w' λ_=>True):=by
  intro D az G F d p' q Vb aZ We I VW aA w' A' χ' Vk VQ Vr Vv;rw [a];refine ⟨rfl,A',χ',Vk,((h.refl (U'.new Vb)).trans aZ).trans VQ,Vr,?_,trivial⟩;rw [Vv,bl.Sm,cg];have VT:(bU.pure { c with ay:=c.ay.set j { l with p:=p' } })={ c.pure with ay:=c.pure.ay.set j ⟨p'.pure,l.pure.bt⟩ }:=by simp [bU.pure,iD,cV.pure]
  have VU:l.bt=l.pure.bt:=rfl;rw [VT,VU,KD _ _ _ _ _ (by simpa [bU.pure] using UL),I];simp [aB.fS];exact ⟨rfl,rfl⟩
 have Ut:∀ p':da,(X.aU.set i { c with ay:=c.ay.set j { l with p:=p' } })[i]?=some { c with ay:=c.ay.set j { l with p:=p' } }:=λp'=>by simp [VO]
 have U_:∀ p':da,(c.ay.set j { l with p:=p' })[j]?=some { l with p:=p' }:=λp'=>by simp [UL]
 refine ⟨?_,?_⟩
 ·refine aD (T A N t) ?_;intro r UJ UZ;obtain ⟨G,F,d,p',rfl,aZ,Vt,I,U9,VC⟩:=Ui A N r UJ t UZ;refine ⟨_,_,_,_,_,rfl,U9,?_⟩;rintro az Wg Vx Vi;obtain ⟨Vj,Va⟩:=bk Vx Vi;refine ⟨U9.new Va,fI (vs:=d.cells) Vj (by simp [bF.cells]) (bF.single d),?_⟩;intro D UD;obtain ⟨UF,Z⟩:=nK (vs:=d.cells) Vj (by simp [bF.cells]) Va (by omega) UD;clear Vi UD;have Us:=Vt.new Z;have Uu:∀ x,(l.p.pure.step y.n).2.2=some x->kK G D d x:=λx VN=>(VC x VN).ax (ao.bZ Z) λ_ _ h=>h
  exact Ag (R:=λv w'=>v=.bool (X.pure.step x).1/\dD A ar w aM (X.pure.step x).2 w' λ_=>True) Us (Ut p') (U_ p') U UF (l.p.pure.step y.n).2.2 Uu (Vd _) (by show l.bt.length<=1024;rw [B];exact Uz.pair.len) Uk
   (Uw D az G F d p' N (ao.refl _ _) (aZ.new Z) Us I UF Uu)
 ·rintro O UR Vy UE;obtain ⟨UG,z⟩:=bk Vy UE;clear UE;refine ⟨ao.bZ z,?_⟩;refine aD (T _ UR (t.zq z)) ?_;intro r US UZ;obtain ⟨G,F,d,p',rfl,aZ,UW,I,Uy,U5⟩:=Ui _ UR r US (t.zq z) UZ;have Q:ar O=.ck:=t.fresh (by omega);have UH:=Uy.ak UG (by rw [Q];simp [hD]);refine ⟨_,_,_,_,_,rfl,(ao.bZ z).trans Uy (λk _ h=>h),fI (vs:=d.cells) UH (by simp [bF.cells]) (bF.single d),?_⟩;intro M Uj;have UI:av M O d.cells ij:=by have hw:M=cl US ⟨O,0,none⟩ 0 d.cells:=Uj;rw [hw];have:=UH.cl (o:=0) (i:=0) (vs:=d.cells);rw [oy (by simp [bF.cells])] at this;exact this
  have V:ao (λk=>k=O) US M:=by rw [Uj];exact ht _ _ _ _ _
  clear Uj;have S:O<UR.heap.size:=UG.lt;have VY:=z.size;have UV:G O:=(aZ.iff O).2 (.inr ⟨S,.inr ⟨by omega,S⟩,Q⟩);have VP:F O=.ck:=by
   by_cases s:F O=.ck
   ·exact s
   ·exact absurd Q (aZ.grow O S s)
  have UX:=UW.other V (λk Ux=>by rw [Ux];exact ⟨UV,VP⟩);have UC:∀ k,fQ A ar F N k->G k:=by
   intro k Ux;refine (aZ.iff k).2 ?_;rcases Ux with Ux | Ux
   ·exact .inl Ux
   ·exact .inr ⟨by omega,.inl Ux.2.1,Ux.2.2⟩
  have P:=UX.l4 UC (λk s=>.inl s);have VK:Next A (fQ A ar F N) ar F N M:=by refine ⟨((ao.bZ z).trans aZ.ax λ_ _ h=>h).trans V λk VJ e=>by omega,λk VJ s=>aZ.grow k (by omega) s,λ_=>Iff.rfl⟩
  have Uv:∀ x,(l.p.pure.step y.n).2.2=some x->kK (fQ A ar F N) M d x:=λx VN=>(U5 x VN).ax (V.mono λk _ e=>by rw [e];exact UV) λk _ s=>UC k s
  exact Ag (R:=λv w'=>v=.bool (X.pure.step x).1/\dD A ar w aM (X.pure.step x).2 w' λ_=>True) P (Ut p') (U_ p') U UI (l.p.pure.step y.n).2.2 Uv (Vd _) (by show l.bt.length<=1024;rw [B];exact Uz.pair.len) Uk
   (Uw M O _ F d p' N (ao.refl _ _) VK P I UI Uv)
end
section
theorem By {α:Type} {l:List α} {k:Nat} {x:α} (h:l[k]?=some x):l.drop k=x::l.drop (k+1):=by obtain ⟨a,b⟩:=kY.1 h;rw [qa a,b]
def nT (l:List fw):List aw:=l.map fw.cells
theorem Gb (l:List fw):∀ r ∈ nT l,r.length=3:=by intro r a;simp only [nT,cD] at a;obtain ⟨l,_,rfl⟩:=a;rfl
theorem Gc {l:List fw} {x:fw} (h:l[i]?=some x):(nT l)[i]?=some x.cells:=by simp [nT,h]
structure ku (w u:al) (a:an) (cap:Nat) (out:List fw):Prop where
 new:ai w u
 own:aY u ym 3 a out.length cap (nT out).flatten
 fresh:∀ k,aL a k->w.heap.size<=k
theorem ku.step {u bo:al} {a:an} {cap:Nat} {out:List fw} (h:ku w u a cap out) (b:ai u bo):ku w bo a cap out:=⟨h.new.new b,h.own.new b,h.fresh⟩
theorem ku.append {w u bH:al} {a:an} {cap b:Nat} {out:List fw} (h:ku w u a cap out) (x:fw) (E:b=u.heap.size) (hw:bH=u.alloc (.cells x.cells.toArray 89)) (K:out.length<=1000000000) :
  ∃ A g bY,(Builtin.append_ #[85,85] 85 #[.slice a out.length cap,.slice (some ⟨b,0,none⟩) 1 1]).run prog bH=.ok (.slice A (out++[x]).length g) bY/\ku w bY A g (out++[x]):=by
 obtain ⟨au,C⟩:=bk E hw;have B:=h.step C;obtain ⟨I,G,y,f,q⟩:=fp (T:=89) (z:=.agg #[.int .i64 0,.int .i64 0,.int .i64 0]) (n:=3) (m:=24) (by kernel_rfl);have i:aY bH ym I.size a out.length cap (nT out).flatten:=by rw [f];exact B.own
 obtain ⟨ap,de,J,j,d,r,p⟩:=i.append (P:=prog) (t:=85) (ty:=85) Tryz.underlying85 G y (by rw [f];rfl) (by omega)
  (s:=some ⟨b,0,none⟩) (m:=1) (c:=1) (news:=x.cells) (by rw [f];rfl) (e9 au (by simp [fw.cells])) (by simp [fw.cells,single]) (by omega) (by rw [q];omega)
 rw [f] at d;have F:(nT (out++[x])).flatten=(nT out).flatten++x.cells:=by simp [nT]
 refine ⟨ap,de,J,by simpa using j,B.new.trans r λk H l=>?_,?_,λk l=>?_⟩
 ·have:=h.fresh k l;omega
 ·rw [F];simpa using d
 ·rcases p with e | e
  ·exact h.fresh k (e▸l)
  ·obtain ⟨o,D⟩:=l;rw [e] at D;simp at D;have:=h.new.size;have:=C.size;omega
theorem ku.nil (w:al):ku w w none 0 []:=⟨ao.refl _ _,aY.nil _ _ _,λk ⟨o,a⟩=>by cases a⟩
theorem E' (i:Nat):∀ (j:Nat) (ls:List cH),(kA i j ls).length<=ls.length
 | _,[]=>by simp [kA]
 |j,l::ls=>by have:=E' i (j+1) ls;simp only [kA,c8,fU];split<;>simp<;>omega
theorem y0 {n:Nat}:∀ (i:Nat) (cs:List bf),(∀ c ∈ cs,c.ay.length<=n)->(ji i cs).length<=cs.length * n
 | _,[],_=>by simp [ji]
 |i,c::cs,h=>by
  have b:=y0 (i+1) cs λc a=>h c (e2 _ a)
  have d:=E' i 0 c.ay;have e:=h c (d_ ..);simp only [ji,c8,fU,p8,Nat.one_mul];omega
theorem y1:∀ (i:Nat) (cn:List cF),(lO i cn).length=cn.length
 | _,[]=>rfl
 |i,p::cn=>by simp [lO,y1 (i+1) cn]
theorem IJ {ar:Nat->Tag} {X:bl} (h:bX A ar w aM X) (I:nb X.pure) (UU:X.bP.length<=100000000):ba 36 [ptr aM] w λv w'=>
  ∃ a cap,v=.slice a X.pure.eV.length cap/\ku w w' a cap X.pure.eV:=by
 refine bc Tryz.func36 ?_;rw [ptr,Q9];have S:∀ c ∈ X.pure.aU,c.ay.length<=5:=by intro c x;obtain ⟨i,UN⟩:=gh.1 x;have US:=(I.aP i c UN).ay;have UY:=I.nodes;split at US<;>omega
 have Ur:X.pure.aU.length=X.aU.length:=by simp [bl.pure]
 have UM:=y0 0 X.pure.aU S;have UL:=I.aU;have Ui:∀ (i:Nat) (c:bU),X.aU[i]?=some c->X.pure.aU[i]?=some c.pure:=λi c x=>by simp [bl.pure,x]
 refine ⟨_,_,_,h.b9.cell rfl,?_⟩;refine c1 mix (λm env u=>∃ (i:Nat) (Un:aw) (a:an) (cap:Nat) (out:List fw),i<=X.aU.length/\m=X.aU.length - i/\env=vl ⟨aM,0,none⟩ a out.length cap (some ⟨X.aT,0,none⟩) X.aU.length X.aU.length X.aU.length i Un/\
   ku w u a cap out/\out++ji i (X.pure.aU.drop i)=ji 0 X.pure.aU) X.aU.length ⟨0,_,none,0,[],by omega,by omega,rfl,ku.nil w,rfl⟩ ?_
 rintro m env u ⟨i,Un,a,cap,out,UN,rfl,rfl,B,o⟩;rw [PG];refine a9 (λUC=>?_) (λUC=>?_)
 ·have Uu:i<X.aU.length:=by omega
  obtain ⟨c,x⟩:∃ c,X.aU[i]?=some c:=⟨X.aU[i],by simp [Uu]⟩;have Uo:=h.new B.new;refine dT (by omega) (by omega) ?_;rw [fT];have y:b7 u ⟨X.aT,0+i * 7,none⟩ 0 c.cells:=kD λk v aj=>by have:=Uo.hO x aj;simpa using this
  refine ⟨_,_,_,_,_,_,_,_,_,_,_,y,?_⟩;rintro b1 w1 Up Uj;obtain ⟨au,V⟩:=bk Up Uj;refine ⟨fI (vs:=c.cells) au (by simp [bU.cells]) (by simp [bU.cells,single]),?_⟩;intro U2 Uk;obtain ⟨UI,UE⟩:=nK (vs:=c.cells) au (by simp [bU.cells]) V (by omega) Uk;clear Uj Uk au V;refine ⟨_,_,_,UI.cell (i:=2) rfl,?_⟩;have H:X.pure.aU.drop i=c.pure::X.pure.aU.drop (i+1):=by rw [wm (by omega)];congr 1;have:=Ui i c x;rw [bM (by omega)] at this;simpa using this
  rw [H] at o;have UH:c.pure.ay.length=c.ay.length:=by simp [bU.pure]
  have UT:=S c.pure (cj (Ui i c x));refine c1 mix (λm env z=>∃ (j:Nat) (UO:aw) (N:an) (n:Nat) (d:List fw),j<=c.ay.length/\m=c.ay.length - j/\env=sM ⟨aM,0,none⟩ N d.length n i (some ⟨X.aT,0,none⟩) X.aU.length X.aU.length X.aU.length i c.la c.ay.length c.lc c.ay.length j UO/\
   ku w z N n d/\d++kA i j (c.pure.ay.drop j)++ji (i+1) (X.pure.aU.drop (i+1))=ji 0 X.pure.aU) c.ay.length ⟨0,_,a,cap,out,by omega,by omega,rfl,B.step UE,by rw [<-o];simp [ji]⟩ ?_
  rintro m env z ⟨j,UO,N,n,d,UZ,rfl,rfl,q,e⟩;rw [PH];have P:=h.new q.new;have UA:d.length<=30:=by have:=congrArg List.length e;simp only [c8] at this;omega
  refine a9 (λT=>?_) (λT=>?_)
  ·have Uw:j<c.ay.length:=by omega
   obtain ⟨l,Uz⟩:∃ l,c.ay[j]?=some l:=⟨c.ay[j],by simp [Uw]⟩;obtain ⟨g,R,_,_,Us,_⟩:=aY.row (P.aP i c x).own (mG c.ay) (by omega) (lP Uz);rw [R];refine dT (by omega) (by omega) ?_;rw [fT];refine ⟨_,_,_,_,Us,?_⟩;rintro UX U3 Uq Ul;obtain ⟨M,W⟩:=bk Uq Ul;refine ⟨fI (vs:=l.cells) M (by simp [cV.cells]) (by simp [cV.cells,single]),?_⟩;intro U4 Um;obtain ⟨UJ,Y⟩:=nK (vs:=l.cells) M (by simp [cV.cells]) W (by omega) Um;clear Ul Um M W;refine ⟨_,UJ.cell (i:=0) rfl,?_⟩;have UD:=((P.new Y).aP i c x).lane j l Uz;refine aD (wk UD.pair) ?_;rintro v UW ⟨rfl,rfl⟩;have G:c.pure.ay.drop j=l.pure::c.pure.ay.drop (j+1):=by
    rw [wm (by omega)];congr 1;have:c.pure.ay[j]?=some l.pure:=by simp [bU.pure,Uz]
    rw [bM (by omega)] at this;simpa using this
   rw [G] at e;have C:=q.step Y;rw [<-R];refine ⟨_,rfl,a9 (λUV=>?_) (λUV=>?_)⟩
   ·have K:0<l.pure.pair.a6.length:=by show 0<l.p.a6.length;omega
    rintro UR UP E L;obtain ⟨ap,de,UK,t,s⟩:=C.append ⟨-1,i,j⟩ E L (by omega);refine ⟨ap,_,de,UK,t,?_⟩;rw [show IntKind.i64.wrap ((j:Int)+1)=((j+1:Nat):Int) by rw [bA (by omega) (by omega)];rfl];refine ⟨c.ay.length - (j+1),by omega,j+1,_,ap,de,d++[⟨-1,i,j⟩],by omega,rfl,rfl,s,?_⟩;rw [<-e];simp [kA,K]
   ·have K:¬ 0<l.pure.pair.a6.length:=by show ¬ 0<l.p.a6.length;omega
    rw [show IntKind.i64.wrap ((j:Int)+1)=((j+1:Nat):Int) by rw [bA (by omega) (by omega)];rfl];refine ⟨c.ay.length - (j+1),by omega,j+1,_,N,n,d,by omega,rfl,rfl,C,?_⟩;rw [<-e];simp [kA,K]
  ·have Uv:j=c.ay.length:=by omega
   rw [PU];rw [show IntKind.i64.wrap ((i:Int)+1)=((i+1:Nat):Int) by rw [bA (by omega) (by omega)];rfl];refine ⟨X.aU.length - (i+1),by omega,i+1,_,N,n,d,by omega,rfl,rfl,q,?_⟩;rw [<-e,Uv,<-UH,qb];simp [kA]
 ·have Ut:i=X.aU.length:=by omega
  rw [Ut,<-Ur,qb] at o;have J:out=ji 0 X.pure.aU:=by simpa [ji] using o
  rw [PT];have Uo:=h.new B.new;refine ⟨_,_,_,Uo.b9.cell (i:=3) rfl,?_⟩;have UG:X.pure.bP.length=X.bP.length:=by simp [bl.pure]
  refine c1 mix (λm env z=>∃ (i:Nat) (Un:aw) (a:an) (cap:Nat) (out:List fw),i<=X.bP.length/\m=X.bP.length - i/\env=vm a out.length cap X.dg X.bP.length X.gq X.bP.length i Un/\
   ku w z a cap out/\out++lO i (X.pure.bP.drop i)=X.pure.eV) X.bP.length ⟨0,_,a,cap,out,by omega,by omega,rfl,B,by rw [J];rfl⟩ ?_
  rintro m env z ⟨k,U1,UQ,O,D,U0,rfl,rfl,r,f⟩;rw [Pg];have Q:=h.new r.new;have UB:D.length<=100000030:=by have:=congrArg List.length f;simp only [c8,aB.eV,y1] at this;omega
  refine a9 (λU=>?_) (λU=>?_)
  ·have Uy:k<X.bP.length:=by omega
   obtain ⟨b,p,UF⟩:∃ b p,X.bP[k]?=some (b,p):=⟨X.bP[k].1,X.bP[k].2,by simp [Uy]⟩;have Z:=(Q.ea _ (cj UF)).1;refine rI (v:=ptr b) (i:=k) Q.fD (by simp [UF]) rfl λbu F _=>⟨some ⟨b,0,none⟩,F,?_⟩
   refine aD (IB Z) ?_;rintro v UW ⟨rfl,rfl⟩;refine ⟨_,rfl,?_⟩;refine aD (BV Z) ?_;rintro v UP ⟨rfl,rfl⟩;refine ⟨_,rfl,?_⟩;rintro UR UP E L;obtain ⟨ap,de,UK,t,s⟩:=r.append ⟨k,p.aP,p.node⟩ E L (by omega);refine ⟨ap,_,de,UK,t,?_⟩;rw [show IntKind.i64.wrap ((k:Int)+1)=((k+1:Nat):Int) by rw [bA (by omega) (by omega)];rfl];refine ⟨X.bP.length - (k+1),by omega,k+1,_,ap,de,_,by omega,rfl,rfl,s,?_⟩;have G:X.pure.bP.drop k=p.pure::X.pure.bP.drop (k+1):=By (by simp [bl.pure,UF]);rw [<-f,G];rw [lO,jW];rfl
  ·have Ux:k=X.bP.length:=by omega
   rw [Ux,<-UG,qb] at f;have:D=X.pure.eV:=by simpa [lO] using f
   subst this;rw [PV];exact ⟨UQ,O,rfl,r⟩
end
section
def hI (ls:List cV):List (Nat×da):=(ls.filter λl=>decide (0<l.p.a6.length)).map λl=>(l.pb,l.p)
theorem Bz (l:cV) (ls:List cV):hI (l::ls)=if 0<l.p.a6.length then (l.pb,l.p)::hI ls else hI ls:=by
 unfold hI;rw [List.filter_cons];by_cases h:0<l.p.a6.length
 ·simp [h]
 ·simp [h]
theorem KE (ls:List cV):(hI ls).map (λp=>p.2.pure)=((ls.map cV.pure).map cH.pair).filter λp=>decide (0<p.a6.length):=by
 induction ls with
 |nil=>rfl
 |cons l ls a=>
  rw [Bz,g',g',List.filter_cons];have:l.pure.pair.a6=l.p.a6:=rfl;rw [this,<-a];by_cases h:0<l.p.a6.length
  ·simp [h];rfl
  ·simp [h]
theorem B0 {ls:List cV} {x:Nat×da} (h:x ∈ hI ls):∃ (j:Nat) (l:cV),ls[j]?=some l/\x=(l.pb,l.p)/\0<l.p.a6.length:=by simp only [hI,cD,List.mem_filter,decide_eq_true_eq] at h;obtain ⟨l,⟨a,b⟩,c⟩:=h;obtain ⟨j,d⟩:=gh.1 a;exact ⟨j,l,d,c.symm,b⟩
def oV (i:Nat) (ls:List cV):Tag->Tag
 | .lane c n=>if c=i then (match ls[n]? with
  |some l=>if 0<l.p.a6.length then .hC l.pb else .lane c n
  |none=>.lane c n) else .lane c n
 |t=>t
theorem GL {ls:List cV} {t:Tag} (h:∀ n,t≠.lane i n):oV i ls t=t:=by
 cases t with
 |lane c n=>simp only [oV];rw [if_neg];rintro rfl;exact h n rfl
 | _=>rfl
theorem Gd {ls:List cV} {t:Tag} (h:oV i ls t≠.ck):t≠.ck:=by rintro rfl;exact h rfl
theorem Ik {n:Nat} {ls:List cV} {l:cV} (a:ls[n]?=some l) (b:0<l.p.a6.length):oV i ls (.lane i n)=.hC l.pb:=by simp [oV,a,b]
structure A7 (A:a2) (ar:Nat->Tag) (w:al) (aM:Nat) (X:bl) (c:bU) (k:Nat) (u:al) (dg:an) (gq:Nat) (os:List (Nat×da)):Prop where
 ax:ao (λz=>ar z=.b9\/ar z=.fD) w u
 b9:av u aM (X.cells.set 3 (.slice dg os.length gq)) k4
 own:aY u nu 1 dg os.length gq (os.map λp=>ptr p.1)
 tag:∀ z,aL dg z->ar z=.fD\/w.heap.size<=z
 eq:os++hI (c.ay.drop k)=X.bP++hI c.ay
theorem KF {ar:Nat->Tag} {X:bl} (h:bX A ar w aM X) (Z:nb X.pure) (UW:X.bP.length<=100000000) {c:bU} (UH:X.aU[i]?=some c)
  {j:aw} {R:cp} (US:∀ u dg gq os,A7 A ar w aM X c c.ay.length u dg gq os->∀ Up,W prog (sub (bh f22) [1,1,1,1]) (yP (some ⟨X.aT,0+i * 7,none⟩) Up) (dh prog f22 R) u) :
  cx prog (.loop (sub (bh f22) [1,1,1,0,1,0,0])) (qP ⟨aM,0,none⟩ (some ⟨X.aT,0+i * 7,none⟩) c.la c.ay.length c.lc c.ay.length 0 j)
   (aW 0 (a1 (λenv w=>W prog (sub (bh f22) [1,1,1,1]) env (dh prog f22 R) w) (dh prog f22 R))) w:=by
 have Uw:=Z.aP i c.pure (by simp [bl.pure,UH]);have UV:=Z.nodes;have UU:c.ay.length<=5:=by
  have UR:=Uw.ay;have:c.pure.ay.length=c.ay.length:=by simp [bU.pure]
  split at UR<;>omega
 have UC:∀ ls:List cV,(hI ls).length<=ls.length:=λls=>by simp [hI];exact z1 _ _
 have UK:=UC c.ay;refine c1 mix (λm env u=>∃ (k:Nat) (Up:aw) (dg:an) (gq:Nat) (os:List (Nat×da)),k<=c.ay.length/\m=c.ay.length - k/\env=qP ⟨aM,0,none⟩ (some ⟨X.aT,0+i * 7,none⟩) c.la c.ay.length c.lc c.ay.length k Up/\A7 A ar w aM X c k u dg gq os) c.ay.length
  ⟨0,_,X.dg,X.gq,X.bP,by omega,by omega,rfl,ao.refl _ _,h.b9,h.fD,λz au=>.inl (h.jK z au),rfl⟩ ?_
 rintro m env u ⟨k,Up,dg,gq,os,U0,rfl,rfl,a5⟩;rw [Qr];have UJ:os.length<=100000005:=by have:=congrArg List.length a5.eq;simp only [c8] at this;omega
 refine a9 (λU=>?_) (λU=>?_)
 ·have Uz:k<c.ay.length:=by omega
  obtain ⟨l,UA⟩:∃ l,c.ay[k]?=some l:=⟨c.ay[k],by simp [Uz]⟩;have F:=h.aP i c UH;have Ui:aY u k5 2 c.la c.ay.length c.lc (gE c.ay).flatten:=F.own.ax a5.ax λz au=>by rw [F.tag z au];simp
  obtain ⟨g,Q,_,_,Uy,_⟩:=aY.row Ui (mG c.ay) (by omega) (lP UA);have V:=F.lane k l UA;rw [Q];refine dT (by omega) (by omega) ?_;rw [fT];refine ⟨_,_,_,_,Uy,?_⟩;rintro UP U1 Ut Uk;obtain ⟨M,Y⟩:=bk Ut Uk;refine ⟨fI (vs:=l.cells) M (by simp [cV.cells]) (by simp [cV.cells,single]),?_⟩;intro UL Ul;obtain ⟨Uo,x⟩:=nK (vs:=l.cells) M (by simp [cV.cells]) Y (by omega) Ul;clear Uk Ul M Y;refine ⟨_,Uo.cell (i:=0) rfl,?_⟩;have D:ao (λz=>ar z=.b9\/ar z=.fD) w UL:=a5.ax.new x;have UB:dx A UL l.pb l.p:=V.pair.ax D (λz au=>by rw [V.tag z au];simp) (λz au=>h.eO z (by rcases au with e | e<;>rw [e]<;>simp));refine aD (wk UB) ?_;rintro v UZ ⟨rfl,rfl⟩;have Ux:=By UA;have heq:=a5.eq;rw [Ux,Bz] at heq;rw [<-Q];have b:=ai.ak x a5.b9;have q:=a5.own.new x;refine ⟨_,rfl,a9 (λUX=>?_) (λUX=>?_)⟩
  ·have K:0<l.p.a6.length:=by omega
   rw [if_pos K] at heq;intro UM Um;have y:ai UZ UM:=by rw [Um];exact cL _
   clear Um;have d:=ai.ak y b;have UD:=ai.ak y Uo;have I:=q.new y;have O:¬ aL dg aM:=λUs=>by
    rcases a5.tag aM Us with e | e
    ·rw [h.gm] at e;cases e
    ·have:=h.b9.lt;omega
   have N:¬ aL dg UP:=λUs=>by have:=a5.own.lt Us;omega
   refine ⟨λz=>ao (aL dg) UM z,ao.refl _ _,_,_,_,λz au=>(au.ak d O).cell (i:=3) rfl,_,λz au=>(au.ak UD N).cell (i:=0) rfl,?_⟩;rintro UQ UN Uu Un;obtain ⟨UE,f⟩:=bk Uu Un;clear Un;refine ⟨ao.bZ f,?_⟩;obtain ⟨UY,UT,UF,B,Uv⟩:=fp (T:=103) (z:=.pointer none) (n:=1) (m:=8) (by kernel_rfl);have J:aY UN nu UY.size dg os.length gq (os.map λp=>ptr p.1):=by rw [B];exact I.new f
   obtain ⟨ap,de,UG,Uj,r,H,Ur⟩:=J.append (P:=prog) (t:=106) (ty:=106) Tryz.underlying106 UT UF (by rw [B];rfl) (by omega)
    (s:=some ⟨UQ,0,none⟩) (m:=1) (c:=1) (news:=[ptr l.pb]) (by rw [B];rfl) (e9 UE (by simp [ptr])) (by simp [ptr,single]) (by omega) (by rw [Uv];omega)
   rw [B] at r;have a:av UG aM (X.cells.set 3 (.slice dg os.length gq)) k4:=H.ak (ai.ak f d) O;refine ⟨ap,_,de,UG,Uj,(ao.bZ f).trans H λ_ _ h=>h,⟨_,a.cell (i:=3) rfl⟩,a.frozen,?_⟩;intro UO L;have S:ao (λz=>z=aM) UG UO:=by rw [L];exact eA _ _ _ _
   have G:av UO aM (X.cells.set 3 (.slice ap (os.length+1) de)) k4:=by rw [L];have:=a.setCell (i:=3) (.slice ap (os.length+1) de);rw [mi] at this;exact this
   clear L;have E:ai u UN:=(x.new y).new f;have C:∀ z,aL ap z->ar z=.fD\/w.heap.size<=z:=by
    intro z au;rcases Ur with e | e
    ·exact a5.tag z (e▸au)
    ·obtain ⟨o,UI⟩:=au;rw [e] at UI;simp at UI;have:=a5.ax.size;have:=E.size;exact .inr (by omega)
   rw [show IntKind.i64.wrap ((k:Int)+1)=((k+1:Nat):Int) by rw [bA (by omega) (by omega)];rfl];refine ⟨c.ay.length - (k+1),by omega,k+1,_,ap,de,os++[(l.pb,l.p)],by omega,rfl,rfl,?_,?_,?_,C,?_⟩
   ·refine ((a5.ax.new E).trans H λz U au=>?_).trans S λz _ e=>.inl (by rw [e];exact h.gm)
    rcases a5.tag z au with e | e
    ·exact .inr e
    ·omega
   ·simpa using G
   ·have:=r.ax S (λz au e=>?_)
    ·simpa using this
    ·rcases C z au with Uq | Uq
     ·rw [e,h.gm] at Uq;cases Uq
     ·have:=h.b9.lt;omega
   ·rw [<-heq];simp
  ·have K:¬ 0<l.p.a6.length:=by omega
   rw [if_neg K] at heq;rw [show IntKind.i64.wrap ((k:Int)+1)=((k+1:Nat):Int) by rw [bA (by omega) (by omega)];rfl];exact ⟨c.ay.length - (k+1),by omega,k+1,_,dg,gq,os,by omega,rfl,rfl,D,b,q,a5.tag,heq⟩
 ·have:k=c.ay.length:=by omega
  subst this;exact US u dg gq os a5 _
theorem LV (ls:List cV):((hI ls).map Prod.fst).Sublist (ls.map cV.pb):=by
 have:(hI ls).map Prod.fst=(ls.filter λl=>decide (0<l.p.a6.length)).map cV.pb:=by simp [hI,Function.comp_def]
 rw [this];exact (List.filter_sublist).map _
def oS (i:Nat) (t:Tag):Prop:=t=.b9\/t=.fD\/t=.aU\/h4 i t
open Classical in
theorem bX.die {ar:Nat->Tag} {X:bl} (h:bX A ar w aM X) {c:bU} (g:X.aU[i]?=some c) {dg:an} {gq:Nat}
  (d:ao (λz=>ar z=.b9\/ar z=.fD\/ar z=.aU) w w') (K:av w' aM (X.cells.set 3 (.slice dg (X.bP++hI c.ay).length gq)) k4) (F:aY w' nu 1 dg (X.bP++hI c.ay).length gq ((X.bP++hI c.ay).map λp=>ptr p.1))
  (C:∀ z,aL dg z->ar z=.fD\/w.heap.size<=z) {c':bU} (N:c'.ay=[]/\c'.la=none/\c'.lc=0/\c'.c9=none/\c'.raw=[]/\c'.batch=[]) (f:av w' X.aT (fj (X.aU.set i c')).flatten jz) :
  ∃ A' χ',Next A A' ar χ' w w'/\bX A' χ' w' aM { X with aU:=X.aU.set i c',bP:=X.bP++hI c.ay,dg:=dg,gq:=gq }:=by
 let χ':Nat->Tag:=λk=>if aL dg k then .fD else oV i c.ay (ar k)
 have t1:∀ k,aL dg k->χ' k=.fD:=λk d=>if_pos d
 have t2:∀ k,¬ aL dg k->χ' k=oV i c.ay (ar k):=λk d=>if_neg d
 have Uk:∀ k,k<w.heap.size->χ' k≠.ck->ar k≠.ck:=by
  intro k E s;by_cases f:aL dg k
  ·rcases C k f with e | e
   ·rw [e];simp
   ·omega
  ·rw [t2 k f] at s;exact Gd s
 have Um:∀ k,k<w.heap.size->¬ oS i (ar k)->ar k≠.ck->χ' k=ar k:=by
  intro k E V _;by_cases f:aL dg k
  ·rcases C k f with e | e
   ·exact absurd (.inr (.inl e)) V
   ·omega
  ·rw [t2 k f];exact GL λn e=>V (.inr (.inr (.inr (by rw [e];rfl))))
 obtain ⟨m,aZ⟩:=h.move (T:=oS i) (χ':=χ') (w':=w') (d.mono λk _ g=>by rcases g with e | e | e<;>simp [oS,e]) (by simp [oS,h4]) Uk Um;have f2:=aY.cM m h.nodes h.jq (by simp [oS,h4]) (by simp);have s:=h.aP i c g;have B:∀ k,k<w.heap.size->ar k≠.fD->¬ aL dg k:=λk E P f=>by
  rcases C k f with e | e
  ·exact P e
  ·omega
 have H:∀ (j:Nat) (l:cV),c.ay[j]?=some l->ar l.pb=.lane i j:=λj l D=>(s.lane j l D).tag _ (.inl rfl)
 refine ⟨_,χ',aZ,m.lI,λk g=>?_,?_,?_,f2.1,f2.2,λq z au=>(h.node q z au).cM m (by simp [oS,h4]) (by simp [oS,h4]),f,?_,λq z au=>?_,F,t1,λx G=>?_,?_⟩
 ·rcases g with g | g
  ·by_cases f:aL dg k
   ·exact F.lt f
   ·rw [t2 k f] at g;exact fF (h.jl (Gd g)) d.size
  ·exact fF g.1 d.size
 ·simpa [bl.cells] using K
 ·rw [t2 aM (B aM h.b9.lt (by rw [h.gm];simp)),h.gm];rfl
 ·show χ' X.aT=_;rw [t2 _ (B _ h.cls.lt (by rw [h.eW];simp)),h.eW];rfl
 ·simp only [iC] at au;split at au
  ·rename_i he;subst he;split at au
   ·simp only [e7] at au;subst au;obtain ⟨Q,R,Y,Z,S,U⟩:=N;refine ⟨?_,λk d=>?_,λj l D=>?_,λ_=>⟨S,U⟩,λb J=>?_,?_⟩
    ·rw [Q,R,Y];exact aY.nil _ _ _
    ·rw [R] at d;obtain ⟨o,Ul⟩:=d;cases Ul
    ·rw [Q] at D;simp at D
    ·rw [Z] at J;cases J
    ·rw [S,U];exact ⟨rfl,λ_ _ _ g=>by simp at g⟩
   ·cases au
  ·rename_i he;refine (h.aP q z au).cM m λt r I=>?_
   rcases I with e | e | e | e
   ·rw [e] at r;cases r
   ·rw [e] at r;cases r
   ·rw [e] at r;cases r
   ·exact CL he t r (.inr e)
 ·rcases gH.1 G with G | G
  ·exact dx.cM m (h.ea x G).1 (h.ea x G).2 (by simp [oS,h4]) (by simp)
  ·obtain ⟨j,l,D,rfl,W⟩:=B0 G;have u:=s.lane j l D;have O:∀ k,l.p.mut l.pb k->k<w.heap.size:=λk d=>h.jl (by rw [u.tag k d];simp)
   have L:∀ k,l.p.mut l.pb k->χ' k=.hC l.pb:=λk d=>by rw [t2 k (B k (O k d) (by rw [u.tag k d];simp)),u.tag k d];exact Ik D W
   refine ⟨?_,L⟩;refine (u.pair.l4 (λk E Ui=>m.old k E Ui) (λk d=>m.lI k (by rw [L k d];simp))).ax d (λk d g=>?_) (λk g=>m.lI k ?_)
   ·rw [u.tag k d] at g;rcases g with e | e | e<;>cases e
   ·by_cases f:aL dg k
    ·rw [t1 k f];simp
    ·rw [t2 k f];rcases g with e | e | e<;>rw [e]<;>simp [oV]
 ·show ((X.bP++hI c.ay).map Prod.fst).Nodup;rw [jx,List.nodup_append];refine ⟨h.nodup,(LV c.ay).nodup ?_,?_⟩
  ·refine w6.2 λa b M f Uj he=>?_
   simp only [fc] at M f;simp only [List.getElem_map] at he;have r:=H a _ (bM M);have I:=H b _ (bM f);rw [he,I] at r;simp at r <;> omega
  ·intro a M b f he;obtain ⟨x,G,rfl⟩:=cD.1 M;obtain ⟨y,Un,rfl⟩:=cD.1 f;obtain ⟨j,l,D,rfl,W⟩:=B0 Un;have r:=(h.ea x G).2 x.1 (.inl rfl);have I:=H j l D;rw [he,I] at r;cases r
theorem Dl {ar:Nat->Tag} {X:bl} (h:bX A ar w aM X) (N:nb X.pure) (M:X.bP.length<=100000000) (c:Int):ba 22 [ptr aM,.int .i64 c] w λv w'=>
  v=.bool (X.pure.die c).1/\dD A ar w aM (X.pure.die c).2 w' λ_=>True:=by
 refine bc Tryz.func22 ?_;rw [ptr,SL];refine aD (BX h c) ?_;rintro v w1 ⟨rfl,rfl⟩;rcases X.qN c with ⟨n,D⟩ | ⟨i,x,rfl,n,D⟩
 ·have aA:X.pure.die c=(false,X.pure):=by simp [aB.die,n]
  have F:X.pure.alive c=false:=by simp [aB.alive,n]
  rw [aA,F];exact ⟨_,rfl,rfl,dD.same h (ao.refl _ _) trivial⟩
 ·have F:X.pure.alive i=x.alive:=by simp [aB.alive,D,bU.pure]
  rw [F];refine ⟨_,rfl,dZ (λV=>?_) (λW=>?_)⟩
  ·have aA:X.pure.die i=(false,X.pure):=by simp [aB.die,D,bU.pure,V]
   rw [aA];exact ⟨rfl,dD.same h (ao.refl _ _) trivial⟩
  refine aD (qZ h n) ?_;rintro v Y ⟨rfl,rfl⟩;have aA:X.pure.die i=(true,{ X.pure with bP:=X.pure.bP++(x.pure.ay.map cH.pair).filter (λp=>decide (0<p.a6.length)),aU:=X.pure.aU.set i { x.pure with alive:=false,ay:=[],batch:=none,waiting:=0 } }):=by simp [aB.die,D,bU.pure,W]
  rw [aA];refine ⟨_,rfl,_,_,_,h.hO (k:=2) n rfl,?_⟩;refine KF h N M n ?_;intro u dg gq os a5 Z;rw [Rc];have O:os=X.bP++hI x.ay:=by have:=a5.eq;rw [qb] at this;simpa [hI] using this
  subst O;have g:av u X.aT (fj X.aU).flatten jz:=a5.ax.ak h.cls (by rw [h.eW];simp);refine ⟨⟨_,kL (k:=0) g n rfl⟩,g.frozen,?_⟩;intro P C;obtain ⟨a,o⟩:=kH (k:=0) (c':={ x with alive:=false }) g n (by omega) (v:=.bool false) (by simp [bU.cells]);have l:P=u.setCell ⟨X.aT,0+i * 7+0,none⟩ (.bool false):=C;rw [<-l] at a;have H:ao (λz=>z=X.aT) u P:=by rw [l];exact eA _ _ _ _
  clear C l;refine ⟨⟨_,kL (k:=2) a o rfl⟩,a.frozen,?_⟩;intro S t;obtain ⟨b,q⟩:=kH (k:=2) (c':={ x with alive:=false,ay:=[],la:=none,lc:=0 }) a o (by omega) (v:=.slice none 0 0) (by simp [bU.cells]);rw [<-t] at b;have I:ao (λz=>z=X.aT) P S:=by rw [t];exact eA _ _ _ _
  clear t;refine ⟨⟨_,kL (k:=3) b q rfl⟩,b.frozen,?_⟩;intro T y;obtain ⟨d,r⟩:=kH (k:=3) (c':={ x with alive:=false,ay:=[],la:=none,lc:=0,c9:=none,raw:=[],batch:=[] }) b q (by omega) (v:=.slice none 0 0) (by simp [bU.cells]);rw [<-y] at d;have J:ao (λz=>z=X.aT) S T:=by rw [y];exact eA _ _ _ _
  clear y;refine ⟨⟨_,kL (k:=4) d r rfl⟩,d.frozen,?_⟩;intro Q B;obtain ⟨f,R⟩:=kH (k:=4) (c':={ x with alive:=false,ay:=[],la:=none,lc:=0,c9:=none,raw:=[],batch:=[],waiting:=0 }) d r (by omega) (v:=.int .i64 0) (by simp [bU.cells]);rw [<-B] at f;have K:ao (λz=>z=X.aT) T Q:=by rw [B];exact eA _ _ _ _
  clear B;rw [iJ,iJ,iJ] at f;have j:ao (λz=>z=X.aT) u Q:=((H.trans I λ_ _ h=>h).trans J λ_ _ h=>h).trans K λ_ _ h=>h
  have s:ao (λz=>ar z=.b9\/ar z=.fD\/ar z=.aU) Y Q:=(a5.ax.mono λz _ au=>au.elim .inl λe=>.inr (.inl e)).trans j λz _ e=>.inr (.inr (by rw [e];exact h.eW))
  have L:∀ z,aL dg z->z≠X.aT:=λz au e=>by
   rcases a5.tag z au with E | E
   ·rw [e,h.eW] at E;cases E
   ·have:=h.cls.lt;omega
  have G:aM≠X.aT:=λe=>by have:=h.gm;rw [e,h.eW] at this;cases this
  obtain ⟨A',χ',aZ,U⟩:=h.die (c':={ x with alive:=false,ay:=[],la:=none,lc:=0,c9:=none,raw:=[],batch:=[],waiting:=0 }) n s (j.ak a5.b9 G) (a5.own.ax j L) a5.tag ⟨rfl,rfl,rfl,rfl,rfl,rfl⟩ f;refine ⟨rfl,A',χ',_,aZ,U,?_,trivial⟩;simp only [bl.pure,jx,iD,KE];rfl
end
end Go.Proofs.YtmkljjbioomepaaGreat
