import Derived.Test.YtmkljjbioomepaaGreatf12
import Derived.Test.YtmkljjbioomepaaGreatf10
import Derived.Test.YtmkljjbioomepaaGreatProg
import Derived.Test.YtmkljjbioomepaaGreatf02
set_option linter.all false
set_option maxHeartbeats 4000000
set_option maxRecDepth 100000
namespace Go.Proofs.YtmkljjbioomepaaGreat
open Go.Proofs.Tryz Go.bd
variable {A:a6}{B i n tb:Nat}{K:aw->Prop}{Q:bg}{a:an}{u bF w0 z:aj}
section
theorem tA {G:bn}{vs:bu}{f:Int}(h:(cm G vs f).ok=true):(cm G vs f).ask=none/\(cm G vs f).dC=false/\(cm G vs f).out=(0,0):=by
 unfold cm at h ⊢
 grind
theorem gH.ok {R:cq}(h:gH A w0 u tb B R bF)(c:R.ask=none)(hw:R.dC=false)(k:Bool)(d:cw)(o:Int×Int):gH A w0 u tb B ⟨k,d,o,R.a_,none,false⟩ bF:=by obtain⟨e,b,f,g,a⟩:=h;rw[c]at a;exact⟨e,b,f,by grind,a⟩
theorem gH.clean {R:cq}(h:gH A w0 u tb B R bF)(c:R.ask=none)(hw:R.dC=false):∃ b,eJ A w0 bF tb b R.a_/\f8 b:=by obtain⟨f,b,d,e,a⟩:=h;rw[c]at a;exact⟨b,d,a,by grind⟩
theorem Fo {α:Type}{cells:α->au}{sz:Nat}(k:∀ x,(cells x).length=sz)(c:0<sz){S:aK}{l:List α}(d:∀ y,S y->bh y a (l.map cells).flatten)(hu:S u){x:α}(p:l[i]?=some x){z:Int}(ax:z=i)(j:n=l.length)
  (g:∀ b o,(∀ y,S y->∀ (q:Nat) (v:bl),(cells x)[q]?=some v->y.cell? ⟨b,o+q,none⟩=some v)->K ⟨b,o,none⟩):bk a n z sz K:=by
 subst ax j;have h:=dk p;have f:∀ r ∈ l.map cells,r.length=sz:=λr B=>by grind
 obtain⟨b,o,rfl,w,A⟩:=(d u hu).row (sz:=sz) f c (i:=i) (r:=cells x) (by grind);refine dM (by omega) (by omega) ?_;have:=g b (o+i*sz) λy s q v ar=>by
  obtain⟨b',C,e,_,t⟩:=(d y s).row (sz:=sz) f c (i:=i) (r:=cells x) (by grind)
  grind
 simp_all
theorem To {b:Nat}{zs:au}(ax:aq u b zs eQ)(n:zs.length=2)(c f:Int){K:bG->aK}(l:∀ g,ao (λk=>k=b) u g->K ⟨c,f⟩ g) :
  dT u ⟨b,0,none⟩ 0 [(.int .i64 c),(.int .i64 f)]/\∀ a,a=cv u ⟨b,0,none⟩ 0 [(.int .i64 c),(.int .i64 f)]->bG.ex λr=>b6 a ⟨b,0,none⟩ 0 r.cells/\dT a ⟨b,0,none⟩ 0 r.cells/\∀ d,d=cv a ⟨b,0,none⟩ 0 r.cells->bG.ex λres=>b6 d ⟨b,0,none⟩ 0 res.cells/\d=d/\K res d:=
 dI ax (vs:=bG.cells ⟨c,f⟩) (by rw[n];rfl) (bG.single _) λa j h=>A8 j λg i=>l g (h.trans i λ_ _ e=>e)
theorem j8 {l:ba}(h:bh u a (us l)){x:Int}(j:l[i]?=some x){z:Int}(ax:z=i)(g:n=l.length)
  (e:∀ b o,(∀ y,ai u y->y.cell? ⟨b,o,none⟩=some (.int .u64 x))->K ⟨b,o,none⟩):bk a n z 1 K:=by
 subst ax g;have f:=dk j;have c:(us l)[i]?=some (.int .u64 x):=by grind[us]
 rcases h with he | ⟨b,o,rfl,d⟩
 ·grind
 ·refine dM (by omega) (by omega) ?_;have:=e b (o+i) λy k=>(bh.new k (.inr ⟨b,o,rfl,d⟩)).cell c
  grind
theorem C2:∀ (b:ba)(c:cw),iw (b.take c.length) c=iw b c
 | [],c=>by simp
 |x::b,[]=>by simp[iw]
 |x::b,d::c=>by simp only[jB,List.take_succ_cons,iw];rw[C2 b c]
theorem C3:∀ (a:bu)(b:ba)(c:cw),hP (a.take c.length) (b.take c.length) c=hP a b c
 | [],b,c=>by simp[hP]
 |v::a,[],c=>by
  grind[hP]
 |v::a,x::b,[]=>by simp[hP]
 |v::a,x::b,d::c=>by simp only[jB,List.take_succ_cons,hP];rw[C3 a b c]
variable {A:a6}{w0 u:aj}{a0 tb b1:Nat}{r:cE}{bP:aU}{j:cJ}
structure oh (A:a6)(w0 u z:aj)(a0 tb b1:Nat)(r:cE)(bP:aU)(j:cJ)(R:cq):Prop where
 du:ff w0 z a0 tb r bP j
 co:∃ o:bG,aq z b1 o.cells eQ
 fN:∃ T,eJ A w0 z tb T R.a_/\f8 T
 aC:ao (λk=>k=tb) u z
theorem oh.new {z b:aj}{R:cq}(h:oh A w0 u z a0 tb b1 r bP j R)(a:ai z b):oh A w0 u b a0 tb b1 r bP j R:=by obtain⟨c,⟨o,d⟩,⟨T,e,f⟩,g⟩:=h;exact⟨c.bK a,⟨o,ai.ak a d⟩,⟨T,e.new a,f⟩,g.new a⟩
theorem oh.TU {c:aj}{R:cq}(h:oh A w0 u z a0 tb b1 r bP j R){M:a6}(b:ao M z c)(a:∀ k,M k->w0.heap.size<=k/\u.heap.size<=k/\k≠a0/\k≠b1/\k≠tb):oh A w0 u c a0 tb b1 r bP j R:=by obtain⟨d,⟨o,f⟩,⟨T,g,i⟩,l⟩:=h;exact⟨d.aC b λk e=>⟨(a k e).1,(a k e).2.2.1⟩,⟨o,b.ak f λe=>(a _ e).2.2.2.1 rfl⟩,⟨T,g.aC b λe=>(a _ e).2.2.2.2 rfl,i⟩,l.trans b λk n e=>by grind⟩
theorem QC {n:aj}{G:bn}{vs us:bu}(L:(cm G vs 1).ok=true)(J:oh A w0 u z a0 tb b1 r bP j (cm G vs 1))(y:ai w0 n)(b:u.heap.size<=b1)(a:b1<n.heap.size)(M:tb<u.heap.size)(h:u.heap.size<=n.heap.size)
  {F:an} {un H:Nat} (ar:bO n z F un H us) (hlen:us.length<=100000) (c:Bool) (N:au)
  (c4:∀ v w',kk A w0 u tb u.heap.size (if c=false then⟨true,[],(0,0),(cm G vs 1).a_,none,false⟩
   else if(cm (cm G vs 1).a_ us 1).ok=true then⟨false,[],(7,1),(cm (cm G vs 1).a_ us 1).a_,none,false⟩else cm (cm G vs 1).a_ us 1) v w'->Q v w') :
  W prog (sub (ay f173) [1,1,1,1,1,1,1,1,1]) (BE ⟨a0,0,none⟩ ⟨b1,0,none⟩ F un H c N) (cS prog f173 Q) z:=by
 rw[VH];obtain⟨q,⟨o,p⟩,⟨T,C,k⟩,s⟩:=J;cases c with
 |false=>
  refine my p rfl 0 0 λE d=>c4 _ _ ⟨rfl,?_⟩
  have I:gH A w0 u tb n.heap.size ⟨true,[],(0,0),(cm G vs 1).a_,none,false⟩ z:=⟨s,T,C,k.dC,k.e4⟩;exact I.put (ao.refl _ _) (ao.refl _ _) d b a (by omega) h
 |true=>
  have i:=r2 q C k y (by omega) ar hlen 1;refine aE i ?_;rintro v O ⟨dB,dc,raw,rfl,t,_⟩;have f:=t.after s;have B:aq O b1 o.cells eQ:=t.aC.ak p (by omega);refine⟨_,_,_,bG.aT ⟨(cm (cm G vs 1).a_ us 1).out.1,(cm (cm G vs 1).a_ us 1).out.2⟩ ⟨(cm (cm G vs 1).a_ us 1).ok,rfl,?_⟩⟩;refine dI B rfl (bG.single _) λu8 x l=>?_
  have D:=f.put (B':=u.heap.size) (ao.refl _ _) (ao.refl _ _) l b a (by omega) h;cases e:(cm (cm G vs 1).a_ us 1).ok with
  |true=>
   obtain⟨K,hw,_⟩:=tA e;have w:=f.ok K hw false [] (7,1);have g:=w.put (B':=n.heap.size) (ao.refl _ _) (ao.refl _ _) l b a (by omega) (dr _);refine To x rfl 7 1 λE d=>c4 _ _ ?_
   simp only[Bool.true_eq_false,if_false,if_true,e];exact⟨rfl,g.put (ao.refl _ _) (ao.refl _ _) d b a (by omega) h⟩
  |false=>
   have g:=f.put (B':=n.heap.size) (ao.refl _ _) (ao.refl _ _) l b a (by omega) (dr _);refine A8 x λE d=>c4 _ _ ?_
   simp only[Bool.true_eq_false,if_false,if_true,e,Cl];refine⟨?_,g.put (ao.refl _ _) (ao.refl _ _) d b a (by omega) h⟩
   grind
theorem QD {a2:an}{pc:Nat}{b6:an}{b9:Nat}{T:eG}{G:bn}{bp:aj}(g:oi w0 bp a0 tb r bP j z a2 n pc b6 b9 (dG j) (iM j))(ag:ai u bp)(R:ai w0 u)(dD:eJ A w0 z tb T G)(ch:f8 T)(cj:aq z b1 (bG.cells ⟨0,0⟩) eQ)
  (a4:u.heap.size<=b1) (M:b1<bp.heap.size) (dX:tb<u.heap.size) (dK:a0<u.heap.size) (b5:au) (c4:∀ v w',kk A w0 u tb u.heap.size (j' j G) v w'->Q v w') :
  W prog (sub (ay f173) [1,1,1,1,1]) (BD ⟨a0,0,none⟩ ⟨b1,0,none⟩ a2 n pc none 0 0 b6 n b9 b5) (cS prog f173 Q) z:=by
 rw[VG];have bx:=ag.size;have dW:=R.size;have eB:=g.j_.len;have d':=g.wl;have df:=g.du.ct;have dR:=df.tq;have dS:=df.yU;have dk:n<=36:=by
  grind[dG,List.length_append,List.length_map]
 have bs:ai u z:=ag.new g.new;have Y:=r2 g.du dD ch (R.new ag) (by omega) g.j_ (by omega) 1;refine aE Y ?_;rintro v eb ⟨dB,dc,raw,rfl,E,cG,a',cH⟩;refine⟨_,_,_,bG.aT ⟨(cm G (dG j) 1).out.1,(cm G (dG j) 1).out.2⟩ ⟨(cm G (dG j) 1).ok,rfl,?_⟩⟩;have cO:aq eb b1 (bG.cells ⟨0,0⟩) eQ:=E.aC.ak cj (by omega);have bD:=E.after (ao.b7 bs);refine dI cO rfl (bG.single _) λaL aB K=>?_
 unfold j' at c4;cases af:(cm G (dG j) 1).ok with
 |false=>
  have bH:=bD.put (B':=bp.heap.size) (ao.refl _ _) (ao.refl _ _) K a4 M (by omega) (dr _);refine A8 aB λeP cq=>c4 _ _ ?_
  rw[bm af];refine⟨?_,bH.put (ao.refl _ _) (ao.refl _ _) cq a4 M (by omega) bx⟩;rw[af]
 |true=>
  rw[aW (by grind)]at c4;obtain⟨dE,hw,eE⟩:=tA af;obtain⟨dy,b_,a9⟩:=E.clean dE hw;have l:ao (λk=>k=tb\/k=b1) z aL:=(E.aC.mono λk _ e=>.inl e).trans (K.mono λk _ e=>.inr e) λ_ _ e=>e
  have a1:oh A w0 u aL a0 tb b1 r bP j (cm G (dG j) 1):=by
   refine⟨g.du.aC l λk e=>?_,⟨_,aB⟩,⟨dy,b_.aC K (by omega),a9⟩,((ao.b7 bs).trans E.aC λ_ _ e=>e).trans K λk Z e=>by omega⟩;have c6:=g.du.kJ;have c9:=g.du.ne
   grind
  have bL:bO bp aL a2 n pc (dG j):=g.j_.BO g.fC l λk J e=>by have:=g.j_.gB k J;omega
  have C:aZ aL ow 1 b6 n b9 (us (iM j)):=g.own.aC l λk J e=>by have:=g.vv k J;omega
  obtain⟨⟨s,ah,w⟩,d9,d8⟩:=bL;have O:=ah.rd;have bN:=g.fC;have bQ:=C.rd;have P:=a1.du.new;have dh:=aB.lt;have dM:=a'.1;have dn:bp.heap.size<=aL.heap.size:=by have c6:=g.new.size;have c9:=l.size;omega
  clear C;refine cP mix (λq env y=>∃ (i:Nat) (aM:Bool) (bX:an) (un bY:Nat) (b5:au),q=raw.length-i/\i<=raw.length/\aM=iw ((iM j).take i) ((cm G (dG j) 1).done.take i)/\env=sA ⟨a0,0,none⟩ ⟨b1,0,none⟩ a2 n pc bX un bY b6 n b9 aM dB raw.length dc raw.length i b5/\ai aL y/\bO aL y bX un bY (hP ((dG j).take i) ((iM j).take i) ((cm G (dG j) 1).done.take i))/\oh A w0 u y a0 tb b1 r bP j (cm G (dG j) 1)) raw.length
   ⟨0,false,none,0,0,_,rfl,by omega,rfl,rfl,ao.refl _ _,bO.nil _ _,a1⟩ ?_
  rintro q env y ⟨i,aM,bX,un,bY,b5,rfl,ez,cf,rfl,ae,t,X⟩;rw[nl];have dZ:=t.len;have dp:=@z0 ((dG j).take i) ((iM j).take i) ((cm G (dG j) 1).done.take i);have dq:((dG j).take i).length<=n:=by grind
  refine a5 (λZ=>?_) (λdN=>?_)
  ·have bk:i<raw.length:=by omega
   obtain⟨d,da⟩:∃ d,raw[i]?=some d:=⟨_,bW bk⟩;have dm:raw.length=(dG j).length:=cH.resolve_left λe=>by grind
   obtain⟨x,ea⟩:∃ x,(cm G (dG j) 1).done[i]?=some x:=⟨_,bW (by omega)⟩;obtain⟨b4,cM⟩:∃ b4,(iM j)[i]?=some b4:=⟨_,bW (by omega)⟩;obtain⟨v1,bK⟩:∃ v1,(dG j)[i]?=some v1:=⟨_,bW (by omega)⟩;obtain⟨r1,D⟩:∃ r1,s[i]?=some r1:=⟨_,bW (by have:=w.1;omega)⟩;have cl:=a'.2 i d x da ea;have f:=w.2 i r1 v1 D bK;have F:=bN v1 (cu bK);have ev:iw ((iM j).take (i+1)) ((cm G (dG j) 1).done.take (i+1))=(iw ((iM j).take i) ((cm G (dG j) 1).done.take i) || decide (d_ x≠b4)):=by
    grind[List.take_add_one,Dl,List.length_take]
   have aV:hP ((dG j).take (i+1)) ((iM j).take (i+1)) ((cm G (dG j) 1).done.take (i+1))=hP ((dG j).take i) ((iM j).take i) ((cm G (dG j) 1).done.take i)++(if d_ x=b4/\v1.kind=3 then[sf v1]else[]):=by
    grind[List.take_add_one,Dk,List.length_take]
   refine ei (cells:=bR.cells) bR.len (by omega) (cG.new (P.new ae)) da rfl rfl λb o cd _=>bR.aT d ⟨cd,?_⟩
   refine dP (vs:=d.cells) rfl (bR.single _) λeg ec dF cN bo=>?_
   rintro dt U;have ab:ai ec dt:=by rw[U];exact cC _
   clear U;have B:=(ae.new bo).new ab;refine⟨λy=>ai dt y,ao.refl _ _,bR.aT d ⟨λy H=>bJ (ai.ak (ab.new H) cN) rfl,?_⟩⟩;refine j8 (bQ.new B) cM rfl (by omega) λeh eF cb=>⟨b4,λy H=>cb y H,?_⟩
   have I:=rA (cl.aC (ao.b7 (P.new B)) λ_ _ e=>e);refine aE I ?_;rintro v eR ⟨rfl,ad⟩;have c:=B.new ad;have a:=(bo.new ab).new ad;refine⟨_,rfl,ad,dw (λe=>?_) (λe=>?_)⟩
   ·rw[aW λh=>e h.1,lE]at aV;rw[bq (x:=(i:Int)+1) (by omega) (by omega)];exact⟨raw.length-(i+1),by omega,i+1,true,bX,un,bY,_,rfl,by omega,by grind,rfl,c,by rw[aV];exact t.new a,X.new a⟩
   ·have aR:aM=iw ((iM j).take (i+1)) ((cm G (dG j) 1).done.take (i+1)):=by grind
    have dT:r1.Kind=v1.kind:=by rw[f.eq];rfl
    refine ei (cells:=aI.cells) aI.len (by omega) (O.new c) D rfl (by have:=w.1;omega) λek eH c_ cy=>⟨_,cy 0 _ rfl,dJ (λc5=>?_) (λc5=>?_)⟩
    ·rw[bm ⟨e,by grind⟩]at aV;refine ei (cells:=aI.cells) aI.len (by omega) (O.new c) D rfl (by have:=w.1;omega) λeo eK a8 dU=>aI.aT r1 ⟨a8,?_⟩
     refine dP (vs:=r1.cells) rfl (aI.single _) λdz ee dH bV br=>?_
     rintro ef V;have L:ai ee ef:=by rw[V];exact cC _
     clear V;have cX:=ai.ak L bV;have p:=aZ.new ((c.new br).new L) ah;have a7:∀ k,aP a2 k->k≠dz:=λk J=>by obtain⟨cs,ck⟩:=gj ah J;have c6:=ck.lt;have c9:=c.size;omega
     refine⟨λy=>aZ y cK 9 a2 n pc (dQ s).flatten,p,?_⟩;refine Fo (S:=λy=>aZ y cK 9 a2 n pc (dQ s).flatten) (cells:=aI.cells) aI.len (by omega) (λy H=>H.rd) p D rfl (by have:=w.1;omega) λep eL cA=>⟨r1.ai,λy H=>cA y H 5 _ rfl,?_⟩
     refine Fo (S:=λy=>aZ y cK 9 a2 n pc (dQ s).flatten) (cells:=aI.cells) aI.len (by omega) (λy H=>H.rd) p D rfl (by have:=w.1;omega) λer eN cD=>⟨r1.Old,λy H=>cD y H 4 _ rfl,?_⟩
     refine kj cX (i:=4) rfl λeV cY bh=>⟨p.aC bh λk J e=>a7 k J e,?_⟩
     refine kj cY (i:=5) rfl λdv cZ cr=>?_
     have dV:=L.size;have N:ai y dv:=(((a.new br).new L).trans bh λk Z e=>by have:=a.size;omega).trans cr λk Z e=>by have:=a.size;omega
     refine aI.aT {r1 with Old:=r1.ai,ai:=r1.Old} ⟨bJ cZ rfl,?_⟩;rintro eu eY ca c1;have cL:cQ (λk=>k<y.heap.size) dv {r1 with Old:=r1.ai,ai:=r1.Old} (sf v1):=by
      refine⟨?_,?_,λ_=>F,.inl F,λz ax=>?_,f.old,f.new,f.key,f.eS,f.cap,f.kM⟩
      ·have dA:=f.eq;rw[dA];rfl
      ·rw[show(sf v1).words=[] from F];exact .inl rfl
      grind[sf]
     refine bO.lX t ae N cL (by omega) ca c1 λap ac eW ew cv cx=>?_
     rw[bq (x:=(i:Int)+1) (by omega) (by omega)];refine⟨raw.length-(i+1),by omega,i+1,aM,ap,un+1,ac,_,rfl,by omega,aR,rfl,cx,by grind,(X.new N).TU cv λk J=>?_⟩;have:=t.gB k J
     grind
    ·rw[aW λh=>c5 (by grind),lE]at aV;rw[bq (x:=(i:Int)+1) (by omega) (by omega)];exact⟨raw.length-(i+1),by omega,i+1,aM,bX,un,bY,_,rfl,by omega,aR,rfl,c,by rw[aV];exact t.new a,X.new a⟩
  ·have bb:i=(cm G (dG j) 1).done.length:=by omega
   rw[bb,jC,C2]at cf;rw[bb,jC,C3]at t
   grind[z0,dG,iM,cm,QC]
end
section
theorem eL {P:c7}{fn:Func}{R:bg}{Q:Exit->au->aK}{c:Code}{env:au}{w:aj}(a:∀ env w,Q .ret env w=cS P fn R .ret env w)(h:Go.bd.W P c env (aV P fn R Q) w):Go.bd.W P c env Q w:=(xv a).mp h
theorem Gv {α:Type}{l:List α}{x d:α}(h:l[i]?=some x):l.getD i d=x:=by rw[lF,h];rfl
end
section
open IntKind
def cf:Code->e9
 |.region _ ops _=>ops.toList
 | _=>[]
abbrev iZ (w:aj)(a:aw)(K:cX->Prop):Prop:=cX.ex λr=>b6 w a 0 r.cells/\K r
abbrev Iw (X:aK)(a:aw)(K:cX->Prop):Prop:=cX.ex λr=>(∀ u,X u->b6 u a 0 r.cells)/\K r
theorem JN (e:Nat)(h i:Int)(w:aj)(R:bg):bc prog f76 [bb e,ab h,ab i] R w=(lY 39 #[bb e,ab h] w λa w1=>cond (Option.isNone a) (R (a4) w1) (cx 42 #[ab i] w1 λb k=>rf 40 #[.pointer a,ab b,ab 120] k λc d f g j=>cond (g != 0) (R (a4) j) (R (af c d f) j))):=by kernel_rfl
theorem Z4 (j:an)(a b:Nat)(k:Int)(w:aj)(R:bg):bc prog f77 [af j a b,ab k] R w=(aR w #[ab 0,a4] 144 λb1 w1=>cond ((a:Int) != 120) (a8 w1 (ah b1 0) 0 [ab 0,a4] λh=>iZ h (ah b1 0) λd=>h=h/\R (.tuple #[d.val,ad false]) h) (g7 j a b 8 (a:Nat) (b:Nat) 1 λp s q=>Calls prog 110 #[af p s q,ab k] w1 λe n=>cX.ex λf=>∃ c,e=.returned (.tuple #[f.val,ab c])/\aR n #[ab 0,a4] 144 λaz o=>a8 o (ah az 0) 0 f.cells λl=>iZ l (ah az 0) λr=>a8 l (ah b1 0) 0 r.cells λi=>iZ i (ah b1 0) λg=>i=i/\R (.tuple #[g.val,ad ((c:Int) == 0)]) i)):=by kernel_rfl
theorem Yc (j:cX)(l:cX)(w:aj)(R:bg):bc prog f78 [j.val,l.val] R w=(aR w j.cells.toArray 144 λb1 w1=>aR w1 l.cells.toArray 144 λaz e=>bN e (ah b1 0) λa=>bN e (ah az 0) λb=>cond (a == b) (bY e (ah b1 1) λc d f=>bY e (ah az 1) λg h i=>c6 111 #[af c d f,af g h i] e λk n=>R (ad k) n) (R (ad false) e)):=by kernel_rfl
theorem YQ (q:an)(a b:Nat)(t:Int)(w:aj)(R:bg):bc prog f79 [af q a b,ab t] R w=(aR w #[ab 0,a4] 144 λb1 w1=>Calls prog 77 #[af q a b,ab t] w1 λe y=>cX.ex λh=>∃ c,e=.returned (.tuple #[h.val,ad c])/\aR y #[ab 0,a4] 144 λaz z=>a8 z (ah az 0) 0 h.cells λs=>cond (!c) (a8 s (ah b1 0) 0 [ab 0,a4] λj=>iZ j (ah b1 0) λi=>j=j/\R (.tuple #[i.val,ad false]) j) (bN s (ah az 0) λd=>g6 112 #[ab d] s λf g n=>bk q a 0 1 λu=>dp n u λx=>cond (x != f) (a8 n (ah b1 0) 0 [ab 0,a4] λo=>iZ o (ah b1 0) λk=>o=o/\R (.tuple #[k.val,ad false]) o) (iZ n (ah az 0) λr=>a8 n (ah b1 0) 0 r.cells λp=>iZ p (ah b1 0) λl=>p=p/\R (.tuple #[l.val,ad true]) p))):=by kernel_rfl
def yi (e:an)(a b:Nat)(s1:Int)(c:aw)(d:Bool)(j:al):al:=af e a b::ab s1::ae j 0 2 (.pointer (some c)::ae j 2 11 (ad d::ae j 13 102 []))
def yj (d:an)(a b:Nat)(s1:Int)(c:aw)(j:al):al:=af d a b::ab s1::ae j 0 2 (.pointer (some c)::ae j 2 114 [])
def qS (e:an)(a b:Nat)(s1:Int)(c:aw)(d:Bool)(j:al):al:=af e a b::ab s1::ae j 0 2 (.pointer (some c)::ae j 2 21 (ad d::ae j 23 92 []))
def qT (e:an)(a b:Nat)(s1:Int)(c:aw)(d:Bool)(j:al):al:=af e a b::ab s1::ae j 0 2 (.pointer (some c)::ae j 2 27 (ad d::ae j 29 86 []))
def vf (e:an)(a b:Nat)(s1:Int)(c:aw)(d:Bool)(j:al):al:=af e a b::ab s1::ae j 0 2 (.pointer (some c)::ae j 2 33 (ad d::ae j 35 80 []))
def yk (e:an)(a b:Nat)(s1:Int)(c:aw)(d:Bool)(j:al):al:=af e a b::ab s1::ae j 0 2 (.pointer (some c)::ae j 2 44 (ad d::ae j 46 69 []))
def yl (d:an)(a b:Nat)(s1:Int)(c:aw)(j:al):al:=af d a b::ab s1::ae j 0 2 (.pointer (some c)::ae j 2 114 [])
def ym (c:an)(a b:Nat)(s1:Int)(d e:aw)(f:Int)(j:al):al:=af c a b::ab s1::ae j 0 2 (.pointer (some d)::ae j 2 1 (.pointer (some e)::ab f::ae j 3 111 []))
def H5 (e:an)(a b:Nat)(s1:Int)(c d:aw)(j:al):al:=af e a b::ab s1::ae j 0 2 (.pointer (some c)::ae j 2 1 (.pointer (some d)::ae j 3 112 []))
def yn (a b:aw)(c:Bool)(j:al):al:=ae j 0 4 (.pointer (some a)::ae j 4 1 (.pointer (some b)::ae j 5 109 (ad c::ae j 114 2 [])))
def yr (a b:aw)(j:al):al:=ae j 0 4 (.pointer (some a)::ae j 4 1 (.pointer (some b)::ae j 5 112 []))
def yo (e:an)(a b:Nat)(s1:Int)(g h:aw)(i:Int)(s8:an)(c d:Nat)(k:aw)(f:Int)(j:al):al:=af e a b::ab s1::ae j 0 2 (.pointer (some g)::ae j 2 1 (.pointer (some h)::ab i::af s8 c d::.pointer (some k)::ab f::ae j 3 108 []))
def HQ (e:an)(a b:Nat)(s1:Int)(c d:aw)(g:Int)(f:aw)(j:al):al:=af e a b::ab s1::ae j 0 2 (.pointer (some c)::ae j 2 1 (.pointer (some d)::ab g::ae j 3 1 (.pointer (some f)::ae j 4 109 [])))
def HR (e:an)(a b:Nat)(s1:Int)(c d:aw)(f:Int)(j:al):al:=af e a b::ab s1::ae j 0 2 (.pointer (some c)::ae j 2 1 (.pointer (some d)::ab f::ae j 3 111 []))
theorem Z5 (d:an)(a b:Nat)(c:Int)(w:aj)(R:bg):bc prog f110 [af d a b,ab c] R w=(aR w #[ab 0,a4] 144 λb1 w1=>cond (c<98) (W prog (sb f110 [1,0,1]) (yi d a b c (ah b1 0) true (a1 2 (ab 0::a1 5 (ab c::ad (c<98)::ad true::a1 104 [])))) (aS f110 [1,1] R) w1) (W prog (sb f110 [1,0,1]) (yi d a b c (ah b1 0) (decide ((c:Int)>256)) (a1 2 (ab 0::a1 5 (ab c::ad (c<98)::ad false::ab c::ad (c>256)::a1 102 [])))) (aS f110 [1,1] R) w1)):=by kernel_rfl
theorem Yd (e:an)(a b:Nat)(s1:Int)(c:aw)(d:Bool)(j:al)(w:aj)(R:bg)(QX:bH):W prog (sb f110 [1,0,1]) (yi e a b s1 c d j) (aV prog f110 R QX) w=(cond d (a8 w c 0 [ab 0,a4] λw1=>iZ w1 c λf=>w1=w1/\R (.tuple #[f.val,ab 18]) w1) (QX .normal (yj e a b s1 c (ae j 0 13 (ad d::ae j 13 102 []))) w)):=by kernel_rfl
theorem WW (env:al)(w:aj)(Q:bH):W prog (sub (ay f110) [1,1]) env Q w=W prog (sub (ay f110) [1,1,0]) env (aM (λenv w=>W prog (sub (ay f110) [1,1,1]) env Q w) Q) w:=by rw[show sub (ay f110) [1,1]=.seq (sub (ay f110) [1,1,0]) (sub (ay f110) [1,1,1]) by kernel_rfl];generalize sub (ay f110) [1,1,0]=a;generalize sub (ay f110) [1,1,1]=b;kernel_rfl
theorem Wx (env:al)(w:aj)(Q:bH):W prog (sub (ay f110) [1,1,0]) env Q w=W prog (sub (ay f110) [1,1,0,0]) env (aM (λenv w=>W prog (sub (ay f110) [1,1,0,1]) env Q w) Q) w:=by rw[show sub (ay f110) [1,1,0]=.seq (sub (ay f110) [1,1,0,0]) (sub (ay f110) [1,1,0,1]) by kernel_rfl];generalize sub (ay f110) [1,1,0,0]=a;generalize sub (ay f110) [1,1,0,1]=b;kernel_rfl
theorem XJ (env:al)(Q:bH)(w:aj):W prog (sub (ay f110) [1,1,0,0]) env Q w=dh prog (cf (sub (ay f110) [1,1,0,0])) ((cf (sub (ay f110) [1,1,0,0])).take 9++(cf (sub (ay f110) [1,1,0,0])).drop 9) env (Q .normal) w:=by kernel_rfl
theorem Xd (d:an)(a b:Nat)(s1:Int)(c:aw)(j:al)(w:aj)(R:bg)(QX:bH)(f:e9)(e:al->aK):dh prog (cf (sb f110 [1,1,0,0])) ((cf (sb f110 [1,1,0,0])).take 9++f) (yj d a b s1 c j) e w=(cond ((a:Int)<3) (dh prog (cf (sb f110 [1,1,0,0])) f (qS d a b s1 c true (ae j 0 15 (af d a b::cd a::ad ((a:Int)<3)::ad true::a1 4 (ae j 24 92 [])))) e w) (bk d a 0 1 λg=>dp w g λx=>dh prog (cf (sb f110 [1,1,0,0])) f (qS d a b s1 c (decide ((x:Int)>=1073741824)) (ae j 0 15 (af d a b::cd a::ad ((a:Int)<3)::ad false::af d a b::jp g::ag x::ad (x>=1073741824)::ae j 24 92 []))) e w)):=by kernel_rfl
theorem Ye (d:an)(a b:Nat)(s1:Int)(c:aw)(j:al)(w:aj)(R:bg)(QX:bH):W prog (sub (ay f110) [1,1,0,0]) (yj d a b s1 c j) (aV prog f110 R QX) w=((bif (decide (((a:Nat):Int)<3))then(dh prog (cf (sub (ay f110) [1,1,0,0])) ((cf (sub (ay f110) [1,1,0,0])).drop 9) (qS d a b s1 c true (ae j 0 15 (af d a b::cd a::ad (decide (((a:Nat):Int)<3))::ad true::a1 4 (ae j 24 92 [])))) ((aV prog f110 R QX) .normal) w)else(bk d a 0 1 λe=>∃ x,w.cell? e=some (.int .u64 x)/\dh prog (cf (sub (ay f110) [1,1,0,0])) ((cf (sub (ay f110) [1,1,0,0])).drop 9) (qS d a b s1 c (decide ((x:Int)>=1073741824)) (ae j 0 15 (af d a b::cd a::ad (decide (((a:Nat):Int)<3))::ad false::af d a b::jp e::ag x::ad (decide ((x:Int)>=1073741824))::ae j 24 92 []))) ((aV prog f110 R QX) .normal) w))):=
 (XJ (yj d a b s1 c j) (aV prog f110 R QX) w).trans (Xd d a b s1 c j w R QX ((cf (sub (ay f110) [1,1,0,0])).drop 9) ((aV prog f110 R QX) .normal))
theorem Xe (e:an)(a b:Nat)(s1:Int)(c:aw)(d:Bool)(j:al)(w:aj)(R:bg)(QX:bH)(g:e9)(f:al->aK):dh prog (cf (sb f110 [1,1,0,0])) ((((cf (sb f110 [1,1,0,0])).drop 9).take 6)++g) (qS e a b s1 c d j) f w=(cond d (dh prog (cf (sb f110 [1,1,0,0])) g (qT e a b s1 c true (ae j 0 23 (ad d::ad true::a1 4 (ae j 29 86 [])))) f w) (bk e a 1 1 λh=>dp w h λx=>dh prog (cf (sb f110 [1,1,0,0])) g (qT e a b s1 c (decide ((x:Int)<1)) (ae j 0 23 (ad d::ad false::af e a b::jp h::ag x::ad (x<1)::ae j 29 86 []))) f w)):=by kernel_rfl
theorem HJ (e:an)(a b:Nat)(s1:Int)(c:aw)(d:Bool)(j:al)(w:aj)(R:bg)(QX:bH):dh prog (cf (sub (ay f110) [1,1,0,0])) ((cf (sub (ay f110) [1,1,0,0])).drop 9) (qS e a b s1 c d j) ((aV prog f110 R QX) .normal) w=((bif d then(dh prog (cf (sub (ay f110) [1,1,0,0])) ((cf (sub (ay f110) [1,1,0,0])).drop 15) (qT e a b s1 c true (ae j 0 23 (ad d::ad true::a1 4 (ae j 29 86 [])))) ((aV prog f110 R QX) .normal) w)else(bk e a 1 1 λf=>∃ x,w.cell? f=some (.int .u64 x)/\dh prog (cf (sub (ay f110) [1,1,0,0])) ((cf (sub (ay f110) [1,1,0,0])).drop 15) (qT e a b s1 c (decide ((x:Int)<1)) (ae j 0 23 (ad d::ad false::af e a b::jp f::ag x::ad (decide ((x:Int)<1))::ae j 29 86 []))) ((aV prog f110 R QX) .normal) w))):=
 (eh (λg=>dh prog (cf (sub (ay f110) [1,1,0,0])) g (qS e a b s1 c d j) ((aV prog f110 R QX) .normal) w) (by kernel_rfl:((cf (sub (ay f110) [1,1,0,0])).drop 9)=(((cf (sub (ay f110) [1,1,0,0])).drop 9).take 6)++((cf (sub (ay f110) [1,1,0,0])).drop 15))).trans (Xe e a b s1 c d j w R QX ((cf (sub (ay f110) [1,1,0,0])).drop 15) ((aV prog f110 R QX) .normal))
theorem Xf (e:an)(a b:Nat)(s1:Int)(c:aw)(d:Bool)(j:al)(w:aj)(R:bg)(QX:bH)(g:e9)(f:al->aK):dh prog (cf (sb f110 [1,1,0,0])) ((((cf (sb f110 [1,1,0,0])).drop 15).take 6)++g) (qT e a b s1 c d j) f w=(cond d (dh prog (cf (sb f110 [1,1,0,0])) g (vf e a b s1 c true (ae j 0 29 (ad d::ad true::a1 4 (ae j 35 80 [])))) f w) (bk e a 1 1 λh=>dp w h λx=>dh prog (cf (sb f110 [1,1,0,0])) g (vf e a b s1 c (decide ((x:Int)>12)) (ae j 0 29 (ad d::ad false::af e a b::jp h::ag x::ad (x>12)::ae j 35 80 []))) f w)):=by kernel_rfl
theorem BI (e:an)(a b:Nat)(s1:Int)(c:aw)(d:Bool)(j:al)(w:aj)(R:bg)(QX:bH):dh prog (cf (sub (ay f110) [1,1,0,0])) ((cf (sub (ay f110) [1,1,0,0])).drop 15) (qT e a b s1 c d j) ((aV prog f110 R QX) .normal) w=((bif d then(dh prog (cf (sub (ay f110) [1,1,0,0])) ((cf (sub (ay f110) [1,1,0,0])).drop 21) (vf e a b s1 c true (ae j 0 29 (ad d::ad true::a1 4 (ae j 35 80 [])))) ((aV prog f110 R QX) .normal) w)else(bk e a 1 1 λf=>∃ x,w.cell? f=some (.int .u64 x)/\dh prog (cf (sub (ay f110) [1,1,0,0])) ((cf (sub (ay f110) [1,1,0,0])).drop 21) (vf e a b s1 c (decide ((x:Int)>12)) (ae j 0 29 (ad d::ad false::af e a b::jp f::ag x::ad (decide ((x:Int)>12))::ae j 35 80 []))) ((aV prog f110 R QX) .normal) w))):=
 (eh (λg=>dh prog (cf (sub (ay f110) [1,1,0,0])) g (qT e a b s1 c d j) ((aV prog f110 R QX) .normal) w) (by kernel_rfl:((cf (sub (ay f110) [1,1,0,0])).drop 15)=(((cf (sub (ay f110) [1,1,0,0])).drop 15).take 6)++((cf (sub (ay f110) [1,1,0,0])).drop 21))).trans (Xf e a b s1 c d j w R QX ((cf (sub (ay f110) [1,1,0,0])).drop 21) ((aV prog f110 R QX) .normal))
theorem x3 (e:an)(a b:Nat)(s1:Int)(c:aw)(d:Bool)(j:al)(w:aj)(R:bg)(QX:bH):dh prog (cf (sb f110 [1,1,0,0])) ((cf (sb f110 [1,1,0,0])).drop 21) (vf e a b s1 c d j) ((aV prog f110 R QX) .normal) w=(cond d (QX .normal (yk e a b s1 c true (ae j 0 35 (ad d::ad true::a1 9 (ae j 46 69 [])))) w) (bk e a 1 1 λf=>dp w f λx=>QX .normal (yk e a b s1 c (decide ((a:Int)<(i64.wrap (3+(i64.wrap (9*(i64.wrap x))))))) (ae j 0 35 (ad d::ad false::af e a b::cd a::af e a b::jp f::ag x::ab (i64.wrap x)::ab (i64.wrap (9*(i64.wrap x)))::ab (i64.wrap (3+(i64.wrap (9*(i64.wrap x)))))::ad ((a:Int)<(i64.wrap (3+(i64.wrap (9*(i64.wrap x))))))::ae j 46 69 []))) w)):=by kernel_rfl
theorem Yf (e:an)(a b:Nat)(s1:Int)(c:aw)(d:Bool)(j:al)(w:aj)(R:bg)(QX:bH):W prog (sb f110 [1,1,0,1]) (yk e a b s1 c d j) (aV prog f110 R QX) w=(cond d (a8 w c 0 [ab 0,a4] λw1=>iZ w1 c λf=>w1=w1/\R (.tuple #[f.val,ab 14]) w1) (QX .normal (yl e a b s1 c (ae j 0 46 (ad d::ae j 46 69 []))) w)):=by kernel_rfl
theorem Yg (d:an)(a b:Nat)(s1:Int)(c:aw)(j:al)(w:aj)(R:bg)(QX:bH):W prog (sb f110 [1,1,1]) (yl d a b s1 c j) (aV prog f110 R QX) w=(bk d a 0 1 λe=>dp w e λx=>aR w #[ab 0,a4] 144 λb1 w1=>a8 w1 (ah b1 0) 0 [ab (i64.wrap x),a4] λf=>cj prog (cN f110 [1,1,1,1,0,1,0,0]) (ym d a b s1 c (ah b1 0) 0 (aB j 0::aB j 1::aB j 2::ae j 5 43 (af d a b::jp e::ag x::ab (i64.wrap x)::.agg #[ab (i64.wrap x),a4]::ae j 53 63 []))) (aL 0 (aM (λenv w=>W prog (sb f110 [1,1,1,1,1]) env (aV prog f110 R QX) w) (aV prog f110 R QX))) f):=by kernel_rfl
theorem WX (h:an)(a b:Nat)(s1:Int)(l r:aw)(e:Int)(j:al)(w:aj)(R:bg)(QX:bH):W prog (sb f110 [1,1,1,1,0,1,0,0]) (ym h a b s1 l r e j) (aV prog f110 R QX) w=(bk h a 1 1 λq=>dp w q λx=>cond (e<(i64.wrap x)) (g7 h a b (i64.wrap (2+(i64.wrap (9*e)))) (a:Nat) (b:Nat) 1 λi k n=>bk i k 0 1 λc=>dp w c λs=>cond (s>=256) (a8 w l 0 [ab 0,a4] λw1=>iZ w1 l λd=>w1=w1/\R (.tuple #[d.val,ab 14]) w1) (ck w λy p=>bk i k 0 1 λf=>hd p f λo=>bk i k 1 1 λg=>hd p g λt=>aR y #[ab 0,ag 0,ag 0,ag 0,ag 0,ag 0,ag 0,ag 0,ag 0] 73 λb1 u=>p u/\a8 u (ah b1 0) 0 [ab (i64.wrap o),ag t,ag 0,ag 0,ag 0,ag 0,ag 0,ag 0,ag 0] λz=>cj prog (cN f110 [1,1,1,1,0,1,0,0,1,0,0,1,1,1,0,1,0,0]) (yo h a b s1 l r e i k n (ah b1 0) 0 (aB j 0::aB j 1::aB j 2::ae j 6 45 (ab e::af h a b::jp q::ag x::ab (i64.wrap x)::ad (e<(i64.wrap x))::aB j 57::aB j 58::af h a b::ab e::ab (i64.wrap (9*e))::ab (i64.wrap (2+(i64.wrap (9*e))))::af i k n::af i k n::jp c::ag s::ad (s>=256)::aB j 68::af i k n::jp f::ag o::ab (i64.wrap o)::af i k n::jp g::ag t::.agg #[ab (i64.wrap o),ag t,ag 0,ag 0,ag 0,ag 0,ag 0,ag 0,ag 0]::ae j 77 37 []))) (aL 2 (aM (λenv w=>W prog (sb f110 [1,1,1,1,0,1,0,0,1,0,0,1,1,1,1]) env (aL 1 (aM (λenv w=>W prog (sb f110 [1,1,1,1,0,1,0,0,1,1]) env (aV prog f110 R QX) w) (aV prog f110 R QX))) w) (aL 1 (aM (λenv w=>W prog (sb f110 [1,1,1,1,0,1,0,0,1,1]) env (aV prog f110 R QX) w) (aV prog f110 R QX))))) z)) (QX (.exit 0) (H5 h a b s1 l r (aB j 0::aB j 1::aB j 2::ab e::ae j 3 48 (ab e::af h a b::jp q::ag x::ab (i64.wrap x)::ad (e<(i64.wrap x))::ae j 57 57 []))) w)):=by kernel_rfl
theorem WY (env:al)(w:aj)(Q:bH):W prog (sub (ay f110) [1,1,1,1,1]) env Q w=W prog (sub (ay f110) [1,1,1,1,1,0]) env (aM (λenv w=>W prog (sub (ay f110) [1,1,1,1,1,1]) env Q w) Q) w:=by rw[show sub (ay f110) [1,1,1,1,1]=.seq (sub (ay f110) [1,1,1,1,1,0]) (sub (ay f110) [1,1,1,1,1,1]) by kernel_rfl];generalize sub (ay f110) [1,1,1,1,1,0]=a;generalize sub (ay f110) [1,1,1,1,1,1]=b;kernel_rfl
theorem Wy (env:al)(w:aj)(Q:bH):W prog (sub (ay f110) [1,1,1,1,1,0]) env Q w=W prog (sub (ay f110) [1,1,1,1,1,0,0]) env (aM (λenv w=>W prog (sub (ay f110) [1,1,1,1,1,0,1]) env Q w) Q) w:=by rw[show sub (ay f110) [1,1,1,1,1,0]=.seq (sub (ay f110) [1,1,1,1,1,0,0]) (sub (ay f110) [1,1,1,1,1,0,1]) by kernel_rfl];generalize sub (ay f110) [1,1,1,1,1,0,0]=a;generalize sub (ay f110) [1,1,1,1,1,0,1]=b;kernel_rfl
theorem Yh (o:an)(a b:Nat)(s1:Int)(c d:aw)(j:al)(w:aj)(R:bg)(QX:bH):W prog (sb f110 [1,1,1,1,1,0,0]) (H5 o a b s1 c d j) (aV prog f110 R QX) w=(ck w λw1 e=>Iw e d λr=>cx 144 #[r.val,ab s1] w1 λf p=>e p/\cond (f != 0) (QX .normal (yn c d true (af o a b::ab s1::ae j 0 96 (r.val::ab s1::ab f::ad ((f:Int) != 0)::ad true::a1 11 [aB j 113,aB j 114]))) p) (Iw e d λr1=>dS e (br d 1) λg h i=>g7 o a b 0 (i64.wrap (3+(i64.wrap (9*(h:Nat))))) (b:Nat) 1 λt x u=>eV 146 #[r1.val] p λk l m q=>e q/\c6 145 #[af k l m,af t x u] q λn s=>e s/\QX .normal (yn c d (!n) (af o a b::ab s1::ae j 0 96 [r.val,ab s1,ab f,ad ((f:Int) != 0),ad false,r1.val,af k l m,af o a b,a7 d 1,af g h i,cd h,ab (i64.wrap (9*(h:Nat))),ab (i64.wrap (3+(i64.wrap (9*(h:Nat))))),af t x u,ad n,ad (!n),aB j 113,aB j 114])) s)):=by kernel_rfl
theorem Yi (a b:aw)(c:Bool)(j:al)(w:aj)(R:bg)(QX:bH):W prog (sb f110 [1,1,1,1,1,0,1]) (yn a b c j) (aV prog f110 R QX) w=(cond c (a8 w a 0 [ab 0,a4] λw1=>iZ w1 a λd=>w1=w1/\R (.tuple #[d.val,ab 14]) w1) (QX .normal (yr a b (ae j 0 114 [ad c,aB j 114,aB j 115])) w)):=by kernel_rfl
theorem X4 (a b:aw)(j:al)(w:aj)(R:bg)(QX:bH):W prog (sb f110 [1,1,1,1,1,1]) (yr a b j) (aV prog f110 R QX) w=(iZ w b λr=>a8 w a 0 r.cells λw1=>iZ w1 a λc=>w1=w1/\R (.tuple #[c.val,ab 0]) w1):=by kernel_rfl
theorem WZ (h:an)(a b:Nat)(s1:Int)(i k:aw)(l:Int)(s8:an)(c d:Nat)(e:aw)(f:Int)(j:al)(w:aj)(R:bg)(QX:bH):W prog (sb f110 [1,1,1,1,0,1,0,0,1,0,0,1,1,1,0,1,0,0]) (yo h a b s1 i k l s8 c d e f j) (aV prog f110 R QX) w=(cond (f<7) (bk s8 c (i64.wrap (2+f)) 1 λn=>dp w n λx=>gC (br e 2) 7 f 1 λg=>cM w g (ag x) λw1=>QX .normal (yo h a b s1 i k l s8 c d e (i64.wrap (f+1)) (ae j 0 74 (ab f::ad (f<7)::ab f::ab (i64.wrap (f+1))::ab f::af s8 c d::ab f::ab (i64.wrap (2+f))::jp n::ag x::a7 e 2::jp g::ae j 86 25 []))) w1) (QX (.exit 2) (HQ h a b s1 i k l e (aB j 0::aB j 1::aB j 2::af s8 c d::ab f::ae j 3 71 (ab f::ad (f<7)::ae j 76 35 []))) w)):=by kernel_rfl
theorem X5 (e:an)(a b:Nat)(s1:Int)(c d:aw)(n:Int)(f:aw)(j:al)(w:aj)(R:bg)(QX:bH):W prog (sb f110 [1,1,1,1,0,1,0,0,1,0,0,1,1,1,1]) (HQ e a b s1 c d n f j) (aV prog f110 R QX) w=(bY w (br d 1) λg h i=>hJ w f λr=>aR w r.cells.toArray 73 λb1 w1=>da 37 (af g h i) (af (bs b1) 1 1) w1 λap k l o=>cM o (br d 1) (af ap k l) λp=>QX .normal (HR e a b s1 c d n (ae j 0 4 (jp f::ae j 4 84 (a7 d 1::af g h i::r.val::af (bs b1) 1 1::af ap k l::a7 d 1::ae j 94 19 [])))) p):=by kernel_rfl
theorem X6 (f:an)(a b:Nat)(s1:Int)(c d:aw)(e:Int)(j:al)(w:aj)(R:bg)(QX:bH):W prog (sb f110 [1,1,1,1,0,1,0,0,1,1]) (HR f a b s1 c d e j) (aV prog f110 R QX) w=(QX .normal (ym f a b s1 c d (i64.wrap (e+1)) (ae j 0 57 (ab e::ab (i64.wrap (e+1))::ae j 59 55 []))) w):=by kernel_rfl
def x7 (e:an)(a b:Nat)(s1:an)(c d:Nat)(f:Int)(j:al):al:=af e a b::af s1 c d::ae j 0 3 (ab f::ae j 3 20 [])
def HC  (j:al):al:=ae j 0 26 []
theorem Ys (e:an)(a b:Nat)(f:an)(c d:Nat)(w:aj)(R:bg):bc prog f111 [af e a b,af f c d] R w=(cond ((a:Int) != (c:Nat)) (R (ad false) w) (cj prog (cN f111 [1,1,0,1,0,0]) (x7 e a b f c d 0 (a1 2 (ad false::af e a b::cd a::af f c d::cd c::ad ((a:Int) != (c:Nat))::a1 15 []))) (aL 0 (aS f111 [1,1,1] R)) w)):=by kernel_rfl
theorem UF (g:an)(a b:Nat)(s1:an)(c d:Nat)(e:Int)(j:al)(w:aj)(R:bg)(h:al->aK):W prog (sb f111 [1,1,0,1,0,0]) (x7 g a b s1 c d e j) (aM h (aL 0 (aS f111 [1,1,1] R))) w=(cond (e<(a:Nat)) (ck w λw1 i=>bk g a e 9 λk=>rh i k λr=>bk s1 c e 9 λf=>rh i f λr1=>od prog 73 r.val r1.val λ(eq:Bool)=>cond (!eq) (R (ad false) w1) (h (x7 g a b s1 c d (i64.wrap (e+1)) (ae j 0 8 [ab e,af g a b,cd a,ad (e<(a:Nat)),ab e,ab (i64.wrap (e+1)),af g a b,ab e,jp k,r.val,af s1 c d,ab e,jp f,r1.val,ad (!eq)])) w1)) (W prog (sb f111 [1,1,1]) (HC  (af g a b::af s1 c d::aB j 0::aB j 1::aB j 2::ab e::ae j 3 5 (ab e::af g a b::cd a::ad (e<(a:Nat))::ae j 12 11 []))) (bV f111 R) w)):=by kernel_rfl
theorem WO  (j:al) (w:aj) (R:bg):W prog (sb f111 [1,1,1]) (HC  j) (bV f111 R) w=(R (ad true) w):=by kernel_rfl
def xL (s1:Int)(a:aw)(b:Bool)(j:al):al:=ae j 0 1 (ab s1::.pointer (some a)::ae j 1 11 (ad b::ae j 12 85 []))
def Ho (s1:Int)(a:aw)(j:al):al:=ae j 0 1 (ab s1::.pointer (some a)::ae j 1 97 [])
def sy (s1:Int)(a:aw)(b:Bool)(j:al):al:=ae j 0 1 (ab s1::.pointer (some a)::ae j 1 31 (ad b::ae j 32 65 []))
def xM (s1:Int)(a:aw)(j:al):al:=ae j 0 1 (ab s1::.pointer (some a)::ae j 1 97 [])
def xN (s1:Int)(s2:aw)(a:Int)(j:al):al:=ae j 0 1 (ab s1::.pointer (some s2)::ae j 1 2 (ab a::ae j 3 94 []))
def Hp (a:aw)(j:al):al:=ae j 0 2 (.pointer (some a)::ae j 2 97 [])
def u0 (s2:aw)(a:Int)(j:al):al:=ae j 0 2 (.pointer (some s2)::ae j 2 3 (ab a::ae j 5 93 []))
def Hq (a:aw)(b s8:Int)(j:al):al:=ae j 0 2 (.pointer (some a)::ae j 2 3 (ab b::ae j 5 1 (ab s8::ae j 6 91 [])))
def Hr  (j:al):al:=ae j 0 100 []
def qP (a:aw)(c:Int)(b:Bool)(j:al):al:=ae j 0 2 (.pointer (some a)::ae j 2 3 (ab c::ae j 5 92 [ad b]))
def xO (a:aw)(b:Int)(j:al):al:=ae j 0 2 (.pointer (some a)::ae j 2 3 (ab b::ae j 5 93 []))
theorem X7 (b:cX)(a:Int)(w:aj)(R:bg):bc prog f144 [b.val,ab a] R w=(aR w b.cells.toArray 144 λb1 w1=>cond (a<98) (W prog (sb f144 [1,0,1]) (xL a (ah b1 0) true (b.val::undef::ab 0::a1 4 (ab a::ad (a<98)::ad true::a1 87 []))) (aS f144 [1,1] R) w1) (W prog (sb f144 [1,0,1]) (xL a (ah b1 0) (decide ((a:Int)>256)) (b.val::undef::ab 0::a1 4 (ab a::ad (a<98)::ad false::ab a::ad (a>256)::a1 85 []))) (aS f144 [1,1] R) w1)):=by kernel_rfl
theorem U' (s1:Int)(a:aw)(b:Bool)(j:al)(w:aj)(R:bg)(QX:bH):W prog (sb f144 [1,0,1]) (xL s1 a b j) (aV prog f144 R QX) w=(cond b (R (ab 18) w) (QX .normal (Ho s1 a (ae j 0 12 (ad b::ae j 12 85 []))) w)):=by kernel_rfl
theorem Ul (env:al)(w:aj)(Q:bH):W prog (sub (ay f144) [1,1]) env Q w=W prog (sub (ay f144) [1,1,0]) env (aM (λenv w=>W prog (sub (ay f144) [1,1,1]) env Q w) Q) w:=by rw[show sub (ay f144) [1,1]=.seq (sub (ay f144) [1,1,0]) (sub (ay f144) [1,1,1]) by kernel_rfl];generalize sub (ay f144) [1,1,0]=a;generalize sub (ay f144) [1,1,1]=b;kernel_rfl
theorem ms (env:al)(w:aj)(Q:bH):W prog (sub (ay f144) [1,1,0]) env Q w=W prog (sub (ay f144) [1,1,0,0]) env (aM (λenv w=>W prog (sub (ay f144) [1,1,0,1]) env Q w) Q) w:=by rw[show sub (ay f144) [1,1,0]=.seq (sub (ay f144) [1,1,0,0]) (sub (ay f144) [1,1,0,1]) by kernel_rfl];generalize sub (ay f144) [1,1,0,0]=a;generalize sub (ay f144) [1,1,0,1]=b;kernel_rfl
theorem Va (s1:Int)(a:aw)(j:al)(w:aj)(R:bg)(QX:bH):W prog (sb f144 [1,1,0,0]) (Ho s1 a j) (aV prog f144 R QX) w=(bN w a λb=>cond (b<1) (QX .normal (sy s1 a true (ae j 0 13 (jp a::ab b::ad (b<1)::ad true::a1 3 (ad true::ad true::a1 4 (ad true::ad true::a1 4 (ae j 33 65 [])))))) w) (bN w a λc=>cond (c>=1073741824) (QX .normal (sy s1 a true (ae j 0 13 (jp a::ab b::ad (b<1)::ad false::jp a::ab c::ad (c>=1073741824)::ad (c>=1073741824)::ad true::a1 4 (ad true::ad true::a1 4 (ae j 33 65 []))))) w) (bY w (br a 1) λd f g=>cond ((f:Int)<1) (QX .normal (sy s1 a true (ae j 0 13 (jp a::ab b::ad (b<1)::ad false::jp a::ab c::ad (c>=1073741824)::ad (c>=1073741824)::ad false::a7 a 1::af d f g::cd f::ad ((f:Int)<1)::ad ((f:Int)<1)::ad true::a1 4 (ae j 33 65 [])))) w) (bY w (br a 1) λh i k=>QX .normal (sy s1 a (decide ((i:Int)>12)) (ae j 0 13 (jp a::ab b::ad (b<1)::ad false::jp a::ab c::ad (c>=1073741824)::ad (c>=1073741824)::ad false::a7 a 1::af d f g::cd f::ad ((f:Int)<1)::ad ((f:Int)<1)::ad false::a7 a 1::af h i k::cd i::ad ((i:Int)>12)::ae j 33 65 []))) w)))):=by kernel_rfl
theorem Vb (s1:Int)(a:aw)(b:Bool)(j:al)(w:aj)(R:bg)(QX:bH):W prog (sb f144 [1,1,0,1]) (sy s1 a b j) (aV prog f144 R QX) w=(cond b (R (ab 1) w) (QX .normal (xM s1 a (ae j 0 32 (ad b::ae j 32 65 []))) w)):=by kernel_rfl
theorem U1 (s1:Int)(a:aw)(j:al)(w:aj)(R:bg)(QX:bH):W prog (sb f144 [1,1,1]) (xM s1 a j) (aV prog f144 R QX) w=(cj prog (cN f144 [1,1,1,0,1,0,0]) (xN s1 a 0 (aB j 0::aB j 1::aB j 2::ae j 4 94 [])) (aL 0 (aM (λenv w=>W prog (sb f144 [1,1,1,1]) env (aV prog f144 R QX) w) (aV prog f144 R QX))) w):=by kernel_rfl
theorem Um (s1:Int)(s2:aw)(e:Int)(j:al)(w:aj)(R:bg)(QX:bH):W prog (sb f144 [1,1,1,0,1,0,0]) (xN s1 s2 e j) (aV prog f144 R QX) w=(bY w (br s2 1) λa b c=>cond (e<(b:Nat)) (bY w (br s2 1) λd f g=>bk d f e 9 λk=>bN w k λh=>c6 188 #[ab h,ab s1] w λi w1=>cond (!i) (R (ab 2) w1) (QX .normal (xN s1 s2 (i64.wrap (e+1)) (ae j 0 32 (ab e::a7 s2 1::af a b c::cd b::ad (e<(b:Nat))::ab e::ab (i64.wrap (e+1))::a7 s2 1::af d f g::ab e::jp k::jp k::ab h::ab s1::ad i::ad (!i)::ae j 48 49 []))) w1)) (QX (.exit 0) (Hp s2 (aB j 0::ab s1::aB j 1::aB j 2::ab e::ae j 3 29 (ab e::a7 s2 1::af a b c::cd b::ad (e<(b:Nat))::ae j 37 60 []))) w)):=by kernel_rfl
theorem VQ (a:aw)(j:al)(w:aj)(R:bg)(QX:bH):W prog (sb f144 [1,1,1,1]) (Hp a j) (aV prog f144 R QX) w=(cj prog (cN f144 [1,1,1,1,0,1,0,0]) (u0 a 0 (ae j 0 5 (ae j 6 93 []))) (aL 2 (aM (λenv w=>W prog (sb f144 [1,1,1,1,1]) env (aV prog f144 R QX) w) (aV prog f144 R QX))) w):=by kernel_rfl
theorem Un (s2:aw)(e:Int)(j:al)(w:aj)(R:bg)(QX:bH):W prog (sb f144 [1,1,1,1,0,1,0,0]) (u0 s2 e j) (aV prog f144 R QX) w=(bY w (br s2 1) λa b c=>cond (e<(b:Nat)) (bY w (br s2 1) λd f g=>bk d f e 9 λl=>dp w (br l 1) λh=>g6 189 #[ag h] w λi k w1=>W prog (sb f144 [1,1,1,1,0,1,0,0,1,0,0,1]) (Hq s2 e k (ae j 0 5 (ag i::ae j 7 42 (ab e::a7 s2 1::af a b c::cd b::ad (e<(b:Nat))::aB j 54::aB j 55::.tuple #[ag i,ab k]::a7 s2 1::af d f g::ab e::jp l::a7 l 1::ag h::.tuple #[ag i,ab k]::ag i::ab k::ae j 66 32 [])))) (aL 3 (aM (λenv w=>W prog (sb f144 [1,1,1,1,0,1,0,0,1,1]) env (aV prog f144 R QX) w) (aV prog f144 R QX))) w1) (QX (.exit 2) (Hr  (aB j 0::aB j 1::jp s2::aB j 2::aB j 3::aB j 4::ab e::ae j 5 44 (ab e::a7 s2 1::af a b c::cd b::ad (e<(b:Nat))::ae j 54 44 []))) w)):=by kernel_rfl
theorem Uo (env:al)(w:aj)(Q:bH):W prog (sub (ay f144) [1,1,1,1,0,1,0,0,1,0,0,1]) env Q w=W prog (sub (ay f144) [1,1,1,1,0,1,0,0,1,0,0,1,0]) env (aM (λenv w=>W prog (sub (ay f144) [1,1,1,1,0,1,0,0,1,0,0,1,1]) env Q w) Q) w:=by rw[show sub (ay f144) [1,1,1,1,0,1,0,0,1,0,0,1]=.seq (sub (ay f144) [1,1,1,1,0,1,0,0,1,0,0,1,0]) (sub (ay f144) [1,1,1,1,0,1,0,0,1,0,0,1,1]) by kernel_rfl];generalize sub (ay f144) [1,1,1,1,0,1,0,0,1,0,0,1,0]=a;generalize sub (ay f144) [1,1,1,1,0,1,0,0,1,0,0,1,1]=b;kernel_rfl
theorem VR (a:aw)(e s8:Int)(j:al)(w:aj)(R:bg)(QX:bH):W prog (sb f144 [1,1,1,1,0,1,0,0,1,0,0,1,0]) (Hq a e s8 j) (aV prog f144 R QX) w=(ck w λw1 u=>cond (e>0) (dS u (br a 1) λb c d=>bk b c (i64.wrap (e-1)) 9 λA=>cA u A λf=>dS u (br a 1) λg h i=>bk g h e 9 λx=>cA u x λk=>cond (f>=k) (QX .normal (qP a e true (ae j 0 6 (ab s8::ae j 6 59 (ab e::ad (e>0)::ad true::a7 a 1::af b c d::ab e::ab (i64.wrap (e-1))::jp A::jp A::ab f::a7 a 1::af g h i::ab e::jp x::jp x::ab k::ad (f>=k)::ad (f>=k)::ad true::a1 8 [ad true,ad true,undef,undef])))) w1) (dS u (br a 1) λl m n=>bk l m e 9 λy=>hd u (br y 1) λo=>c6 190 #[ag o] w1 λp B=>u B/\cond (!p) (QX .normal (qP a e true (ae j 0 6 (ab s8::ae j 6 59 [ab e,ad (e>0),ad true,a7 a 1,af b c d,ab e,ab (i64.wrap (e-1)),jp A,jp A,ab f,a7 a 1,af g h i,ab e,jp x,jp x,ab k,ad (f>=k),ad (f>=k),ad false,a7 a 1,af l m n,ab e,jp y,a7 y 1,ag o,ad p,ad (!p),ad (!p),ad true,undef,undef]))) B) (QX .normal (qP a e ((s8:Int) != 0) (ae j 0 6 (ab s8::ae j 6 59 [ab e,ad (e>0),ad true,a7 a 1,af b c d,ab e,ab (i64.wrap (e-1)),jp A,jp A,ab f,a7 a 1,af g h i,ab e,jp x,jp x,ab k,ad (f>=k),ad (f>=k),ad false,a7 a 1,af l m n,ab e,jp y,a7 y 1,ag o,ad p,ad (!p),ad (!p),ad false,ab s8,ad ((s8:Int) != 0)]))) B))) (dS u (br a 1) λq r s=>bk q r e 9 λz=>hd u (br z 1) λt=>c6 190 #[ag t] w1 λv C=>u C/\cond (!v) (QX .normal (qP a e true (ae j 0 6 (ab s8::ae j 6 59 (ab e::ad (e>0)::ad false::a1 14 [ad false,ad false,a7 a 1,af q r s,ab e,jp z,a7 z 1,ag t,ad v,ad (!v),ad (!v),ad true,undef,undef])))) C) (QX .normal (qP a e ((s8:Int) != 0) (ae j 0 6 (ab s8::ae j 6 59 (ab e::ad (e>0)::ad false::a1 14 [ad false,ad false,a7 a 1,af q r s,ab e,jp z,a7 z 1,ag t,ad v,ad (!v),ad (!v),ad false,ab s8,ad ((s8:Int) != 0)])))) C))):=by kernel_rfl
theorem VS  (j:al) (w:aj) (R:bg) (QX:bH):W prog (sb f144 [1,1,1,1,1]) (Hr  j) (aV prog f144 R QX) w=(R (ab 0) w):=by kernel_rfl
theorem VT (a:aw)(c:Int)(b:Bool)(j:al)(w:aj)(R:bg)(QX:bH):W prog (sb f144 [1,1,1,1,0,1,0,0,1,0,0,1,1]) (qP a c b j) (aV prog f144 R QX) w=(cond b (R (ab 1) w) (QX .normal (xO a c (ae j 0 97 [ad b])) w)):=by kernel_rfl
theorem pm (a:aw)(b:Int)(j:al)(w:aj)(R:bg)(QX:bH):W prog (sb f144 [1,1,1,1,0,1,0,0,1,1]) (xO a b j) (aV prog f144 R QX) w=(QX .normal (u0 a (i64.wrap (b+1)) (ae j 0 54 (ab b::ab (i64.wrap (b+1))::ae j 56 42 []))) w):=by kernel_rfl
def x8 (e:an)(a b:Nat)(s1:an)(c d:Nat)(f:Int)(j:al):al:=af e a b::af s1 c d::ae j 0 3 (ab f::ae j 3 20 [])
def Hx  (j:al):al:=ae j 0 26 []
theorem Yt (e:an)(a b:Nat)(f:an)(c d:Nat)(w:aj)(R:bg):bc prog f145 [af e a b,af f c d] R w=(cond ((a:Int) != (c:Nat)) (R (ad false) w) (cj prog (cN f145 [1,1,0,1,0,0]) (x8 e a b f c d 0 (a1 2 (ad false::af e a b::cd a::af f c d::cd c::ad ((a:Int) != (c:Nat))::a1 15 []))) (aL 0 (aS f145 [1,1,1] R)) w)):=by kernel_rfl
theorem UG (g:an)(a b:Nat)(s1:an)(c d:Nat)(e:Int)(j:al)(w:aj)(R:bg)(i:al->aK):W prog (sb f145 [1,1,0,1,0,0]) (x8 g a b s1 c d e j) (aM i (aL 0 (aS f145 [1,1,1] R))) w=(cond (e<(a:Nat)) (ck w λw1 k=>bk g a e 1 λl=>hd k l λx=>bk s1 c e 1 λf=>hd k f λh=>cond (x != h) (R (ad false) w1) (i (x8 g a b s1 c d (i64.wrap (e+1)) (ae j 0 8 [ab e,af g a b,cd a,ad (e<(a:Nat)),ab e,ab (i64.wrap (e+1)),af g a b,ab e,jp l,ag x,af s1 c d,ab e,jp f,ag h,ad ((x:Int) != h)])) w1)) (W prog (sb f145 [1,1,1]) (Hx  (af g a b::af s1 c d::aB j 0::aB j 1::aB j 2::ab e::ae j 3 5 (ab e::af g a b::cd a::ad (e<(a:Nat))::ae j 12 11 []))) (bV f145 R) w)):=by kernel_rfl
theorem WP  (j:al) (w:aj) (R:bg):W prog (sb f145 [1,1,1]) (Hx  j) (bV f145 R) w=(R (ad true) w):=by kernel_rfl
def yz (s1:aw)(c:an)(a b:Nat)(d:Int)(j:al):al:=ae j 0 1 (.pointer (some s1)::ae j 1 1 (af c a b::ab d::ae j 2 55 []))
def Ic (c:an)(a b:Nat)(j:al):al:=ae j 0 3 (af c a b::ae j 3 56 [])
def yA (s1:aw)(c:an)(a b:Nat)(d e:Int)(j:al):al:=ae j 0 1 (.pointer (some s1)::ae j 1 1 (af c a b::ab d::ab e::ae j 2 54 []))
def Ie (a:aw)(d:an)(b c:Nat)(e:Int)(j:al):al:=ae j 0 1 (.pointer (some a)::ae j 1 1 (af d b c::ab e::ae j 2 55 []))
theorem JO (g:cX)(w:aj)(R:bg):bc prog f146 [g.val] R w=(aR w g.cells.toArray 144 λb1 w1=>iZ w1 (ah b1 0) λr=>cx 144 #[r.val,ab 256] w1 λa e=>cond (a != 0) (R (a4) e) (bN e (ah b1 0) λb=>bY e (ah b1 1) λc d f=>aR e #[ag (u64.wrap b),ag (u64.wrap (d:Nat))] 30 λaz h=>cj prog (cN f146 [1,1,1,0,1,0,0]) (yz (ah b1 0) (bs az) 2 2 0 (g.val::a4::undef::r.val::ab a::ad ((a:Int) != 0)::jp (ah b1 0)::ab b::ag (u64.wrap b)::jp (ah b1 1)::af c d f::cd d::ag (u64.wrap (d:Nat))::af (bs az) 2 2::a1 43 [])) (aL 0 (aS f146 [1,1,1,1] R)) h)):=by kernel_rfl
theorem Xg (s1:aw)(t:an)(a b:Nat)(e:Int)(j:al)(w:aj)(R:bg)(u:al->aK):W prog (sb f146 [1,1,1,0,1,0,0]) (yz s1 t a b e j) (aM u (aL 0 (aS f146 [1,1,1,1] R))) w=(bY w (br s1 1) λc d f=>cond (e<(d:Nat)) (ck w λw1 s=>dS s (br s1 1) λg h i=>bk g h e 9 λx=>cA s x λk=>dS s (br s1 1) λl m n=>bk l m e 9 λr=>hd s (br r 1) λo=>aR w1 #[ag (u64.wrap k),ag o] 30 λb1 y=>s y/\da 94 (af t a b) (af (bs b1) 2 2) y λap p q z=>s z/\cj prog (cN f146 [1,1,1,0,1,0,0,1,0,0,1,1,0,0]) (yA s1 ap p q e 0 (aB j 0::aB j 1::ae j 3 11 (ab e::a7 s1 1::af c d f::cd d::ad (e<(d:Nat))::aB j 19::aB j 20::af t a b::a7 s1 1::af g h i::ab e::jp x::jp x::ab k::ag (u64.wrap k)::a7 s1 1::af l m n::ab e::jp r::a7 r 1::ag o::af (bs b1) 2 2::af ap p q::ae j 37 20 []))) (aL 2 (aL 1 (aM (λenv w=>W prog (sb f146 [1,1,1,0,1,0,0,1,1]) env (aM u (aL 0 (aS f146 [1,1,1,1] R))) w) (aM u (aL 0 (aS f146 [1,1,1,1] R)))))) z) (W prog (sb f146 [1,1,1,1]) (Ic t a b (aB j 0::jp s1::aB j 1::ab e::ae j 2 12 (ab e::a7 s1 1::af c d f::cd d::ad (e<(d:Nat))::ae j 19 38 []))) (bV f146 R) w)):=by kernel_rfl
theorem Yu (e:an)(a b:Nat)(j:al)(w:aj)(R:bg):W prog (sb f146 [1,1,1,1]) (Ic e a b j) (bV f146 R) w=(iJ 191 #[af e a b] w λc w1=>aR w1 #[ag c] 30 λb1 g=>da 94 (af e a b) (af (bs b1) 1 1) g λap d f h=>R (af ap d f) h):=by kernel_rfl
theorem Xh (s1:aw)(l:an)(a b:Nat)(k e:Int)(j:al)(w:aj)(R:bg)(n:al->aK)(p:al->aK):W prog (sb f146 [1,1,1,0,1,0,0,1,0,0,1,1,0,0]) (yA s1 l a b k e j) (aM p (aL 2 (aL 1 (aM (λenv w=>W prog (sb f146 [1,1,1,0,1,0,0,1,1]) env (aM n (aL 0 (aS f146 [1,1,1,1] R))) w) (aM n (aL 0 (aS f146 [1,1,1,1] R))))))) w=(cond (e<7) (bY w (br s1 1) λc d f=>bk c d k 9 λo=>gC (br o 2) 7 e 1 λi=>dp w i λx=>aR w #[ag x] 30 λb1 w1=>da 94 (af l a b) (af (bs b1) 1 1) w1 λap g h q=>p (yA s1 ap g h k (i64.wrap (e+1)) (ae j 0 36 (ab e::ad (e<7)::ab e::ab (i64.wrap (e+1))::af l a b::a7 s1 1::af c d f::ab k::ab e::jp o::a7 o 2::jp i::ag x::af (bs b1) 1 1::af ap g h::ae j 51 5 []))) q) (W prog (sb f146 [1,1,1,0,1,0,0,1,1]) (Ie s1 l a b k (aB j 0::aB j 1::ab e::ae j 2 34 (ab e::ad (e<7)::ae j 38 18 []))) (aM n (aL 0 (aS f146 [1,1,1,1] R))) w)):=by kernel_rfl
theorem Yv (a:aw)(f:an)(b c:Nat)(d:Int)(j:al)(w:aj)(R:bg)(e:al->aK):W prog (sb f146 [1,1,1,0,1,0,0,1,1]) (Ie a f b c d j) (aM e (aL 0 (aS f146 [1,1,1,1] R))) w=(e (yz a f b c (i64.wrap (d+1)) (ae j 0 19 (ab d::ab (i64.wrap (d+1))::ae j 21 36 []))) w):=by kernel_rfl
theorem ZJ (b a:Int)(w:aj)(R:bg):bc prog f188 [ab b,ab a] R w=(cond (a>=98) (cond (a<=256) (cond (b>=96) (R (ad (b<a)) w) (R (ad false) w)) (R (ad false) w)) (R (ad false) w)):=by kernel_rfl
theorem JP (a:Int)(w:aj)(R:bg):bc prog f189 [ag a] R w=(cond (((cD .u64 a 8):Int)<1) (R (.tuple #[ag 0,ab 2]) w) (cond (((u64.wrap ((cD .u64 a 8)+1)):Int)>=281474976710656) (R (.tuple #[ag 0,ab 2]) w) (R (.tuple #[ag (hk .u64 (u64.wrap ((cD .u64 a 8)+1)) 8),ab 0]) w))):=by kernel_rfl
theorem Y6 (a:Int)(w:aj)(R:bg):bc prog f190 [ag a] R w=(R (ad (((ee .u64 a 255):Int) == 0)) w):=by kernel_rfl
def yp (c:an)(a b:Nat)(d e:Int)(j:al):al:=af c a b::ae j 0 2 (ag d::ab e::ae j 2 14 [])
def H9 (a:Int)(j:al):al:=ae j 0 3 (ag a::ae j 3 15 [])
theorem Z6 (c:an)(a b:Nat)(w:aj)(R:bg):bc prog f191 [af c a b] R w=(cj prog (cN f191 [1,1,0,1,0,0]) (yp c a b 0 0 (undef::ag 0::a1 14 [])) (aL 0 (aS f191 [1,1,1] R)) w):=by kernel_rfl
theorem W0 (h:an)(a b:Nat)(i e:Int)(j:al)(w:aj)(R:bg)(k:al->aK):W prog (sb f191 [1,1,0,1,0,0]) (yp h a b i e j) (aM k (aL 0 (aS f191 [1,1,1] R))) w=(cond (e<(a:Nat)) (bk h a e 1 λl=>dp w l λx=>eV 232 #[ag x] w λc d f w1=>iJ 231 #[ag i,af c d f] w1 λg n=>k (yp h a b g (i64.wrap (e+1)) [aB j 0,aB j 1,ab e,af h a b,cd a,ad (e<(a:Nat)),ab e,ab (i64.wrap (e+1)),ag i,af h a b,ab e,jp l,ag x,af c d f,ag g,aB j 15]) n) (W prog (sb f191 [1,1,1]) (H9 i (af h a b::aB j 0::aB j 1::ab e::ab e::af h a b::cd a::ad (e<(a:Nat))::ae j 6 10 [])) (bV f191 R) w)):=by kernel_rfl
theorem Yj (a:Int)(j:al)(w:aj)(R:bg):W prog (sb f191 [1,1,1]) (H9 a j) (bV f191 R) w=(R (ag a) w):=by kernel_rfl
def yt (s1:an)(a b:Nat)(c d:Int)(j:al):al:=ae j 0 1 (af s1 a b::ae j 1 3 (ag c::ab d::ae j 4 31 []))
def HS (a:Int)(j:al):al:=ae j 0 5 (ag a::ae j 5 32 [])
def vd (s1:an)(a b:Nat)(c d e:Int)(j:al):al:=ae j 0 1 (af s1 a b::ae j 1 3 (ag c::ab d::ab e::ae j 4 30 []))
def HT (s1:an)(a b:Nat)(c d:Int)(j:al):al:=ae j 0 1 (af s1 a b::ae j 1 3 (ag c::ab d::ae j 4 31 []))
theorem ZK (c:Int)(d:an)(a b:Nat)(w:aj)(R:bg):bc prog f231 [ag c,af d a b] R w=(cj prog (cN f231 [1,1,0,1,0,0]) (yt d a b (fc .u64 18446744073709551615 c) 0 (ag c::a1 2 (ag 0::a1 2 (ag c::ag (fc .u64 18446744073709551615 c)::a1 27 [])))) (aL 0 (aS f231 [1,1,1] R)) w):=by kernel_rfl
theorem WQ (s1:an)(a b:Nat)(d c:Int)(j:al)(w:aj)(R:bg)(e:al->aK):W prog (sb f231 [1,1,0,1,0,0]) (yt s1 a b d c j) (aM e (aL 0 (aS f231 [1,1,1] R))) w=(cond (c<(a:Nat)) (bk s1 a c 1 λf=>Iq w f λx=>cj prog (cN f231 [1,1,0,1,0,0,1,0,0,1,1,0,0]) (vd s1 a b (fc .u64 d (u64.wrap x)) c 0 (ae j 0 4 (aB j 5::aB j 6::aB j 7::ab c::af s1 a b::cd a::ad (c<(a:Nat))::aB j 12::aB j 13::ag d::af s1 a b::ab c::jp f::.int .u8 x::ag (u64.wrap x)::ag (fc .u64 d (u64.wrap x))::ae j 21 14 []))) (aL 2 (aL 1 (aM (λenv w=>W prog (sb f231 [1,1,0,1,0,0,1,1]) env (aM e (aL 0 (aS f231 [1,1,1] R))) w) (aM e (aL 0 (aS f231 [1,1,1] R)))))) w) (W prog (sb f231 [1,1,1]) (HS d (aB j 0::af s1 a b::aB j 1::aB j 2::aB j 3::ab c::ae j 4 4 (ab c::af s1 a b::cd a::ad (c<(a:Nat))::ae j 12 23 []))) (bV f231 R) w)):=by kernel_rfl
theorem X8 (a:Int)(j:al)(w:aj)(R:bg):W prog (sb f231 [1,1,1]) (HS a j) (bV f231 R) w=(R (ag (fc .u64 18446744073709551615 a)) w):=by kernel_rfl
theorem WR (s1:an)(a b:Nat)(c e d:Int)(j:al)(w:aj)(R:bg)(f:al->aK)(g:al->aK):W prog (sb f231 [1,1,0,1,0,0,1,0,0,1,1,0,0]) (vd s1 a b c e d j) (aM g (aL 2 (aL 1 (aM (λenv w=>W prog (sb f231 [1,1,0,1,0,0,1,1]) env (aM f (aL 0 (aS f231 [1,1,1] R))) w) (aM f (aL 0 (aS f231 [1,1,1] R))))))) w=(cond (d<8) (cond (((ee .u64 c 1):Int) == 1) (g (vd s1 a b (fc .u64 (cD .u64 c 1) 14514072000185962306) e (i64.wrap (d+1)) (ae j 0 4 (ag (ee .u64 c 1)::ae j 5 15 [ab d,ad (d<8),ab d,ab (i64.wrap (d+1)),ag c,ag (ee .u64 c 1),ag c,ag (cD .u64 c 1),ag (ee .u64 c 1),ad (((ee .u64 c 1):Int) == 1),ag (cD .u64 c 1),ag (fc .u64 (cD .u64 c 1) 14514072000185962306),aB j 32,aB j 33]))) w) (g (vd s1 a b (cD .u64 c 1) e (i64.wrap (d+1)) (ae j 0 4 (ag (ee .u64 c 1)::ae j 5 15 (ab d::ad (d<8)::ab d::ab (i64.wrap (d+1))::ag c::ag (ee .u64 c 1)::ag c::ag (cD .u64 c 1)::ag (ee .u64 c 1)::ad (((ee .u64 c 1):Int) == 1)::ae j 30 4 [])))) w)) (W prog (sb f231 [1,1,0,1,0,0,1,1]) (HT s1 a b c e (ae j 0 4 (ab d::ae j 4 16 (ab d::ad (d<8)::ae j 22 12 [])))) (aM f (aL 0 (aS f231 [1,1,1] R))) w)):=by kernel_rfl
theorem X9 (s1:an)(a b:Nat)(e c:Int)(j:al)(w:aj)(R:bg)(d:al->aK):W prog (sb f231 [1,1,0,1,0,0,1,1]) (HT s1 a b e c j) (aM d (aL 0 (aS f231 [1,1,1] R))) w=(d (yt s1 a b e (i64.wrap (c+1)) (ae j 0 12 (ab c::ab (i64.wrap (c+1))::ae j 14 21 []))) w):=by kernel_rfl
def x' (c:Int)(d:an)(a b:Nat)(e:Int)(j:al):al:=ag c::ae j 0 2 (af d a b::ab e::ae j 2 15 [])
def HU (c:an)(a b:Nat)(j:al):al:=ae j 0 3 (af c a b::ae j 3 16 [])
theorem ZL (a:Int)(w:aj)(R:bg):bc prog f232 [ag a] R w=(pM 8 8 1 (.cells (ju (Int.toNat 8) [.int .u8 0]).toArray 5) w λb1 w1=>cj prog (cN f232 [1,1,0,1,0,0]) (x' a (bs b1) (Int.toNat 8) (Int.toNat 8) 0 (undef::a4::af (bs b1) (Int.toNat 8) (Int.toNat 8)::a1 14 [])) (aL 0 (aS f232 [1,1,1] R)) w1):=by kernel_rfl
theorem WS (d:Int)(e:an)(a b:Nat)(c:Int)(j:al)(w:aj)(R:bg)(f:al->aK):W prog (sb f232 [1,1,0,1,0,0]) (x' d e a b c j) (aM f (aL 0 (aS f232 [1,1,1] R))) w=(cond (c<8) (0<=(u64.wrap (i64.wrap (8*c)))/\bk e a c 1 λg=>cM w g (.int .u8 (IntKind.u8.wrap (cD .u64 d (u64.wrap (i64.wrap (8*c)))))) λw1=>f (x' d e a b (i64.wrap (c+1)) [aB j 0,aB j 1,aB j 2,ab c,ad (c<8),ab c,ab (i64.wrap (c+1)),af e a b,ab c,ag d,ab c,ab (i64.wrap (8*c)),ag (u64.wrap (i64.wrap (8*c))),ag (cD .u64 d (u64.wrap (i64.wrap (8*c)))),.int .u8 (IntKind.u8.wrap (cD .u64 d (u64.wrap (i64.wrap (8*c))))),jp g,aB j 16]) w1) (W prog (sb f232 [1,1,1]) (HU e a b (ag d::aB j 0::aB j 1::ab c::aB j 2::ab c::ad (c<8)::ae j 5 12 [])) (bV f232 R) w)):=by kernel_rfl
theorem X_ (c:an)(a b:Nat)(j:al)(w:aj)(R:bg):W prog (sb f232 [1,1,1]) (HU c a b j) (bV f232 R) w=(R (af c a b) w):=by kernel_rfl
end
end Go.Proofs.YtmkljjbioomepaaGreat
