import Derived.Test.YtmkljjbioomepaaGreatc20
import Derived.Test.YtmkljjbioomepaaGreatProg
import Derived.Test.YtmkljjbioomepaaGreatc03
set_option linter.all false
set_option maxHeartbeats 4000000
set_option maxRecDepth 100000
namespace Go.Proofs.YtmkljjbioomepaaGreat
open Go.Proofs.Tryz Go.br
variable {A:a5} {B b i n tb:Nat} {G:List (List aL)} {K:bB->aE} {Q:cA} {R:cn} {T:gg} {a:al} {f:Int} {j:cS} {o:bB} {r:dv} {u bq w w0 z:ak}
section
theorem pA {vs:List aP} (h:(cb G vs f).ok=true):(cb G vs f).ask=none/\(cb G vs f).dC=false/\(cb G vs f).out=(0,0):=by
 unfold cb at h ⊢;split at h
 ·cases h
 ·rename_i a;rw [if_neg a];split at h
  ·cases h
  ·rename_i b;rw [if_neg b];exact ⟨rfl,rfl,rfl⟩
theorem gv.ok (h:gv A w0 u tb B R bq) (e:R.ask=none) (hw:R.dC=false) (k:Bool) (d:List aL) (o:Int×Int):gv A w0 u tb B ⟨k,d,o,R.a7,none,false⟩ bq:=by obtain ⟨f,c,g,b,a⟩:=h;rw [e] at a;exact ⟨f,c,g,by rw [b,hw],a⟩
theorem gv.clean (h:gv A w0 u tb B R bq) (d:R.ask=none) (hw:R.dC=false):∃ b,eO A w0 bq tb b R.a7/\fT b:=by obtain ⟨f,b,e,c,a⟩:=h;rw [d] at a;exact ⟨b,e,a,by rw [c,hw]⟩
theorem Dp {α:Type} {cells:α->ax} {sz:Nat} (c:∀ x,(cells x).length=sz) (f:0<sz) {S:aE} {l:List α} (g:∀ y,S y->bh y a (l.map cells).flatten) (hu:S u) {x:α} (d:l[i]?=some x) {z:Int} (au:z=i) (s:n=l.length) {K:aU->Prop}
  (k:∀ b o,(∀ y,S y->∀ (q:Nat) (v:a4),(cells x)[q]?=some v->y.cell? ⟨b,o+q,none⟩=some v)->K ⟨b,o,none⟩):bk a n z sz K:=by
 subst au s;have p:=ch d;have h:∀ r ∈ l.map cells,r.length=sz:=λr t=>by obtain ⟨y,_,rfl⟩:=cW.1 t;exact c y
 obtain ⟨b,o,rfl,A,B⟩:=(g u hu).row (sz:=sz) h f (i:=i) (r:=cells x) (by simp [d]);refine ed (by omega) (by omega) ?_;have:=k b (o+i * sz) λy w q v an=>by obtain ⟨b',C,e,_,j⟩:=(g y w).row (sz:=sz) h f (i:=i) (r:=cells x) (by simp [d]);simp at e;obtain ⟨rfl,rfl⟩:=e;exact j q v an
 simpa using this
theorem OX {zs:ax} (au:av u b zs eQ) (n:zs.length=2) (c f:Int) (l:∀ g,ao (λk=>k=b) u g->K ⟨c,f⟩ g) :
  eh u ⟨b,0,none⟩ 0 [(.int .i64 c),(.int .i64 f)]/\∀ a,a=ct u ⟨b,0,none⟩ 0 [(.int .i64 c),(.int .i64 f)]->bB.ex λr=>b6 a ⟨b,0,none⟩ 0 r.cells/\eh a ⟨b,0,none⟩ 0 r.cells/\∀ d,d=ct a ⟨b,0,none⟩ 0 r.cells->bB.ex λres=>b6 d ⟨b,0,none⟩ 0 res.cells/\d=d/\K res d:=
 dO au (vs:=bB.cells ⟨c,f⟩) (by rw [n];rfl) (bB.single _) λa j h=>y8 j λg i=>l g (h.trans i λ_ _ e=>e)
theorem S_ {l:bb} (h:bh u a (us l)) {x:Int} (d:l[i]?=some x) {z:Int} (au:z=i) (j:n=l.length) {K:aU->Prop}
  (f:∀ b o,(∀ y,ai u y->y.cell? ⟨b,o,none⟩=some (.int .u64 x))->K ⟨b,o,none⟩):bk a n z 1 K:=by
 subst au j;have g:=ch d;have c:(us l)[i]?=some (.int .u64 x):=by simp [us,d]
 rcases h with he | ⟨b,o,rfl,e⟩
 ·rw [he] at c;cases c
 ·refine ed (by omega) (by omega) ?_;have:=f b (o+i) λy k=>(bh.new k (.inr ⟨b,o,rfl,e⟩)).cell c
  simpa using this
theorem A6:∀ (b:bb) (c:List aL),ie (b.take c.length) c=ie b c
 | [],c=>by simp
 |x::b,[]=>by simp [ie]
 |x::b,d::c=>by simp only [hh,List.take_succ_cons,ie];rw [A6 b c]
theorem A7:∀ (a:List aP) (b:bb) (c:List aL),hH (a.take c.length) (b.take c.length) c=hH a b c
 | [],b,c=>by simp [hH]
 |v::a,[],c=>by simp only [List.take_nil];cases c<;>simp [hH]
 |v::a,x::b,[]=>by simp [hH]
 |v::a,x::b,d::c=>by simp only [hh,List.take_succ_cons,hH];rw [A7 a b c]
variable {A:a5} {w0 u:ak} {aY tb b1:Nat} {r:dv} {bO:aZ} {j:cS}
structure n1 (A:a5) (w0 u z:ak) (aY tb b1:Nat) (r:dv) (bO:aZ) (j:cS) (R:cn):Prop where
 dg:e5 w0 z aY tb r bO j
 co:∃ o:bB,av z b1 o.cells eQ
 fO:∃ T,eO A w0 z tb T R.a7/\fT T
 az:ao (λk=>k=tb) u z
theorem n1.new {z b:ak} {R:cn} (h:n1 A w0 u z aY tb b1 r bO j R) (a:ai z b):n1 A w0 u b aY tb b1 r bO j R:=by obtain ⟨c,⟨o,d⟩,⟨T,e,f⟩,g⟩:=h;exact ⟨c.bx a,⟨o,ai.aj a d⟩,⟨T,e.new a,f⟩,g.new a⟩
theorem n1.P4 {c:ak} (h:n1 A w0 u z aY tb b1 r bO j R) {M:a5} (b:ao M z c) (a:∀ k,M k->w0.heap.size<=k/\u.heap.size<=k/\k≠aY/\k≠b1/\k≠tb):n1 A w0 u c aY tb b1 r bO j R:=by obtain ⟨d,⟨o,f⟩,⟨T,g,i⟩,l⟩:=h;exact ⟨d.az b λk e=>⟨(a k e).1,(a k e).2.2.1⟩,⟨o,b.aj f λe=>(a _ e).2.2.2.1 rfl⟩,⟨T,g.az b λe=>(a _ e).2.2.2.2 rfl,i⟩,l.trans b λk n e=>by have:=a k e;omega⟩
theorem L6 {n:ak} {vs us:List aP} (L:(cb G vs 1).ok=true) (J:n1 A w0 u z aY tb b1 r bO j (cb G vs 1)) (y:ai w0 n) (c:u.heap.size<=b1) (a:b1<n.heap.size) (M:tb<u.heap.size) (h:u.heap.size<=n.heap.size)
  {F:al} {un H:Nat} (an:bH n z F un H us) (hlen:us.length<=100000) (d:Bool) (N:ax)
  (dG:∀ v w',kG A w0 u tb u.heap.size (if d=false then ⟨true,[],(0,0),(cb G vs 1).a7,none,false⟩
   else if (cb (cb G vs 1).a7 us 1).ok=true then ⟨false,[],(7,1),(cb (cb G vs 1).a7 us 1).a7,none,false⟩ else cb (cb G vs 1).a7 us 1) v w'->Q v w') :
  W prog (sub (bo f173) [1,1,1,1,1,1,1,1,1]) (zM ⟨aY,0,none⟩ ⟨b1,0,none⟩ F un H d N) (dB prog f173 Q) z:=by
 rw [QV];obtain ⟨q,⟨o,p⟩,⟨T,C,k⟩,s⟩:=J;cases d with
 |false=>
  refine mc p rfl 0 0 λE e=>dG _ _ ⟨rfl,?_⟩
  have I:gv A w0 u tb n.heap.size ⟨true,[],(0,0),(cb G vs 1).a7,none,false⟩ z:=⟨s,T,C,k.dC,k.c5⟩;exact I.put (ao.refl _ _) (ao.refl _ _) e c a (by omega) h
 |true=>
  have i:=rq q C k y (by omega) an hlen 1;refine aC i ?_;rintro v O ⟨dA,dc,raw,rfl,t,_⟩;have f:=t.after s;have B:av O b1 o.cells eQ:=t.az.aj p (by omega);refine ⟨_,_,_,bB.aS ⟨(cb (cb G vs 1).a7 us 1).out.1,(cb (cb G vs 1).a7 us 1).out.2⟩ ⟨(cb (cb G vs 1).a7 us 1).ok,rfl,?_⟩⟩;refine dO B rfl (bB.single _) λu8 x l=>?_
  have D:=f.put (B':=u.heap.size) (ao.refl _ _) (ao.refl _ _) l c a (by omega) h;cases b:(cb (cb G vs 1).a7 us 1).ok with
  |true=>
   obtain ⟨K,hw,_⟩:=pA b;have w:=f.ok K hw false [] (7,1);have g:=w.put (B':=n.heap.size) (ao.refl _ _) (ao.refl _ _) l c a (by omega) (cO _);refine OX x rfl 7 1 λE e=>dG _ _ ?_
   simp only [Bool.true_eq_false,if_false,if_true,b];exact ⟨rfl,g.put (ao.refl _ _) (ao.refl _ _) e c a (by omega) h⟩
  |false=>
   have g:=f.put (B':=n.heap.size) (ao.refl _ _) (ao.refl _ _) l c a (by omega) (cO _);refine y8 x λE e=>dG _ _ ?_
   simp only [Bool.true_eq_false,if_false,if_true,b,re];refine ⟨?_,g.put (ao.refl _ _) (ao.refl _ _) e c a (by omega) h⟩;rw [b]
theorem L7 {pa:al} {pc:Nat} {V3:al} {V4:Nat} {bE:ak} (g:n2 w0 bE aY tb r bO j z pa n pc V3 V4 (dF j) (iD j)) (Vz:ai u bE) (X:ai w0 u) (WM:eO A w0 z tb T G) (V_:fT T) (V':av z b1 (bB.cells ⟨0,0⟩) eQ)
  (Vs:u.heap.size<=b1) (R:b1<bE.heap.size) (Wl:tb<u.heap.size) (WQ:aY<u.heap.size) (V2:ax) (dG:∀ v w',kG A w0 u tb u.heap.size (j0 j G) v w'->Q v w') :
  W prog (sub (bo f173) [1,1,1,1,1]) (zL ⟨aY,0,none⟩ ⟨b1,0,none⟩ pa n pc none 0 0 V3 n V4 V2) (dB prog f173 Q) z:=by
 rw [QU];have VS:=Vz.size;have WY:=X.size;have WV:=g.j6.len;have W2:=g.wl;have Wy:=g.dg.cj;have WT:=Wy.sM;have WU:=Wy.xn;have WA:n<=36:=by rw [WV];unfold dF;simp only [dH,fC];omega
 have VR:ai u z:=Vz.new g.new;have Vt:=rq g.dg WM V_ (X.new Vz) (by omega) g.j6 (by omega) 1;refine aC Vt ?_;rintro v W3 ⟨dA,dc,raw,rfl,I,Wj,VL,Wk⟩;refine ⟨_,_,_,bB.aS ⟨(cb G (dF j) 1).out.1,(cb G (dF j) 1).out.2⟩ ⟨(cb G (dF j) 1).ok,rfl,?_⟩⟩;have Wp:av W3 b1 (bB.cells ⟨0,0⟩) eQ:=I.az.aj V' (by omega);have VT:=I.after (ao.b3 VR);refine dO Wp rfl (bB.single _) λVE VD O=>?_
 unfold j0 at dG;cases E:(cb G (dF j) 1).ok with
 |false=>
  have VU:=VT.put (B':=bE.heap.size) (ao.refl _ _) (ao.refl _ _) O Vs R (by omega) (cO _);refine y8 VD λXj Wc=>dG _ _ ?_
  rw [if_pos E];refine ⟨?_,VU.put (ao.refl _ _) (ao.refl _ _) Wc Vs R (by omega) VS⟩;rw [E]
 |true=>
  rw [if_neg (by rw [E];simp)] at dG;obtain ⟨WN,hw,Xd⟩:=pA E;obtain ⟨WH,V6,VK⟩:=I.clean WN hw;have p:ao (λk=>k=tb\/k=b1) z VE:=(I.az.mono λk _ e=>.inl e).trans (O.mono λk _ e=>.inr e) λ_ _ e=>e
  have VH:n1 A w0 u VE aY tb b1 r bO j (cb G (dF j) 1):=by
   refine ⟨g.dg.az p λk e=>?_,⟨_,VD⟩,⟨WH,V6.az O (by omega),VK⟩,((ao.b3 VR).trans I.az λ_ _ e=>e).trans O λk Vv e=>by omega⟩;have Wv:=g.dg.kC;have Ww:=g.dg.ne;rcases e with e | e
   ·exact ⟨by omega,by omega⟩
   ·exact ⟨by omega,by omega⟩
  have VV:bH bE VE pa n pc (dF j):=g.j6.zS g.fo p λk N e=>by have:=g.j6.f9 k N;omega
  have F:a2 VE n_ 1 V3 n V4 (us (iD j)):=g.own.az p λk N e=>by have:=g.um k N;omega
  obtain ⟨⟨w,VB,B⟩,W1,W0⟩:=VV;have V:=VB.rd;have VW:=g.fo;have VX:=F.rd;have J:=VH.dg.new;have Wz:=VD.lt;have WR:=VL.1;have WC:bE.heap.size<=VE.heap.size:=by have Wv:=g.new.size;have Ww:=p.size;omega
  clear F;refine c2 mix (λq env y=>∃ (i:Nat) (Vr:Bool) (VZ:al) (un V0:Nat) (V2:ax),q=raw.length - i/\i<=raw.length/\Vr=ie ((iD j).take i) ((cb G (dF j) 1).done.take i)/\env=rR ⟨aY,0,none⟩ ⟨b1,0,none⟩ pa n pc VZ un V0 V3 n V4 Vr dA raw.length dc raw.length i V2/\ai VE y/\bH VE y VZ un V0 (hH ((dF j).take i) ((iD j).take i) ((cb G (dF j) 1).done.take i))/\n1 A w0 u y aY tb b1 r bO j (cb G (dF j) 1)) raw.length
   ⟨0,false,none,0,0,_,rfl,by omega,rfl,rfl,ao.refl _ _,bH.nil _ _,VH⟩ ?_
  rintro q env y ⟨i,Vr,VZ,un,V0,V2,rfl,Xc,Vu,rfl,Vy,l,L⟩;rw [Qe];have WZ:=l.len;have WD:=@AA ((dF j).take i) ((iD j).take i) ((cb G (dF j) 1).done.take i);have WE:((dF j).take i).length<=n:=by rw [iG];omega
  refine a' (λVv=>?_) (λWS=>?_)
  ·have C:i<raw.length:=by omega
   obtain ⟨d,ar⟩:∃ d,raw[i]?=some d:=⟨_,bF C⟩;have WB:raw.length=(dF j).length:=Wk.resolve_left λe=>by rw [e] at C;simp at C
   obtain ⟨x,Wn⟩:∃ x,(cb G (dF j) 1).done[i]?=some x:=⟨_,bF (by omega)⟩;obtain ⟨V1,VC⟩:∃ V1,(iD j)[i]?=some V1:=⟨_,bF (by omega)⟩;obtain ⟨v1,VA⟩:∃ v1,(dF j)[i]?=some v1:=⟨_,bF (by omega)⟩;obtain ⟨r1,H⟩:∃ r1,w[i]?=some r1:=⟨_,bF (by have:=B.1;omega)⟩;have Wb:=VL.2 i d x ar Wn;have f:=B.2 i r1 v1 H VA;have s:=VW v1 (cg VA);have Wu:ie ((iD j).take (i+1)) ((cb G (dF j) 1).done.take (i+1))=(ie ((iD j).take i) ((cb G (dF j) 1).done.take i) || decide (dZ x≠V1)):=by rw [e7,e7,VC,Wn];exact BW (by rw [iG,iG];omega)
   have VF:hH ((dF j).take (i+1)) ((iD j).take (i+1)) ((cb G (dF j) 1).done.take (i+1))=hH ((dF j).take i) ((iD j).take i) ((cb G (dF j) 1).done.take i)++(if dZ x=V1/\v1.kind=3 then [rD v1] else []):=by rw [e7,e7,e7,VC,Wn,VA];exact BV (by rw [iG,iG];omega) (by rw [iG,iG];omega)
   refine eo (cells:=bR.cells) bR.len (by omega) (Wj.new (J.new Vy)) ar rfl rfl λb o V9 _=>bR.aS d ⟨V9,?_⟩
   refine ea (vs:=d.cells) rfl (bR.single _) λW7 W4 WO Wo VP=>?_
   rintro WF Y;have Vw:ai W4 WF:=by rw [Y];exact cD _
   clear Y;have D:=(Vy.new VP).new Vw;refine ⟨λy=>ai WF y,ao.refl _ _,bR.aS d ⟨λy K=>bK (ai.aj (Vw.new K) Wo) rfl,?_⟩⟩;refine S_ (VX.new D) VC rfl (by omega) λW8 Xe V8=>⟨V1,λy K=>V8 y K,?_⟩
   have M:=q1 (Wb.az (ao.b3 (J.new D)) λ_ _ e=>e);refine aC M ?_;rintro v Xk ⟨rfl,Vx⟩;have c:=D.new Vx;have a:=(VP.new Vw).new Vx;refine ⟨_,rfl,Vx,dw (λe=>?_) (λe=>?_)⟩
   ·rw [if_neg λh=>e h.1,iW] at VF;rw [bC (x:=(i:Int)+1) (by omega) (by omega)];exact ⟨raw.length - (i+1),by omega,i+1,true,VZ,un,V0,_,rfl,by omega,by rw [Wu];simp [e],rfl,c,by rw [VF];exact l.new a,L.new a⟩
   ·have VG:Vr=ie ((iD j).take (i+1)) ((cb G (dF j) 1).done.take (i+1)):=by rw [Wu,Vu];simp [e]
    have VO:r1.Kind=v1.kind:=by rw [f.eq];rfl
    refine eo (cells:=aG.cells) aG.len (by omega) (V.new c) H rfl (by have:=B.1;omega) λW9 Xf Wx Wg=>⟨_,Wg 0 _ rfl,dJ (λV5=>?_) (λV5=>?_)⟩
    ·rw [if_pos ⟨e,by rw [<-VO];exact V5⟩] at VF;refine eo (cells:=aG.cells) aG.len (by omega) (V.new c) H rfl (by have:=B.1;omega) λdn Xg VJ WW=>aG.aS r1 ⟨VJ,?_⟩
     refine ea (vs:=r1.cells) rfl (aG.single _) λWI W5 WP VY VQ=>?_
     rintro W6 Z;have P:ai W5 W6:=by rw [Z];exact cD _
     clear Z;have Wq:=ai.aj P VY;have t:=a2.new ((c.new VQ).new P) VB;have VI:∀ k,aK pa k->k≠WI:=λk N=>by obtain ⟨cs,Wa⟩:=fI VB N;have Wv:=Wa.lt;have Ww:=c.size;omega
     refine ⟨λy=>a2 y cy 9 pa n pc (dP w).flatten,t,?_⟩;refine Dp (S:=λy=>a2 y cy 9 pa n pc (dP w).flatten) (cells:=aG.cells) aG.len (by omega) (λy K=>K.rd) t H rfl (by have:=B.1;omega) λW_ Xh Wh=>⟨r1.ai,λy K=>Wh y K 5 _ rfl,?_⟩
     refine Dp (S:=λy=>a2 y cy 9 pa n pc (dP w).flatten) (cells:=aG.cells) aG.len (by omega) (λy K=>K.rd) t H rfl (by have:=B.1;omega) λXa Xi Wi=>⟨r1.Old,λy K=>Wi y K 4 _ rfl,?_⟩
     refine kF Wq (i:=4) rfl λXl Wr VN=>⟨t.az VN λk N e=>VI k N e,?_⟩
     refine kF Wr (i:=5) rfl λWG Ws Wd=>?_
     have WX:=P.size;have U:ai y WG:=(((a.new VQ).new P).trans VN λk Vv e=>by have:=a.size;omega).trans Wd λk Vv e=>by have:=a.size;omega
     refine aG.aS { r1 with Old:=r1.ai,ai:=r1.Old } ⟨bK Ws rfl,?_⟩;rintro Xb Xn V7 Wt;have Wm:cE (λk=>k<y.heap.size) WG { r1 with Old:=r1.ai,ai:=r1.Old } (rD v1):=by
      refine ⟨?_,?_,λ_=>s,.inl s,λz au=>?_,f.old,f.new,f.key,f.ee,f.cap,f.kI⟩
      ·have WJ:=f.eq;rw [WJ];rfl
      ·rw [show (rD v1).words=[] from s];exact .inl rfl
      ·rw [show (rD v1).words=[] from s] at au;cases au
     refine bH.lN l Vy U Wm (by omega) V7 Wt λap ac Xm WL We Wf=>?_
     rw [bC (x:=(i:Int)+1) (by omega) (by omega)];refine ⟨raw.length - (i+1),by omega,i+1,Vr,ap,un+1,ac,_,rfl,by omega,VG,rfl,Wf,by rw [VF];exact WL,(L.new U).P4 We λk N=>?_⟩;have:=l.f9 k N;exact ⟨by omega,by omega,by omega,by omega,by omega⟩
    ·rw [if_neg λh=>V5 (by rw [VO];exact h.2),iW] at VF;rw [bC (x:=(i:Int)+1) (by omega) (by omega)];exact ⟨raw.length - (i+1),by omega,i+1,Vr,VZ,un,V0,_,rfl,by omega,VG,rfl,c,by rw [VF];exact l.new a,L.new a⟩
  ·have VM:i=(cb G (dF j) 1).done.length:=by omega
   rw [VM,hv,A6] at Vu;rw [VM,hv,A7] at l;have WK:=@AA (dF j) (iD j) (cb G (dF j) 1).done;refine L6 E L J Vs (by omega) Wl (by omega) l (by omega) Vr _ λv w' an=>dG v w' ?_
   rw [Vu] at an;exact an
end
section
abbrev EE:TypeId:=274
theorem Nt {aY:Nat} {bO:aZ} (a:e5 w0 u aY tb r bO j) (VX:eO A w0 u tb T G) (VN:fT T) :
  a_ 173 [ptr aY] u (kG A w0 u tb u.heap.size (j0 j G)):=by
 refine bc Tryz.func173 ?_;rw [ptr,SB];rintro b1 bE VL VC;obtain ⟨L,J⟩:=bl VL VC;have L:av bE b1 (bB.cells ⟨0,0⟩) eQ:=L;clear VC;have Z:=a.bx J;have VK:=VX.new J;have hlen:=a.bN.bS.len;have V7:=J.size;have VQ:=L.lt;have VU:=VX.aj.lt;have Vs:=a.cj;have V1:=Vs.a3;have V2:=Vs.sM;have V3:=Vs.xn;have VP:=a.bN.a3;have w:=a.mem;have V6:=Vs.ee bO (cg w);have P:ec bO.ck:=by unfold ec;omega
 have VY:=Z.new.size;have Vx:r7 j=bO:=by
  unfold r7;cases Vy:j.v.mem with
  |nil=>rw [Vy] at w;cases w
  |cons x xs=>rw [Vy] at w;simp at w;subst w;rfl
 refine ⟨_,_,_,Z.aj.cell (i:=6) rfl,?_⟩;refine c2 mix (λq env z=>∃ (i:Nat) (pa:al) (pc:Nat) (V:al) (W:Nat) (VE:ax),q=j.writes.length - i/\i<=j.writes.length/\env=wC ⟨aY,0,none⟩ ⟨b1,0,none⟩ pa i pc none 0 0 V i W r.ei r.dI r.gq r.dI i VE/\n2 w0 bE aY tb r bO j z pa i pc V W ((j.writes.take i).map (lD j)) ((j.writes.take i).map (·.Head))) j.writes.length
  ⟨0,none,0,none,0,_,rfl,by omega,rfl,⟨Z,ao.refl _ _,bH.nil _ _,(λx VD=>by simp at VD),a2.nil _ _ _,(λk V5=>absurd V5 nr),rfl⟩⟩ ?_
 rintro q env z ⟨i,pa,pc,V,W,VE,rfl,V4,rfl,g⟩;rw [Qc,hlen];refine a' (λVR=>?_) (λVO=>?_)
 ·obtain ⟨p,K⟩:∃ p,j.writes[i]?=some p:=⟨_,bF (by omega)⟩;have H:=cg K;have F:=Vs.wl p H;have VS:=Vs.GQ p H;have VT:=a.bN.bS.u64 p H;refine eo (cells:=aJ.cells) aJ.len (by omega) (a.bN.bS.rd.new g.dg.new) K rfl rfl λb o Vr _=>aJ.aS p ⟨Vr,?_⟩
  refine ea (vs:=p.cells) rfl (aJ.single _) λO VV VM M Vu=>?_
  rintro VF e;have B:ai VV VF:=by rw [e];exact cD _
  clear e;have d:=Vu.new B;refine ⟨λy=>av y O p.cells ep/\e5 w0 y aY tb r bO j,⟨ai.aj B M,g.dg.bx d⟩,aJ.aS p ⟨λy C=>bK C.1 rfl,_,λy C=>C.2.aj.cell (i:=0) rfl,?_⟩⟩;refine aC (yi VF p VS.1 (by omega)) ?_;rintro v V_ ⟨rfl,Vz⟩;refine ⟨_,_,rfl,?_⟩;rintro VZ U;have VA:ai V_ VZ:=by rw [U];exact cD _
  clear U;have R:=(d.new Vz).new VA;have n:=ai.aj ((B.new Vz).new VA) M;have t:=g.dg.bx R;refine ⟨λy=>av y O p.cells ep/\e5 w0 y aY tb r bO j,⟨n,t⟩,aZ.aS bO ⟨λy C=>bK C.2.aj rfl,_,λy C=>C.1.cell (i:=0) rfl,_,λy C=>C.1.cell (i:=1) rfl,?_⟩⟩;refine aC (q4 VZ F.1 F.2) ?_;rintro v VW ⟨rfl,rfl⟩;refine ⟨_,rfl,⟨n,t⟩,?_⟩;rw [VP];have Vv:cE (λ_=>False) VW ⟨3,0,p.bn * 8,0,p.Head,eJ p.Head j.a3,none,0,0,0,0⟩ ⟨3,0,p.bn * 8,0,p.Head,eJ p.Head j.a3,[],0,0⟩:=pK (.inl rfl) rfl (by omega) (λ_=>rfl) (λx VD=>by cases VD) (by simp) VT (Dk _ _);have f:=sh t P Vv;refine aC f ?_;rintro v V' ⟨bj,rfl,I,c⟩;refine aG.aS bj ⟨rfl,⟨ai.aj c n,t.bx c⟩,?_⟩;rintro V0 Wa Y Vw;have X:=g.bx R;have D:addr j.v.number bO ⟨3,0,p.bn * 8,0,p.Head,eJ p.Head j.a3,[],0,0⟩=lD j p:=by unfold lD;rw [Vx]
  rw [D] at I;refine X.push c I rfl (by omega) (by omega) (ai.aj c n) (by decide) (by decide) (y:=p.Head) (S:=λy=>av y O p.cells ep/\e5 w0 y aY tb r bO j) (λN VI VJ=>⟨VI,VJ⟩) Y Vw (rd:=λN y=>N.cell? ⟨O,1,none⟩=some (.int .u64 y)) (λN h=>h.cell (i:=1) rfl) λap ac V8 dn V9 jw fa N E=>?_
  rw [bC (x:=(i:Int)+1) (by omega) (by omega)];have VG:(j.writes.take i).map (lD j)++[lD j p]=(j.writes.take (i+1)).map (lD j):=by rw [e7,K];simp
  have VH:(j.writes.take i).map (·.Head)++[p.Head]=(j.writes.take (i+1)).map (·.Head):=by rw [e7,K];simp
  rw [VG,VH] at E;exact ⟨j.writes.length - (i+1),by omega,i+1,ap,ac,jw,fa,_,rfl,by omega,by rw [<-hlen];rfl,E⟩
 ·have Vt:i=j.writes.length:=by omega
  subst Vt;simp only [hv] at g;rw [QT];have VB:=a.bN.len;refine ⟨_,_,_,g.dg.aj.cell (i:=5) rfl,?_⟩;refine c2 mix (λq env z=>∃ (i:Nat) (pa:al) (pc:Nat) (V:al) (W:Nat) (VE:ax),q=j.reads.length - i/\i<=j.reads.length/\env=wD ⟨aY,0,none⟩ ⟨b1,0,none⟩ pa (j.writes.length+i) pc none 0 0 V (j.writes.length+i) W r.Reads r.ja r.lv r.ja i VE/\n2 w0 bE aY tb r bO j z pa (j.writes.length+i) pc V W (j.writes.map (lD j)++(j.reads.take i).map (nW j)) (j.writes.map (·.Head)++(j.reads.take i).map (·.Head))) j.reads.length
   ⟨0,pa,pc,V,W,_,rfl,by omega,rfl,by rw [List.take_zero,rk,rk,iW,iW];exact g⟩ ?_
  rintro q env z ⟨i,pa,pc,V,W,VE,rfl,V4,rfl,g⟩;rw [Qd,VB];refine a' (λVR=>?_) (λVO=>?_)
  ·obtain ⟨p,K⟩:∃ p,j.reads[i]?=some p:=⟨_,bF (by omega)⟩;have H:=cg K;have F:=Vs.qW p H;refine eo (cells:=eP.cells) eP.len (by omega) (a.bN.rd.new g.dg.new) K rfl rfl λb o Vr _=>eP.aS p ⟨Vr,?_⟩
   refine ea (vs:=p.cells) rfl (eP.single _) λO VV VM M Vu=>?_
   rintro VF e;have B:ai VV VF:=by rw [e];exact cD _
   clear e;have d:=Vu.new B;have l:=ai.aj B M;have s:=g.dg.bx d;refine ⟨λy=>av y O p.cells EE/\e5 w0 y aY tb r bO j,⟨l,s⟩,aZ.aS bO ⟨λy C=>bK C.2.aj rfl,_,λy C=>C.1.cell (i:=0) rfl,?_⟩⟩;refine aC (q4 VF F.1 F.2) ?_;rintro v VW ⟨rfl,rfl⟩;refine ⟨_,rfl,⟨l,s⟩,?_⟩;have Vv:cE (λ_=>False) VW ⟨1,0,p.bn * 8,1,0,0,none,0,0,0,0⟩ ⟨1,0,p.bn * 8,1,0,0,[],0,0⟩:=pK (.inl rfl) rfl (by omega) (λ_=>rfl) (λx VD=>by cases VD) (by simp) hd hd;have f:=sh s P Vv;refine aC f ?_;rintro v V' ⟨bj,rfl,I,c⟩;refine aG.aS bj ⟨rfl,⟨ai.aj c l,s.bx c⟩,?_⟩;rintro V0 Wa Y Vw;have X:=g.bx d;have D:addr j.v.number bO ⟨1,0,p.bn * 8,1,0,0,[],0,0⟩=nW j p:=by unfold nW;rw [Vx]
   rw [D] at I;refine X.push c I rfl (by omega) (by omega) (ai.aj c l) (by decide) (by decide) (y:=p.Head) (S:=λy=>av y O p.cells EE/\e5 w0 y aY tb r bO j) (λN VI VJ=>⟨VI,VJ⟩) Y Vw (rd:=λN y=>N.cell? ⟨O,1,none⟩=some (.int .u64 y)) (λN h=>h.cell (i:=1) rfl) λap ac V8 dn V9 jw fa N E=>?_
   rw [bC (x:=(i:Int)+1) (by omega) (by omega)];have VG:j.writes.map (lD j)++(j.reads.take i).map (nW j)++[nW j p]=j.writes.map (lD j)++(j.reads.take (i+1)).map (nW j):=by rw [e7,K];simp
   have VH:j.writes.map (·.Head)++(j.reads.take i).map (·.Head)++[p.Head]=j.writes.map (·.Head)++(j.reads.take (i+1)).map (·.Head):=by rw [e7,K];simp
   rw [VG,VH] at E;exact ⟨j.reads.length - (i+1),by omega,i+1,ap,ac,jw,fa,_,rfl,by omega,by rw [<-VB];rfl,E⟩
  ·have Vt:i=j.reads.length:=by omega
   subst Vt;simp only [hv] at g;have Q:=g.new;refine L7 g J a.new (VK.new Q) VN (ai.aj Q L) (by omega) VQ VU a.aj.lt _ λv w' an=>an
end
section
open IntKind
variable (w:ak) (R:cA) {s:al} {a b:Nat} {A:aU} {i k:Int} {j:aq}
theorem Vb (L:dv):bf prog f92 [L.val,ae s a b] R w=(aR w L.cells.toArray 39 λaW P=>aR P #[ab 0,ab 0] 171 λA a1=>z9 a1 (af aW 0) λr=>cm 124 #[r.val] a1 λc M=>cond (c != 0) (a8 M (af A 0) 0 [ab c,ab 0] λC=>dT C (af A 0) λm=>C=C/\R (.tuple #[a6,m.val,ad true]) C) (cq M λQ B=>uv B (af aW 0) λu=>mx 115 #[ae s a b] Q λd K=>B K/\aR K #[ab u.Client,ab u.Seq,ab u.fF,ab u.View.Number,ae u.View.dL u.View.dN u.View.dW,ae u.Reads u.ja u.lv,ae u.ei u.dI u.gq,.pointer d,ab 0,ab 0,ad false] 212 λE H=>B H/\lP H (af aW 3) λn=>Calls prog 125 #[n.val] H λe Z=>aZ.ex λo=>∃ (f:Bool),e=.returned (.tuple #[o.val,ad f])/\a8 Z (af E 8) 0 o.cells λY=>SH 126 #[a9 E] Y λq p=>a8 p (af A 0) 0 q.cells λj=>mz j (af E 7) λt=>jq 118 #[.pointer t] j λg h i k v=>cond k (a8 v (af A 0) 0 [ab 0,ab 0] λx=>dT x (af A 0) λy=>x=x/\R (.tuple #[ae g h i,y.val,ad false]) x) (mz v (af E 7) λS=>du 119 #[.pointer S] v λl z=>cond l (a8 z (af A 0) 0 [ab 6,ab 0] λX=>cq X λO V=>F4 V (af A 0) λI=>a8 O (af A 0) 0 I.cells λF=>dT F (af A 0) λG=>F=F/\R (.tuple #[a6,G.val,ad true]) F) (cq z λJ N=>F4 N (af A 0) λW=>a8 J (af A 0) 0 W.cells λD=>dT D (af A 0) λT=>D=D/\R (.tuple #[a6,T.val,ad true]) D)))):=by kernel_rfl
def wu (s2:aU) (a:al) (b c:Nat) (d f:Int) (j:aq):aq:=ag j 0 2 (.pointer (some s2)::ag j 2 14 (ae a b c::ab d::ab f::ag j 16 13 []))
def Ff (a:aU) (j:aq):aq:=ag j 0 2 (.pointer (some a)::ag j 2 30 [])
theorem Sw:bf prog f126 [a9 a] R w=(aR w #[ab 0,ab 0] 171 λc b=>aR b #[.func (.func 172) #[a9 a] #[],.func (.func 173) #[a9 a] #[],.func (.func 174) #[a9 a] #[],.func (.func 175) #[a9 a] #[],.func (.func 176) #[a9 a] #[]] 277 λd e=>cu prog (c0 f126 [1,0,1,0,0]) (wu (af c 0) (bm d) 5 5 5 0 (jp (af a 0)::bd 5 (jp (af a 0)::.func (.func 172) #[a9 a] #[]::jp (af a 0)::.func (.func 173) #[a9 a] #[]::jp (af a 0)::.func (.func 174) #[a9 a] #[]::jp (af a 0)::.func (.func 175) #[a9 a] #[]::jp (af a 0)::.func (.func 176) #[a9 a] #[]::bd 13 []))) (aO 0 (aQ f126 [1,1] R)) e):=by kernel_rfl
theorem QW (m:aq->aE):W prog (sb f126 [1,0,1,0,0]) (wu A s a b i k j) (aV m (aO 0 (aQ f126 [1,1] R))) w=(cond (k<i) (bk s a k 1 λn=>∃ x,w.cell? n=some x/\iS prog x #[] w λe o=>bB.ex λh=>∃ g,e=.returned (.tuple #[h.val,ad g])/\aR o #[ab 0,ab 0] 171 λl p=>a8 p (af l 0) 0 h.cells λf=>cond (!g) (dT f (af l 0) λr=>a8 f A 0 r.cells λd=>dT d A λc=>d=d/\R c.val d) (m (wu A s a b i (i64.wrap (k+1)) (aF j 0::aF j 1::aF j 2::x::jp (af l 0)::ad g::ag j 6 10 [ad (k<i),jp n,x,.tuple #[h.val,ad g],x,.tuple #[h.val,ad g],h.val,ad g,ad g,ad (!g),aF j 26,ab (i64.wrap (k+1)),aF j 28])) f)) (W prog (sb f126 [1,1]) (Ff A (ag j 0 16 (ae s a b::ab i::ab k::ad (k<i)::ag j 17 12 []))) (b0 f126 R) w)):=by kernel_rfl
theorem Q7:W prog (sb f126 [1,1]) (Ff A j) (b0 f126 R) w=(a8 w A 0 [ab 0,ab 3] λa=>dT a A λb=>a=a/\R b.val a):=by kernel_rfl
end
section
def nw:List (List (List aL)->cn)->List (List aL)->cn
 | [],G=>rB G
 |f::a,G=>tw (f G) (nw a)
def q6 (j:cS):List (List (List aL)->cn):=[rC j,j0 j,tx j,nV j,nb j]
def runM (j:cS) (G:List (List aL)):cn:=nw (q6 j) G
def q7 (R:cn):Int×Int:=if R.ok=true then (0,3) else R.out
theorem RI:ic prog 172=true:=by kernel_rfl
theorem RJ:ic prog 173=true:=by kernel_rfl
theorem RK:ic prog 174=true:=by kernel_rfl
theorem RL:ic prog 175=true:=by kernel_rfl
theorem RM:ic prog 176=true:=by kernel_rfl
def zK (aY:Nat):ax:=[.func (.func 172) #[ptr aY] #[],.func (.func 173) #[ptr aY] #[],.func (.func 174) #[ptr aY] #[],.func (.func 175) #[ptr aY] #[],.func (.func 176) #[ptr aY] #[]]
variable {A:a5} {w0 u:ak} {aY tb:Nat} {r:dv} {bO:aZ} {j:cS}
theorem Nu (b:e5 w0 z aY tb r bO j) (ar:oX j) (c:eO A w0 z tb T G) (a:fT T) (e:i<5) :
  ∃ (f:FuncId) (F:List (List aL)->cn),(zK aY)[i]?=some (.func (.func f) #[ptr aY] #[])/\(q6 j)[i]?=some F/\ic prog f=true/\a_ f [ptr aY] z (kG A w0 z tb z.heap.size (F G)):=by
 have d:i=0\/i=1\/i=2\/i=3\/i=4:=by omega
 rcases d with rfl | rfl | rfl | rfl | rfl
 ·exact ⟨_,_,rfl,rfl,RI,Nr b ar c a⟩
 ·exact ⟨_,_,rfl,rfl,RJ,Nt b c a⟩
 ·exact ⟨_,_,rfl,rfl,RK,L4 b c a⟩
 ·exact ⟨_,_,rfl,rfl,RL,L5 b ar c a⟩
 ·exact ⟨_,_,rfl,rfl,RM,Lc b ar c a⟩
theorem JW {F:List (List aL)->cn} {l:List (List (List aL)->cn)} (h:l[i]?=some F) (G:List (List aL)):nw (l.drop i) G=tw (F G) (nw (l.drop (i+1))):=by have a:=ch h;rw [oM a];rw [bF a] at h;cases h;rfl
theorem Cm (G:List (List aL)):(rB G).ask=none/\(rB G).dC=false:=⟨rfl,rfl⟩
theorem Dq {j:cS} {a:Int} {ws:bb} (h:(nj j G a ws f).ok=true):(nj j G a ws f).ask=none/\(nj j G a ws f).dC=false:=by
 unfold nj at h ⊢;split
 ·exact Cm G
 ·rename_i b;rw [if_neg b] at h;exact ⟨(pA h).1,(pA h).2.1⟩
theorem Ld {j:cS} (h:(j0 j G).ok=true):(j0 j G).ask=none/\(j0 j G).dC=false:=by
 unfold j0 at h ⊢;split
 ·rename_i a;rw [if_pos a] at h;rw [a] at h;cases h
 ·rename_i a;rw [if_neg a] at h;split
  ·exact ⟨rfl,rfl⟩
  ·rename_i c;rw [if_neg c] at h;split
   ·rename_i b;rw [if_pos b] at h;cases h
   ·rename_i b;rw [if_neg b] at h;exact absurd h b
theorem Le {j:cS} (h:(nV j G).ok=true):(nV j G).ask=none/\(nV j G).dC=false:=⟨(pA h).1,(pA h).2.1⟩
theorem L8 {j:cS} (h:(nb j G).ok=true):(nb j G).ask=none/\(nb j G).dC=false:=by
 unfold nb at h ⊢;split
 ·exact Cm G
 ·rename_i a;rw [if_neg a] at h;exact ⟨(pA h).1,(pA h).2.1⟩
theorem Nv {j:cS} (i:Nat) (F:List (List aL)->cn) (h:(q6 j)[i]?=some F) (G:List (List aL)) (a:(F G).ok=true):(F G).ask=none/\(F G).dC=false:=by
 have b:=ch h;have c:i=0\/i=1\/i=2\/i=3\/i=4:=by unfold q6 at b;simp at b <;> omega
 rcases c with rfl | rfl | rfl | rfl | rfl<;>cases h
 ·exact Dq a
 ·exact Ld a
 ·exact Dq a
 ·exact Le a
 ·exact L8 a
attribute [local irreducible] ic iS mL
theorem OY (C:e5 w0 u aY tb r bO j) (ar:oX j) (Vr:eO A w0 u tb T G) (O:fT T) :
  a_ 126 [ptr aY] u λv bq=>v=bB.val ⟨(q7 (runM j G)).1,(q7 (runM j G)).2⟩/\gv A w0 u tb u.heap.size (runM j G) bq:=by
 refine bc Tryz.func126 ?_;rw [ptr,Sw];rintro b1 bE M H;obtain ⟨b,D⟩:=bl M H;have b:av bE b1 (bB.cells ⟨0,0⟩) eQ:=b;clear H;rintro aA VG N I;obtain ⟨d,E⟩:=bl N I;obtain ⟨ly,d⟩:∃ ly,av VG aA (zK aY) ly:=⟨_,d⟩;clear I;have g:=D.new E;have s:=ai.aj E b;have VB:=s.lt;have VC:=d.lt;have VF:=Vr.aj.lt;have Vs:=C.aj.lt;have VE:=D.size;refine c2 mix (λq env z=>∃ (i:Nat) (c:List (List aL)) (Vt:ax),q=5 - i/\i<=5/\env=wu ⟨b1,0,none⟩ (some ⟨aA,0,none⟩) 5 5 5 i Vt/\e5 w0 z aY tb r bO j/\(∃ T,eO A w0 z tb T c/\fT T)/\ao (λk=>k=tb) u z/\av z b1 (bB.cells ⟨0,0⟩) eQ/\av z aA (zK aY) ly/\runM j G=nw ((q6 j).drop i) c) 5
  ⟨0,G,_,rfl,by omega,rfl,C.bx g,⟨T,Vr.new g,O⟩,ao.b3 g,s,d,rfl⟩ ?_
 rintro q env z ⟨i,c,Vt,rfl,VM,rfl,l,⟨Vv,y,w⟩,n,b,d,a⟩;rw [QW];refine a' (λVD=>?_) (λVA=>?_)
 ·obtain ⟨f,F,Vz,Z,V,P⟩:=Nu l ar y w (i:=i) (by omega);rw [JW Z] at a;refine ed (by omega) (by omega) ⟨_,d.cell (i:=0+i * 1) (by rw [g3,Nat.mul_one];exact Vz),?_⟩;refine qU V (xs:=#[ptr aY]) (by simp) ?_;refine aC P ?_;rintro v VH ⟨rfl,p⟩;refine bB.aS ⟨(F c).out.1,(F c).out.2⟩ ⟨(F c).ok,rfl,?_⟩;refine ea (vs:=bB.cells ⟨(F c).out.1,(F c).out.2⟩) rfl (bB.single _) λVJ VI Vy X o=>?_
  have W:=n.size;have U:=b.lt;have h:=(p.after n).new o;have t:av VI b1 (bB.cells ⟨0,0⟩) eQ:=ai.aj o (p.az.aj b (by omega));have J:=ai.aj o (p.az.aj d (by omega));unfold tw at a;cases K:(F c).ok with
  |false=>
   rw [if_neg (by rw [K];simp)] at a;refine eB rfl ?_;refine bB.aS ⟨(F c).out.1,(F c).out.2⟩ ⟨bK X rfl,?_⟩;refine dO t rfl (bB.single _) λVN Y S=>?_
   refine bB.aS ⟨(F c).out.1,(F c).out.2⟩ ⟨bK Y rfl,rfl,?_,?_⟩
   ·rw [a];unfold q7;rw [if_neg (by rw [K];simp)]
   ·rw [a];exact h.put (ao.refl _ _) (ao.refl _ _) S (by omega) (by omega) (by omega) (by omega)
  |true=>rw [if_pos K] at a;obtain ⟨Vx,hw⟩:=Nv i F Z c K;obtain ⟨Vu,L,B⟩:=h.clean Vx hw;rw [bC (x:=(i:Int)+1) (by omega) (by omega)];exact ⟨5 - (i+1),by omega,i+1,(F c).a7,_,rfl,by omega,rfl,(l.az p.az λk e=>by have VK:=l.kC;have VL:=l.ne;exact ⟨by omega,by omega⟩).bx o,⟨Vu,L,B⟩,h.az,t,J,a⟩
 ·have Q:i=5:=by omega
  subst Q;rw [Q7,a];refine mc b rfl 0 3 λVH R=>⟨rfl,?_⟩
  have Vw:gv A w0 u tb z.heap.size (nw ((q6 j).drop 5) c) z:=⟨n,Vv,y,w.dC,w.c5⟩;have W:=n.size;have U:=b.lt;exact Vw.put (ao.refl _ _) (ao.refl _ _) R (by omega) (by omega) (by omega) (by omega)
end
section
def d9 (j:cS) (G:List (List aL)):List aP×(Int×Int)×Bool:=
 if j.valid≠0 then ([],(j.valid,0),true) else match (runM j G).ask with
 |some vs=>(vs,(0,0),false)
 |none=>if (runM j G).dC=true\/(runM j G).a7≠[] then ([],(6,0),true) else ([],q7 (runM j G),true)
theorem Dr (au:av w tb T.cells o8):a_ 118 [ptr tb] w λx w'=>x=.tuple #[.slice T.aa T.c5 T.ac,.bool (decide ((T.c5:Int)>0))]/\ai w w':=by
 refine bc Tryz.func118 ?_;rw [ptr,TW];rintro w1 b;have a:ai w w1:=by rw [b];exact cD _
 clear b;exact ⟨λy=>ai w1 y,ao.refl _ _,_,_,_,λy c=>(ai.aj (a.new c) au).cell (i:=1) rfl,_,_,_,λy c=>(ai.aj (a.new c) au).cell (i:=1) rfl,rfl,a⟩
theorem Ds (au:av w tb T.cells o8):a_ 119 [ptr tb] w λx w'=>x=.bool (T.dC || decide ((T.dQ:Int)>0))/\ai w w':=by
 refine bc Tryz.func119 ?_;rw [ptr,Ty];refine ⟨T.dC,au.cell (i:=2) rfl,?_⟩;cases T.dC
 ·exact cR rfl ⟨_,_,_,au.cell (i:=0) rfl,rfl,ao.refl _ _⟩
 ·exact eB rfl ⟨rfl,ao.refl _ _⟩
def rE (w:ak) (j:cS) (G:List (List aL)) (v:a4) (u:ak):Prop:=
 ∃ (aa:al) (ac:Nat) (cf:List aG),v=.tuple #[.slice aa cf.length ac,bB.val ⟨(d9 j G).2.1.1,(d9 j G).2.1.2⟩,.bool (d9 j G).2.2]/\ai w u/\bh u aa (dP cf).flatten/\(∀ k,aK aa k->w.heap.size<=k)/\en (λk=>k<w.heap.size) u cf (d9 j G).1
theorem rE.nil {o:Int×Int} {b:Bool} (h:d9 j G=([],o,b)) (c:ai w u):rE w j G (.tuple #[.slice none 0 0,bB.val ⟨o.1,o.2⟩,.bool b]) u:=
 ⟨none,0,[],by rw [h];rfl,c,.inl rfl,λk a=>absurd a nr,by rw [h];exact ⟨rfl,λi v x an=>by simp at an⟩⟩
theorem Eg (au:av u b o.cells eQ) (l:∀ j,ao (λk=>k=b) u j->K o j) :
  ∀ w1,w1=u.drew->∃ i:aE,i w1/\bB.ex λr=>(∀ y,i y->b6 y ⟨b,0,none⟩ 0 r.cells)/\eh w1 ⟨b,0,none⟩ 0 r.cells/\∀ a,a=ct w1 ⟨b,0,none⟩ 0 r.cells->bB.ex λres=>b6 a ⟨b,0,none⟩ 0 res.cells/\a=a/\K res a:=by
 rintro w1 d;have c:ai u w1:=by rw [d];exact cD _
 clear d;have f:=ai.aj c au;refine ⟨λy=>ai w1 y,ao.refl _ _,bB.aS o ⟨λy n=>bK (ai.aj n f) rfl,?_⟩⟩;exact dO f rfl (bB.single _) λa h g=>bB.aS o ⟨bK h rfl,rfl,l a ((ao.b3 c).trans g λ_ _ e=>e)⟩
theorem OZ (au:av u b o.cells eQ) (c f:Int) (n:∀ d,ao (λk=>k=b) u d->K ⟨c,f⟩ d) :
  eh u ⟨b,0,none⟩ 0 [(.int .i64 c),(.int .i64 f)]/\∀ j,j=ct u ⟨b,0,none⟩ 0 [(.int .i64 c),(.int .i64 f)]->∀ w1,w1=j.drew->∃ l:aE,l w1/\bB.ex λr=>(∀ y,l y->b6 y ⟨b,0,none⟩ 0 r.cells)/\eh w1 ⟨b,0,none⟩ 0 r.cells/\∀ a,a=ct w1 ⟨b,0,none⟩ 0 r.cells->bB.ex λres=>b6 a ⟨b,0,none⟩ 0 res.cells/\a=a/\K res a:=
 dO au (vs:=bB.cells ⟨c,f⟩) rfl (bB.single _) λj i g=>Eg i λd h=>n d (g.trans h λ_ _ e=>e)
theorem L9 (VU:pW w r j) (ar:j.valid=0->oX j) {gH:al} {dQ gc:Nat} (V5:hG A w gH G) (VT:dQ=G.length) (VS:dQ<=gc) :
  a_ 92 [r.val,.slice gH dQ gc] w (rE w j G):=by
 refine bc Tryz.func92 ?_;rw [Vb];rintro b1 bE VN VA;obtain ⟨l,Vy⟩:=bl VN VA;have l:av bE b1 r.cells 39:=l;clear VA;rintro aA Wk VO VB;obtain ⟨t,n⟩:=bl VO VB;have t:av Wk aA (bB.cells ⟨0,0⟩) eQ:=t;clear VB;have B:=Vy.new n;have Wb:=Vy.size;have V7:=l.lt;have V8:=t.lt;refine dv.aS r ⟨bK (ai.aj n l) rfl,?_⟩;refine aC (K4 (VU.new B)) ?_;rintro v bu ⟨rfl,p⟩;have C:=B.new p;have J:=ai.aj p t;refine ⟨_,rfl,dw (λan=>?_) (λan=>?_)⟩
 ·refine mc J rfl j.valid 0 λWs VV=>rE.nil (o:=(j.valid,0)) (b:=true) ?_ (C.trans VV λk c e=>by omega)
  unfold d9;rw [if_pos an]
 have g:=L2 an;have Vs:=ar an;obtain ⟨bO,Vw⟩:∃ bO,j.v.mem[0]?=some bO:=⟨_,bF g.mem.1⟩;rintro VX VC;have q:ai bu VX:=by rw [VC];exact cD _
 clear VC;have D:=C.new q;have I:=ai.aj ((n.new p).new q) l;refine ⟨λy=>ai VX y,ao.refl _ _,dv.aS r ⟨λy Wj=>bK (ai.aj Wj I) rfl,?_⟩⟩;refine aC (DP VX gH dQ gc) ?_;rintro v Wl ⟨tb,rfl,Wh,VG,f⟩;refine ⟨_,rfl,f,?_⟩;rintro Z Wm VP VD;obtain ⟨Y,s⟩:=bl VP VD;have Y:av Wm Z (lE r tb ⟨0,0,false⟩) l5:=Y;clear VD;have Wf:=f.size;have VZ:=D.size;have Wc:=n.size;have Wd:=p.size;have We:=q.size;have V_:=VG.lt;refine ⟨f.new s,cX.aS r.View ⟨bK (ai.aj (f.new s) I) rfl,?_⟩⟩;obtain ⟨Wp,X⟩:=VU.view;have E:=(D.new f).new s;refine aC (BT (X.new E) Vw) ?_;rintro v u8 ⟨rfl,Q⟩;have VI:=ai.aj Q Y;refine aZ.aS bO ⟨true,rfl,f7 VI (by simp [lE,aZ.cells,dv.cells]) (aZ.single _),?_⟩;rintro x W;have VJ:av x Z (lE r tb bO) l5:=by rw [W];exact VI.ct (o:=8) (i:=0) (vs:=bO.cells)
 have Vt:ao (λk=>k=Z) u8 x:=by rw [W];exact hT _ _ _ _ _
 clear W;have F:ai w x:=(E.new Q).trans Vt λk c e=>by omega
 have h:ai Wl x:=(s.new Q).trans Vt λk c e=>by omega
 have VH:av x tb (gg.cells ⟨gH,dQ,gc,none,0,0,false⟩) o8:=ai.aj h VG;have VF:av x aA (bB.cells ⟨0,0⟩) eQ:=ai.aj ((q.new f).new h) J;have VQ:e5 w x Z tb r bO j:=⟨VJ,VU,g,Vw,F,by omega,by omega,by omega⟩;have V4:eO A w x tb ⟨gH,dQ,gc,none,0,0,false⟩ G:=⟨VH,V5,VT,VS⟩;have P:=OY VQ Vs V4 ⟨rfl,rfl⟩;refine aC P ?_;rintro v Wn ⟨rfl,V⟩;have Wg:=h.size;have VK:av Wn aA (bB.cells ⟨0,0⟩) eQ:=V.az.aj VF (by omega);refine bB.aS ⟨(q7 (runM j G)).1,(q7 (runM j G)).2⟩ ⟨rfl,?_⟩;refine dO VK rfl (bB.single _) λV0 VL Vu=>?_
 have H:=(V.after (u:=w) (ao.b3 F)).put (B':=x.heap.size) (ao.refl _ _) (ao.refl _ _) Vu (by omega) (by omega) (by omega) (cO _);have R:ai w V0:=(ao.refl _ w).trans H.az λk c e=>by omega
 have M:av V0 Z (lE r tb bO) l5:=Vu.aj (V.az.aj VJ (by omega)) (by omega);obtain ⟨_,T,N,Vr,O⟩:=H;refine ⟨_,M.cell (i:=7) rfl,?_⟩;refine aC (Dr N.aj) ?_;rintro v Wt ⟨rfl,d⟩;have K:=ai.aj d VL;cases a:(runM j G).ask with
 |some vs=>
  rw [a] at O;obtain ⟨Wq,w1,V2,Wr,VY⟩:=O;have VM:=VY.len;refine ⟨_,_,_,_,rfl,eB (by simp;omega) ?_⟩;refine mc K rfl 0 0 λV1 Vv=>?_
  have V3:bH w1 V1 T.aa T.c5 T.ac vs:=(VY.new d).az Vv λk e=>by omega
  obtain ⟨⟨cf,V',VE⟩,V9,VR⟩:=V3;have Wa:=VE.1;have Wi:=V2.size;have Vz:d9 j G=(vs,(0,0),false):=by unfold d9;rw [if_neg (by simpa using an),a]
  refine ⟨T.aa,T.ac,cf,?_,(R.new d).trans Vv λk c e=>by omega,V'.rd,λk V6=>by have:=VR k V6;omega,?_⟩
  ·rw [Vz,VM,Wa]
  ·rw [Vz];exact VE.az (ao.refl _ _) λk c e=>.inl (by omega)
 |none=>
  rw [a] at O;refine ⟨_,_,_,_,rfl,cR (by simp;omega) ?_⟩;refine ⟨_,(ai.aj d M).cell (i:=7) rfl,?_⟩;refine aC (Ds (ai.aj d N.aj)) ?_;rintro v V1 ⟨rfl,S⟩;have L:=ai.aj S K;have z:=N.dQ;refine ⟨_,rfl,?_⟩;cases hm:(T.dC || decide ((T.dQ:Int)>0)) with
  |true=>
   refine OZ L 6 0 λWo U=>rE.nil (o:=(6,0)) (b:=true) ?_ (((R.new d).new S).trans U λk c e=>by omega)
   unfold d9;rw [if_neg (by simpa using an),a];refine if_pos ?_;rw [Vr] at hm;rw [u2] at hm;rcases hm with hm | hm
   ·exact .inl hm
   ·right;intro e;rw [e] at z;simp at hm z;omega
  |false=>
   refine Eg L λWo U=>rE.nil (o:=q7 (runM j G)) (b:=true) ?_ (((R.new d).new S).trans U λk c e=>by omega)
   unfold d9;rw [if_neg (by simpa using an),a];refine if_neg ?_;rw [Vr] at hm;obtain ⟨Vx,VW⟩:=Bool.or_eq_false_iff.1 hm;rintro (e | e)
   ·rw [e] at Vx;cases Vx
   ·apply e;apply fB;simp at VW <;> omega
end
end Go.Proofs.YtmkljjbioomepaaGreat
