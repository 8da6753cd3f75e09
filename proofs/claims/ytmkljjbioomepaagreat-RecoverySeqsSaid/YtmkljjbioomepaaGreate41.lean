import Derived.Test.YtmkljjbioomepaaGreate36
set_option linter.all false
set_option maxHeartbeats 4000000
set_option maxRecDepth 100000
namespace Go.Proofs.YtmkljjbioomepaaGreat
open Go.Proofs.Tryz Go.bn
namespace dr
abbrev eI:=cf
abbrev gv:TypeId:=45
abbrev DF:TypeId:=46
structure gn (A:a2) (w:al) (r:eI) (t:bL conv):Prop where
 kind:r.Kind=KT t.bs
 aP:r.Client=t.aP
 e0:r.mq=t.e0
 bad:r.um=t.bad
 a7:hj A w r.xN t.a7
 dA:r.uI=t.a7.length
 gc:r.uI<=r.xP
 bs:uN A w r t.bs
 out:uU A w r t.out
 len:t.a7.length<=201
theorem gn.ax {A A':a2} {w w':al} {r:eI} {t:bL conv} (h:gn A w r t) (b:ao A w w') (a:∀ k,k<w.heap.size->A' k->A k):gn A' w' r t:=
 ⟨h.kind,h.aP,h.e0,h.bad,h.a7.ax b a,h.dA,h.gc,h.bs.ax b a,h.out.ax b a,h.len⟩
theorem gn.fail {A:a2} {w:al} {r:eI} {t:bL conv} (h:gn A w r t):gn A w { r with mq:=true,um:=true } t.fail:=
 ⟨h.kind,h.aP,rfl,rfl,h.a7,h.dA,h.gc,h.bs,h.out,h.len⟩
theorem ql {z:al} {b1 az:Nat} {r:eI} {cs:aw} {R:cp} (b:av z b1 r.cells gv) (c:av z az cs gv) (f:cs.length=36) (e:∀ w',ao (λk=>k=az) z w'->R r.val w') :
  cf.ex λx=>b7 z ⟨b1,0,none⟩ 0 x.cells/\dR z ⟨az,0,none⟩ 0 x.cells/\∀ w',w'=cl z ⟨az,0,none⟩ 0 x.cells->cf.ex λy=>b7 w' ⟨az,0,none⟩ 0 y.cells/\w'=w'/\R y.val w':=by
 refine cf.aS r ⟨bI b rfl,?_⟩;refine dC (vs:=r.cells) c (by rw [f];rfl) (cf.single r) λw' a d=>?_
 exact cf.aS r ⟨bI a rfl,rfl,e w' d⟩
def qA (A:a2) (ar:Nat->Tag) (w:al) (aM:Nat) (x:aB×bL conv) (v:a0) (w':al):Prop:=
 dD A ar w aM x.1 w' λB=>∃ r:eI,v=r.val/\gn B w' r x.2
theorem uS {A:a2} {ar:Nat->Tag} {w z w':al} {aM b1 az:Nat} {B:a2} {d:Nat->Tag} {X:bl} {r:eI} {t:bL conv} (h:fe A ar w aM (λk=>k=b1\/k=az) z B d X) (c:gn (λk=>B k\/k=b1\/k=az) z r t) (a:ao (λk=>k=az) z w') :
  qA A ar w aM (X.pure,t) r.val w':=
 (h.local a λ_ e=>.inr e).done ⟨r,rfl,c.ax (a.mono λ_ _ e=>.inr (.inr e)) λk _ b=>.inl b⟩
def h6 (ts:List (eI×bL conv)):List aw:=ts.map λx=>x.1.cells
theorem rk (ts:List (eI×bL conv)):∀ r ∈ h6 ts,r.length=36:=by intro r a;simp only [h6,cD] at a;obtain ⟨x,_,rfl⟩:=a;rfl
theorem zC {ts:List (eI×bL conv)} {i:Nat} {x:eI×bL conv} (h:ts[i]?=some x):(h6 ts)[i]?=some x.1.cells:=by simp [h6,h]
theorem G9 (ts:List (eI×bL conv)):∀ u ∈ (h6 ts).flatten,single u=true:=by intro u hu;obtain ⟨r,b,a⟩:=kZ.1 hu;simp only [h6,cD] at b;obtain ⟨x,_,rfl⟩:=b;exact cf.single _ u a
end dr
namespace dr
theorem N5 {A:a2} {z:al} {r:eI} {t:bL conv} (h:gn A z r t) (UP:∀ k,A k->k<z.heap.size) :
  ba 65 [r.val] z λv UF=>ai z UF/\∃ (aa:an) (ac:Nat) (f:List aF) (UQ:eI),v=.tuple #[.slice aa f.length ac,UQ.val]/\bg UF aa (dz f).flatten/\(∀ k,aL aa k->z.heap.size<=k)/\dX (λk=>k<z.heap.size) UF f (conv.next t.bs t.a7).1/\gn A UF UQ t.told:=by
 refine bc Tryz.func65 ?_;rw [SU];rintro b1 bH UG UA;obtain ⟨Y,Uz⟩:=bk UG UA;have Y:av bH b1 r.cells gv:=Y;clear UA;rintro az bY UH UB;obtain ⟨R,Up⟩:=bk UH UB;obtain ⟨Ux,R,Uk⟩:∃ cs,av bY az cs gv/\cs.length=r.cells.length:=⟨_,R,rfl⟩;clear UB;have F:=Uz.new Up;have UV:=Uz.size;have UW:=Up.size;have US:=Y.lt;have UT:=R.lt;have b:=ai.ak Up Y;cases G:t.bs with
 |inl c=>
  have n:r.Kind=3:=by rw [h.kind,G];rfl
  have Un:dq.ph A z r.ie c:=by have:=h.bs;rw [G] at this;exact this
  have l:t.told={ t with e0:=(cX c t.a7).2.2,out:=.inl (cX c t.a7).2.1 }:=by unfold bL.told;rw [G];rfl
  have W:conv.next (.inl c) t.a7=((cX c t.a7).1,.inl (cX c t.a7).2.1,(cX c t.a7).2.2):=rfl;refine ⟨_,b.cell (i:=0) rfl,dw (by rw [n];rfl) (dw (by rw [n];rfl) (fK (by rw [n];rfl) ?_))⟩;refine cU.aS r.ie ⟨bI b rfl,_,_,_,b.cell (i:=23) rfl,?_⟩;have q:ao A z bY:=ao.bZ F;have UC:dq.ph A bY r.ie c:=Un.ax (A':=A) q λ_ _ e=>e
  have UJ:=h.a7.ax (A':=A) q λ_ _ e=>e
  have Um:=LA UC.at_ (λ_=>UC.j6) UJ h.dA h.gc;refine aD Um ?_;rintro v br ⟨aa,ac,f,rfl,K,M,H,X⟩;refine ⟨_,_,_,bq.aS ⟨(cX c t.a7).2.1.1,(cX c t.a7).2.1.2⟩ ⟨(cX c t.a7).2.2,rfl,?_⟩⟩;refine dU (vs:=bq.cells ⟨(cX c t.a7).2.1.1,(cX c t.a7).2.1.2⟩) rfl (bq.single _) λUw UE UI U C=>?_
  rintro Ui O;have j:ai UE Ui:=by rw [O];exact cL _
  clear O;have UL:=K.size;have UM:=C.size;have UN:=j.size;have a:=ai.ak j U;have d:=(K.new C).new j;have Q:=ai.ak d b;have S:=ai.ak d R;refine ⟨λy=>av y Uw (bq.cells ⟨(cX c t.a7).2.1.1,(cX c t.a7).2.1.2⟩) er,a,_,λy E=>E.cell (i:=0) rfl,_,λy E=>E.cell (i:=1) rfl,?_⟩;refine kl Q (i:=24) rfl λUX Ur g=>⟨g.ak a (by omega),?_⟩
  refine kl Ur (i:=26) rfl λUY Us B=>⟨B.ak (g.ak a (by omega)) (by omega),?_⟩
  refine kl Us (i:=32) rfl λu8 V J=>?_
  rintro Uj P;have D:ai u8 Uj:=by rw [P];exact cL _
  clear P;have w:ao (λk=>k=b1) Ui u8:=(g.trans B λ_ _ e=>e).trans J λ_ _ e=>e
  have V:av u8 b1 (cf.cells { r with mq:=(cX c t.a7).2.2,Code:=(cX c t.a7).2.1.1,pg:=(cX c t.a7).2.1.2 }) gv:=V;have Ut:=ai.ak D V;have T:av Uj az Ux gv:=ai.ak D (w.ak S (by omega));have I:ao (λk=>k=b1) Ui Uj:=w.new D;refine ⟨λy=>ai Uj y,ao.refl _ _,cf.aS { r with mq:=(cX c t.a7).2.2,Code:=(cX c t.a7).2.1.1,pg:=(cX c t.a7).2.1.2 } ⟨λy E=>bI (ai.ak E Ut) rfl,?_⟩⟩;refine dC T (by rw [Uk];rfl) (cf.single _) λUv Uu Uo=>?_
  refine cf.aS { r with mq:=(cX c t.a7).2.2,Code:=(cX c t.a7).2.1.1,pg:=(cX c t.a7).2.1.2 } ⟨bI Uu rfl,rfl,?_⟩;have x:ao (λk=>k=b1\/k=az) Ui Uv:=(I.mono λk _ e=>.inl e).trans (Uo.mono λk _ e=>.inr e) λ_ _ e=>e
  have L:ai z Uv:=(F.new d).trans x λk UK e=>by omega
  have s:ao (λk=>k=b1\/k=az) br Uv:=(ao.bZ (C.new j)).trans x λ_ _ e=>e
  refine ⟨L,aa,ac,f,_,rfl,M.ax s (g0 M λk n e=>by have:=H k n;omega),λk n=>by have:=H k n;omega,?_,?_⟩
  ·rw [W];exact X.ax (s.mono λk _ e=>by show k<bY.heap.size;omega) λk _ e=>by show k<bY.heap.size;omega
  ·have p:=h.ax (A':=A) (ao.bZ L) λ_ _ e=>e
   rw [l];exact ⟨p.kind,p.aP,rfl,p.bad,p.a7,p.dA,p.gc,p.bs,⟨rfl,rfl⟩,p.len⟩
 |inr Z=>
  have n:r.Kind=4:=by rw [h.kind,G];rfl
  have Un:pj A z r.Recover Z:=by have:=h.bs;rw [G] at this;exact this
  have l:t.told={ t with e0:=(gp Z t.a7).2.2,out:=.inr (gp Z t.a7).2.1 }:=by unfold bL.told;rw [G];rfl
  have W:conv.next (.inr Z) t.a7=((gp Z t.a7).1,.inr (gp Z t.a7).2.1,(gp Z t.a7).2.2):=rfl;refine ⟨_,b.cell (i:=0) rfl,dw (by rw [n];rfl) (dw (by rw [n];rfl) (dw (by rw [n];rfl) (fK (by rw [n];rfl) ?_)))⟩;refine cN.aS r.Recover ⟨bI b rfl,_,_,_,b.cell (i:=23) rfl,?_⟩;have q:ao A z bY:=ao.bZ F;have UC:pj A bY r.Recover Z:=Un.ax (A':=A) q λ_ _ e=>e
  have UJ:=h.a7.ax (A':=A) q λ_ _ e=>e
  refine aD (Mw UC.at_ UJ h.dA h.gc) ?_;rintro v br ⟨aa,ac,f,rfl,K,M,H,X⟩;generalize UU:gp Z t.a7=N at X l W;obtain ⟨UZ,o,UD⟩:=N;refine ⟨_,_,_,dj.aS o ⟨UD,rfl,?_⟩⟩;refine dU (vs:=o.cells) rfl (dj.single _) λUw UE UI U C=>?_
  rintro Ui O;have j:ai UE Ui:=by rw [O];exact cL _
  clear O;have UL:=K.size;have UM:=C.size;have UN:=j.size;have U:av UE Uw o.cells oc:=U;have a:=ai.ak j U;have d:=(K.new C).new j;have Q:=ai.ak d b;have S:=ai.ak d R;refine ⟨λy=>av y Uw o.cells oc,a,_,λy E=>E.cell (i:=0) rfl,_,λy E=>E.cell (i:=1) rfl,_,λy E=>E.cell (i:=2) rfl,_,λy E=>E.cell (i:=3) rfl,?_⟩;have off:∀ {u bo:al},ao (λk=>k=b1) u bo->av u Uw o.cells oc->av bo Uw o.cells oc:=λn UR=>n.ak UR (by omega)
  refine kl Q (i:=24) rfl λUX Ur g=>⟨off g a,?_⟩
  refine kl Ur (i:=26) rfl λUY Us B=>⟨off B (off g a),?_⟩
  refine kl Us (i:=33) rfl λu8 V J=>⟨off J (off B (off g a)),?_⟩
  refine kl V (i:=34) rfl λv1 UO Ul=>⟨off Ul (off J (off B (off g a))),?_⟩
  refine kl UO (i:=35) rfl λv2 Uq Uy=>?_
  rintro Uj P;have D:ai v2 Uj:=by rw [P];exact cL _
  clear P;have w:ao (λk=>k=b1) Ui v2:=(((g.trans B λ_ _ e=>e).trans J λ_ _ e=>e).trans Ul λ_ _ e=>e).trans Uy λ_ _ e=>e
  have Uq:av v2 b1 (cf.cells { r with mq:=UD,Code:=o.Code,iH:=o.iH,Seq:=o.Seq,j1:=o.j1 }) gv:=Uq;have Ut:=ai.ak D Uq;have T:av Uj az Ux gv:=ai.ak D (w.ak S (by omega));have I:ao (λk=>k=b1) Ui Uj:=w.new D;refine ⟨λy=>ai Uj y,ao.refl _ _,cf.aS { r with mq:=UD,Code:=o.Code,iH:=o.iH,Seq:=o.Seq,j1:=o.j1 } ⟨λy E=>bI (ai.ak E Ut) rfl,?_⟩⟩;refine dC T (by rw [Uk];rfl) (cf.single _) λUv Uu Uo=>?_
  refine cf.aS { r with mq:=UD,Code:=o.Code,iH:=o.iH,Seq:=o.Seq,j1:=o.j1 } ⟨bI Uu rfl,rfl,?_⟩;have x:ao (λk=>k=b1\/k=az) Ui Uv:=(I.mono λk _ e=>.inl e).trans (Uo.mono λk _ e=>.inr e) λ_ _ e=>e
  have L:ai z Uv:=(F.new d).trans x λk UK e=>by omega
  have s:ao (λk=>k=b1\/k=az) br Uv:=(ao.bZ (C.new j)).trans x λ_ _ e=>e
  refine ⟨L,aa,ac,f,_,rfl,M.ax s (g0 M λk n e=>by have:=H k n;omega),λk n=>by have:=H k n;omega,?_,?_⟩
  ·rw [W];exact X.ax (s.mono λk _ e=>by show k<bY.heap.size;omega) λk _ e=>by show k<bY.heap.size;omega
  ·have p:=h.ax (A':=A) (ao.bZ L) λ_ _ e=>e
   rw [l];exact ⟨p.kind,p.aP,rfl,p.bad,p.a7,p.dA,p.gc,p.bs,⟨rfl,rfl,rfl,rfl⟩,p.len⟩
end dr
namespace dr
def Br (o b1 az:Nat) (z:al) (R:cp):Prop:=
 ∃ (g:an) (dA gc:Nat),z.cell? ⟨b1,23,none⟩=some (.slice g dA gc)/\(bif (decide ((dA:Int)>200)) then
  ((∃ u,z.cell? ⟨b1,24,none⟩=some u)/\z.frozen? ⟨b1,24,none⟩=false/\∀ d,d=z.setCell ⟨b1,24,none⟩ (.bool true)->(∃ u,d.cell? ⟨b1,25,none⟩=some u)/\d.frozen? ⟨b1,25,none⟩=false/\∀ f,f=d.setCell ⟨b1,25,none⟩ (.bool true)->
   cf.ex λx=>b7 f ⟨b1,0,none⟩ 0 x.cells/\dR f ⟨az,0,none⟩ 0 x.cells/\∀ w',w'=cl f ⟨az,0,none⟩ 0 x.cells->cf.ex λy=>b7 w' ⟨az,0,none⟩ 0 y.cells/\w'=w'/\R y.val w')
  else (cf.ex λr=>b7 z ⟨b1,0,none⟩ 0 r.cells/\Calls prog 65 #[r.val] z λe n=>∃ (a:an) (cW ac:Nat),cf.ex λj=>e=.returned (.tuple #[.slice a cW ac,j.val])/\dR n ⟨b1,0,none⟩ 0 j.cells/\∀ b,b=cl n ⟨b1,0,none⟩ 0 j.cells->
   ∃ l:Bool,b.cell? ⟨b1,24,none⟩=some (.bool l)/\(bif (!l) then (∃ cC:Int,b.cell? ⟨b1,1,none⟩=some (.int .i64 cC)/\Calls prog 66 #[.pointer (some ⟨o,0,none⟩),.int .i64 cC,.slice a cW ac] b λe c=>∃ k:Int,e=.returned (.int .i64 k)/\(bif (k != 0) then
     ((∃ u,c.cell? ⟨b1,24,none⟩=some u)/\c.frozen? ⟨b1,24,none⟩=false/\∀ h,h=c.setCell ⟨b1,24,none⟩ (.bool true)->(∃ u,h.cell? ⟨b1,25,none⟩=some u)/\h.frozen? ⟨b1,25,none⟩=false/\∀ i,i=h.setCell ⟨b1,25,none⟩ (.bool true)->
      cf.ex λx=>b7 i ⟨b1,0,none⟩ 0 x.cells/\dR i ⟨az,0,none⟩ 0 x.cells/\∀ w',w'=cl i ⟨az,0,none⟩ 0 x.cells->cf.ex λy=>b7 w' ⟨az,0,none⟩ 0 y.cells/\w'=w'/\R y.val w')
     else (cf.ex λx=>b7 c ⟨b1,0,none⟩ 0 x.cells/\dR c ⟨az,0,none⟩ 0 x.cells/\∀ w',w'=cl c ⟨az,0,none⟩ 0 x.cells->cf.ex λy=>b7 w' ⟨az,0,none⟩ 0 y.cells/\w'=w'/\R y.val w')))
    else (cf.ex λx=>b7 b ⟨b1,0,none⟩ 0 x.cells/\dR b ⟨az,0,none⟩ 0 x.cells/\∀ w',w'=cl b ⟨az,0,none⟩ 0 x.cells->cf.ex λy=>b7 w' ⟨az,0,none⟩ 0 y.cells/\w'=w'/\R y.val w'))))
theorem CF {A:a2} {ar:Nat->Tag} {w z:al} {aM b1 az:Nat} {B:a2} {E:Nat->Tag} {X:bl} {r:eI} {t:bL conv} (h:fe A ar w aM (λk=>k=b1\/k=az) z B E X) (s:b1≠az) (c:av z b1 r.cells gv) {cs:aw} (n:av z az cs gv) (o:cs.length=36) (D:gn (λk=>B k\/k=b1\/k=az) z r t) :
  (∃ u,z.cell? ⟨b1,24,none⟩=some u)/\z.frozen? ⟨b1,24,none⟩=false/\∀ l,l=z.setCell ⟨b1,24,none⟩ (.bool true)->(∃ u,l.cell? ⟨b1,25,none⟩=some u)/\l.frozen? ⟨b1,25,none⟩=false/\∀ j,j=l.setCell ⟨b1,25,none⟩ (.bool true)->
   cf.ex λx=>b7 j ⟨b1,0,none⟩ 0 x.cells/\dR j ⟨az,0,none⟩ 0 x.cells/\∀ w',w'=cl j ⟨az,0,none⟩ 0 x.cells->cf.ex λy=>b7 w' ⟨az,0,none⟩ 0 y.cells/\w'=w'/\qA A ar w aM (X.pure,t.fail) y.val w':=by
 refine ⟨⟨_,c.cell rfl⟩,c.frozen,?_⟩;rintro l f;have q:ao (λk=>k=b1) z l:=by rw [f];exact eA _ _ _ _
 have a:=c.setCell (i:=24) (.bool true);rw [<-f] at a;clear f;refine ⟨⟨_,a.cell rfl⟩,a.frozen,?_⟩;rintro j g;have d:ao (λk=>k=b1) z j:=by rw [g];exact q.setCell (.inl rfl) _
 have b:=a.setCell (i:=25) (.bool true);rw [<-g] at b;clear g;have b:av j b1 ({ r with mq:=true,um:=true }:eI).cells gv:=b;refine ql b (d.ak n λe=>s e.symm) o λw' p=>?_
 exact uS (h.local d λ_ e=>.inl e) ((D.ax (d.mono λ_ _ e=>.inr (.inl e)) λ_ _ C=>C).fail) p
theorem CG {A:a2} {ar:Nat->Tag} {w z:al} {aM b1 az:Nat} {B:a2} {Um:Nat->Tag} {X:bl} {r:eI} {t:bL conv} (h:fe A ar w aM (λk=>k=b1\/k=az) z B Um X) (U:Good X.pure) (u:b1≠az)
  (b:av z b1 r.cells gv) {cs:aw} (o:av z az cs gv) (f:cs.length=36) (V:gn (λk=>B k\/k=b1\/k=az) z r t) :
  Br aM b1 az z (qA A ar w aM (hE X.pure t)):=by
 unfold Br hE;have Uk:=V.dA;refine ⟨_,_,_,b.cell rfl,a9 (λUj=>?_) (λUj=>?_)⟩
 ·rw [if_pos (by omega)];exact CF h u b o f V
 ·rw [if_neg (by omega)];refine cf.aS r ⟨bI b rfl,?_⟩;refine aD (N5 V (λk E=>h.b9.low k E)) ?_;rintro v Up ⟨s,aa,ac,d,L,rfl,H,D,W,g⟩;refine ⟨_,_,_,cf.aS L ⟨rfl,?_⟩⟩;have Y:=b.lt;have Z:=o.lt;refine dC (vs:=L.cells) (ai.ak s b) rfl (cf.single L) λM a c=>?_
  have F:ao (λk=>k=b1) z M:=(ao.bZ s).trans c λ_ _ e=>e
  have N:=(h.new s).local c λ_ e=>.inl e
  have I:=g.ax (A':=λk=>B k\/k=b1\/k=az) (c.mono λ_ _ e=>.inr (.inl e)) λ_ _ Q=>Q
  have l:av M az cs gv:=F.ak o λe=>u e.symm
  have n:bg M aa (dz d).flatten:=H.ax c (g0 H λk E e=>by have:=D k E;omega);refine ⟨_,a.cell rfl,dZ (λT=>?_) (λT=>?_)⟩
  ·have x:(conv.next t.bs t.a7).2.2=false:=by rw [<-T];exact g.e0.symm
   rw [if_neg (by rw [x];simp)];refine ⟨_,a.cell rfl,?_⟩;have G:((dz d).flatten=[])\/fM (λk=>B k\/k=b1\/k=az) aa:=g0 n λk E e=>by have O:=D k E;have Uo:=h.b9.low k e;omega
   have K:dX (λk=>B k\/k=b1\/k=az) M d (conv.next t.bs t.a7).1:=W.ax (c.mono λk _ e=>by show k<z.heap.size;omega) λk _ Q=>h.b9.low k Q
   have R:L.Client=t.aP:=g.aP;rw [R];refine aD (L9 N.b9 U.ok t.aP (lcap:=ac) n G K) ?_;rintro v Ui ⟨rfl,Ul⟩;obtain ⟨B',Uq,Un,O,C,_,S,P,y⟩:=N.op Ul;have i:av Ui b1 L.cells gv:=(y b1 (.inl rfl)).trans a;have j:av Ui az cs gv:=(y az (.inr rfl)).trans l;have J:=I.ax (A':=λk=>B' k\/k=b1\/k=az) S P;refine ⟨_,rfl,dt (λp=>?_) (λp=>?_)⟩
   ·rw [if_pos p,<-C];exact CF O u i j f J
   ·rw [if_neg (λe=>e p)];refine ql i j f λw' q=>?_
    rw [<-C];exact uS O J q
  ·have x:(conv.next t.bs t.a7).2.2=true:=by rw [<-T];exact g.e0.symm
   rw [if_pos x];refine ql a l f λw' q=>?_
   exact uS N I q
theorem C9 {A:a2} {ar:Nat->Tag} {w:al} {aM:Nat} {X:bl} (h:bX A ar w aM X) (M:Good X.pure) {r:eI} {t:bL conv} (Ur:gn A w r t) (Uq:mh t) :
  ba 34 [ptr aM,r.val] w (qA A ar w aM (b4 X.pure t)):=by
 refine bc Tryz.func34 ?_;rw [ptr,Tc];rintro b1 w1 Y P az S Z Q;obtain ⟨E,L⟩:=bk Y P;obtain ⟨p,C⟩:=bk Z Q;have a:av S b1 r.cells gv:=ai.ak C E;have Uz:=E.lt;have Us:=L.size;have UA:=p.lt;have Ut:=C.size;clear P Q E;have x:=L.new C;have D:b1≠az:=by omega
 have H:fe A ar w aM (λk=>k=b1\/k=az) S A ar X:=fe.start h x λk UD=>by omega
 have N:gn (λk=>A k\/k=b1\/k=az) S r t:=Ur.ax (ao.bZ x) λk Ux R=>by
  rcases R with R | R
  ·exact R
  ·omega
 have c:∀ w',ao (λk=>k=az) S w'->qA A ar w aM (X.pure,t) r.val w':=λw' Ul=>uS H N Ul
 unfold b4;have B:r.Client=t.aP:=Ur.aP;refine ⟨_,a.cell rfl,?_⟩;rw [Ur.e0];cases Up:t.e0 with
 |true=>refine fK rfl ?_;rw [if_pos (.inl rfl)];exact ql a p rfl c
 |false=>
  refine dw rfl ?_;refine ⟨_,a.cell rfl,?_⟩;rw [B];refine aD (BX H.b9 _) ?_;rintro v UE ⟨rfl,rfl⟩;refine ⟨_,rfl,dZ (λV=>?_) (λV=>?_)⟩
  ·rw [if_pos (.inr (.inl V))];exact ql a p rfl c
  refine ⟨_,a.cell rfl,?_⟩;rw [B];refine aD (GT H.b9 _) ?_;rintro v UF ⟨rfl,rfl⟩;refine ⟨_,rfl,a9 (λhw=>?_) (λhw=>?_)⟩
  ·rw [if_pos (.inr (.inr (by omega)))];exact ql a p rfl c
  rw [if_neg (by rw [V];simp;omega)];refine ⟨_,a.cell rfl,?_⟩;rw [B];refine aD (L7 H.b9 _) ?_;rintro v Uu Uy;obtain ⟨B',UG,Uv,T,I,j,Um,U,G⟩:=H.op Uy;have l:av Uu b1 r.cells gv:=(G b1 (.inl rfl)).trans a;have u:=(G az (.inr rfl)).trans p;have s:=N.ax (A':=λk=>B' k\/k=b1\/k=az) Um U;have y:Good Uv.pure:=by rw [I];exact M.take _
  have O:∀ ds,(X.pure.take t.aP).1=some ds->ds.length<=1024:=λds=>J_ M
  have hlen:=Uq Up;rw [<-I];generalize (X.pure.take t.aP).1=UB at j O ⊢;cases UB with
  |none=>have j:v=.tuple #[.slice none 0 0,.bool false]:=j;subst j;refine ⟨_,_,_,_,rfl,dw rfl ?_⟩;exact CG T y D l u rfl s
  |some ds=>
   obtain ⟨b,raw,rfl,Ui,K,Uo⟩:=j;refine ⟨_,_,_,_,rfl,fK rfl ?_⟩;refine ⟨_,_,_,l.cell rfl,?_⟩;rw [s.dA];refine J' s.a7 (by omega) Ui K Uo (O ds rfl) T.b9.low (by rw [K.1]) ?_;intro UC ap cap z Uw Uk J q;have n:=ai.ak q l;refine ⟨⟨_,n.cell rfl⟩,n.frozen,?_⟩;rintro F o;have f:ao (λk=>k=b1) z F:=by rw [o];exact eA _ _ _ _
   have d:=n.setCell (i:=23) (.slice ap (t.a7.length+1) cap);rw [<-o] at d;clear o;have d:av F b1 ({ r with xN:=ap,uI:=t.a7.length+1,xP:=cap }:eI).cells gv:=d;refine CG ((T.new q).local f λ_ e=>.inl e) y D d (f.ak (ai.ak q u) λe=>D e.symm) rfl ?_;have Un:ao (λk=>B' k\/k=b1\/k=az) Uu F:=(ao.bZ q).trans f λ_ _ e=>.inr (.inl e)
   have g:=s.ax (A':=λk=>B' k\/k=b1\/k=az) Un λ_ _ W=>W
   have Uj:(t.a7++[ds]).length=t.a7.length+1:=by simp
   exact ⟨g.kind,g.aP,g.e0,g.bad,Uk.ax (f.mono λ_ _ e=>.inr (.inl e)) λ_ _ W=>W,Uj.symm,J,g.bs,g.out,by show (t.a7++[ds]).length<=201;omega⟩
end dr
namespace dr
structure ig (A:a2) (ar:Nat->Tag) (w:al) (aM:Nat) (la:an) (lc:Nat) (ds:List (an×aw)) (u:al) (B:a2) (tW:Nat->Tag) (X:bl) (ts:List (eI×bL conv)):Prop where
 kT:fe A ar w aM (aL la) u B tW X
 own:aY u gv 36 la ts.length lc (h6 ts).flatten
 l8:∀ x ∈ ts,gn (λk=>B k\/aL la k) u x.1 x.2/\mh x.2
 j6:∀ d ∈ ds,oa (λk=>B k\/aL la k) u d.1 d.2
 fg:cb X.pure
theorem ig.new {A:a2} {ar:Nat->Tag} {w u bo:al} {aM:Nat} {la:an} {lc:Nat} {ds:List (an×aw)} {B:a2} {c:Nat->Tag} {X:bl} {ts:List (eI×bL conv)} (h:ig A ar w aM la lc ds u B c X ts) (a:ai u bo):ig A ar w aM la lc ds bo B c X ts:=
 ⟨h.kT.new a,aY.new a h.own,λx b=>⟨(h.l8 x b).1.ax (ao.bZ a) λ_ _ e=>e,(h.l8 x b).2⟩,λd aA=>(h.j6 d aA).ax (ao.bZ a) λ_ _ e=>e,h.fg⟩
theorem ig.op {A:a2} {ar:Nat->Tag} {w u bo:al} {aM:Nat} {la:an} {lc:Nat} {ds:List (an×aw)} {B:a2} {o:Nat->Tag} {X:bl} {ts:List (eI×bL conv)} (h:ig A ar w aM la lc ds u B o X ts) {F:aB} {K:(a2)->Prop} (p:dD (λk=>B k\/aL la k) o u aM F bo K) (r:cb F) :
  ∃ B' j e,ig A ar w aM la lc ds bo B' j e ts/\e.pure=F/\K (λk=>B' k\/aL la k):=by
 obtain ⟨B',j,e,q,b,f,c,a,i⟩:=h.kT.op p;refine ⟨B',j,e,⟨q,?_,λx n=>⟨(h.l8 x n).1.ax c a,(h.l8 x n).2⟩,λd aA=>(h.j6 d aA).ax c a,by rw [b];exact r⟩,b,f⟩;refine ⟨h.own.1,?_⟩;rcases h.own.2 with t | ⟨g,cur,l,s,rest⟩
 ·exact .inl t
 ·exact .inr ⟨g,cur,l,(i g ⟨0,l⟩).trans s,rest⟩
theorem ig.Fz {A:a2} {ar:Nat->Tag} {w u w1:al} {aM lb:Nat} {lc:Nat} {ds:List (an×aw)} {B:a2} {s:Nat->Tag} {X:bl} {ts:List (eI×bL conv)} (h:ig A ar w aM (some ⟨lb,0,none⟩) lc ds u B s X ts) {i:Nat} {x:eI×bL conv} (r:ts[i]?=some x) {v:a0}
  (z:qA (λk=>B k\/aL (some ⟨lb,0,none⟩) k) s u aM (b4 X.pure x.2) v w1) :
  ∃ B' n f a,v=a.val/\dR w1 ⟨lb,i * 36,none⟩ 0 a.cells/\
   ig A ar w aM (some ⟨lb,0,none⟩) lc ds (cl w1 ⟨lb,i * 36,none⟩ 0 a.cells) B' n f (ts.set i (a,(b4 X.pure x.2).2))/\f.pure=(b4 X.pure x.2).1:=by
 obtain ⟨B',n,f,c,g,a,aj,l⟩:=h.op z (h.fg.b4 _);have j:=(kY.1 r).1;obtain ⟨hw,t⟩:=aY.Rf c.own (rk ts) (by simp [h6]) j (vs:=a.cells) rfl (cf.single a);have q:ao (λk=>k=lb) w1 (cl w1 ⟨lb,i * 36,none⟩ 0 a.cells):=ht _ _ _ _ _;have p:∀ k,k=lb->aL (some ⟨lb,0,none⟩) k:=λk e=>⟨0,by rw [e]⟩
 have b:ao (λk=>B' k\/aL (some ⟨lb,0,none⟩) k) w1 (cl w1 ⟨lb,i * 36,none⟩ 0 a.cells):=q.mono λk _ e=>.inr (p k e)
 refine ⟨B',n,f,a,aj,hw,⟨c.kT.local q p,?_,λy C=>?_,λd aA=>(c.j6 d aA).ax b λ_ _ e=>e,c.fg⟩,g⟩
 ·rw [je];have e:h6 (ts.set i (a,(b4 X.pure x.2).2))=(h6 ts).set i a.cells:=by simp [h6,iD]
  rw [e];exact t
 ·rcases ks C with o | rfl
  ·exact ⟨(c.l8 y o).1.ax b λ_ _ e=>e,(c.l8 y o).2⟩
  ·exact ⟨l.ax b λ_ _ e=>e,HS (h.l8 x (cj r)).2⟩
theorem ig.la {A:a2} {ar:Nat->Tag} {w u:al} {aM:Nat} {la:an} {lc:Nat} {ds:List (an×aw)} {B:a2} {b:Nat->Tag} {X:bl} {ts:List (eI×bL conv)} (h:ig A ar w aM la lc ds u B b X ts) (c:0<ts.length):∃ lb,la=some ⟨lb,0,none⟩:=by
 rcases h.own.2 with ⟨_,d,_⟩ | ⟨g,cur,a,_⟩
 ·omega
 ·exact ⟨g,a⟩
def AE (A:a2) (ar:Nat->Tag) (w:al) (aM:Nat) (r:aB×List (bL conv)) (v:a0) (w':al):Prop:=
 dD A ar w aM r.1 w' λB=>∃ la lc a,v=.slice la r.2.length lc/\a.map Prod.snd=r.2/\aY w' gv 36 la r.2.length lc (h6 a).flatten/\(∀ k,aL la k->¬ B k)/\∀ x ∈ a,gn B w' x.1 x.2
theorem Co (ts:List (eI×bL conv)) (i:Nat) (r:eI) (t:bL conv):(ts.set i (r,t)).map Prod.snd=(ts.map Prod.snd).set i t:=by simp [iD]
theorem Cp {A:a2} {ar:Nat->Tag} {w:al} {aM:Nat} {X:bl} (h:bX A ar w aM X) (U7:cb X.pure) {ts:List (eI×bL conv)} {aX:an} {pc:Nat} (UP:bg w aX (h6 ts).flatten) (Uk:∀ x ∈ ts,gn A w x.1 x.2/\mh x.2) (Va:ts.length<=1000)
  {sch:a4} {sa:an} {sc:Nat} (UO:oa A w sa (is sch)) (UZ:∀ x ∈ sch,dO x) {most:Nat} (hm:most<=1000000) :
  ba 15 [ptr aM,.slice aX ts.length pc,.slice sa sch.length sc,.slice none 0 0,.int .i64 most] w (AE A ar w aM (eX X.pure (ts.map Prod.snd) sch [] most)):=by
 refine bc Tryz.func15 ?_;rw [ptr,SD];obtain ⟨inf,US,au,b,Uq⟩:=fp (T:=gv) (z:=.agg #[(.int .i64 0),(.int .i64 0),(.int .i64 0),(.int .i64 0),(.int .i64 0),(.int .i64 0),(.int .i64 0),(.int .u64 0),(.int .i64 0),(.int .i64 0),(.int .i64 0),(.int .i64 0),(.slice none 0 0),(.slice none 0 0),(.slice none 0 0),(.int .i64 0),(.int .i64 0),(.int .i64 0),(.int .i64 0),(.slice none 0 0),(.int .i64 0),(.int .i64 0),(.int .u64 0),(.slice none 0 0),(.bool false),(.bool false),(.int .i64 0),(.int .i64 0),(.slice none 0 0),(.int .i64 0),(.slice none 0 0),(.int .u64 0),(.int .i64 0),(.int .i64 0),(.int .i64 0),(.int .i64 0)]) (n:=36) (m:=392) (by kernel_rfl);have UM:aY w gv inf.size none 0 0 []:=aY.nil _ _ _;obtain ⟨ap,de,w1,O,j,UI,UF⟩:=aY.append (P:=prog) (t:=DF) (ty:=DF) Tryz.underlying46 US au (by rw [b];rfl) (by omega) UM (s:=aX) (m:=ts.length) (c:=pc) (news:=(h6 ts).flatten) (by rw [b,lN (rk ts)];simp [h6]) UP (G9 ts) (by omega) (by rw [Uq];omega);rw [gG,m4,b] at j;rw [gG] at O;have Uj:ai w w1:=UI.mono λk _ S=>by obtain ⟨o,Uv⟩:=S;cases Uv
 have Um:∀ k,aL ap k->w.heap.size<=k:=λk r=>by
  rcases UF with e | e
  ·rw [e] at r;obtain ⟨o,Uv⟩:=r;cases Uv
  ·rw [e] at r;obtain ⟨o,Uv⟩:=r;simp at Uv <;> omega
 have K:∀ k,k<w.heap.size->A k\/aL ap k->A k:=λk y UR=>UR.elim id λS=>by have:=Um k S;omega
 have U5:fe A ar w aM (aL ap) w1 A ar X:=fe.start h Uj λk r=>⟨Um k r,j.lt r⟩
 have UA:ig A ar w aM ap de [(sa,is sch)] w1 A ar X ts:=by refine ⟨U5,j,λx R=>⟨(Uk x R).1.ax (ao.bZ Uj) K,(Uk x R).2⟩,λd aA=>?_,U7⟩;simp at aA;subst aA;exact UO.ax (ao.bZ Uj) K
 refine ⟨ap,ts.length,de,w1,O,?_⟩;clear O UI U5 UM au Uq b US inf UF;obtain ⟨inf,US,au,b,Uq⟩:=fp (T:=lF) (z:=.int .i64 0) (n:=1) (m:=8) (by kernel_rfl);generalize Ur:(ts.map Prod.snd).map bL.aP=cs;refine c1 mix (λm env u=>∃ (i:Nat) (C:an) (cc:Nat) (l:aw),m=ts.length - i/\i<=ts.length/\env=vr ⟨aM,0,none⟩ ap ts.length de sa sch.length sc none 0 0 most C i cc i l/\ai w1 u/\aY u lF 1 C i cc (is (cs.take i))/\(∀ k,aL C k->w1.heap.size<=k)) ts.length
  ⟨0,none,0,_,rfl,by omega,rfl,ao.refl _ _,aY.nil _ _ _,λk r=>by obtain ⟨o,Uv⟩:=r;cases Uv⟩ ?_
 rintro m env u ⟨i,C,cc,l,rfl,I,rfl,L,M,Ui⟩;rw [Qg];refine a9 (λUx=>?_) (λUx=>?_)
 ·have y:i<ts.length:=by omega
  have G:ts[i]?=some ts[i]:=bM y;obtain ⟨U4,dg,g,U,p⟩:=(aY.new L j).rd.row (rk ts) (by omega) (zC G);have UH:cs[i]?=some ts[i].2.aP:=by rw [<-Ur];simp [G]
  rw [g];refine dT (by omega) (by omega) ⟨ts[i].2.aP,by rw [<-(Uk _ (jw y)).1.aP];simpa using p 1 _ rfl,?_⟩;have UL:aY u lF inf.size C i cc (is (cs.take i)):=by rw [b];exact M
  refine nI Tryz.underlying22 US au (by rw [b];rfl) (by omega) UL (vs:=[.int .i64 ts[i].2.aP]) (by rw [b];rfl) (by intro v aj;simp at aj;subst aj;rfl) (by omega) (by omega) ?_;intro Vd UU Uz bY U9 UK UX UG;rw [b] at UK;rw [bA (by omega) (by omega),<-g];refine ⟨ts.length - (i+1),by omega,i+1,UU,Uz,_,rfl,by omega,rfl,q8 L UX Ui,?_,?_⟩
  ·have e:is (cs.take (i+1))=is (cs.take i)++[.int .i64 ts[i].2.aP]:=by rw [eT,UH];simp [is]
   rw [e];exact UK
  ·intro k r;rcases UG k r with UV | UV
   ·exact Ui k UV
   ·have:=L.size;omega
 have Ut:i=ts.length:=by omega
 subst Ut;have U_:cs.length=ts.length:=by rw [<-Ur];simp
 rw [gb (by omega)] at M;rw [QW];clear Ux I;have UB:ig A ar w aM ap de [(C,is cs),(sa,is sch)] u A ar X ts:=by
  have aA:=UA.new L;refine ⟨aA.kT,aA.own,aA.l8,λd Us=>?_,U7⟩;rcases dy.1 Us with rfl | Us
  ·refine ⟨M.rd,g0 M.rd λk r e=>?_⟩;have UV:=Ui k r;rcases e with e | e
   ·have:=h.low k e;have:=Uj.size;omega
   ·have:=j.lt e;omega
  ·exact aA.j6 d Us
 have D:eX X.pure (ts.map Prod.snd) sch [] most=turns (gl cs sch [] most 0 X.pure (ts.map Prod.snd)).1 (gl cs sch [] most 0 X.pure (ts.map Prod.snd)).2:=by unfold eX;rw [Ur]
 rw [D];generalize Uo:gl cs sch [] most 0 X.pure (ts.map Prod.snd)=UQ;have UC:=Uo;clear D UA M Ui L UP Uk UO;have U6:cs.length<=1000:=by omega
 have J:∀ (z:al) (B:a2) (f:Nat->Tag) (Y:bl) (ys:List (eI×bL conv)) (l:aw),ig A ar w aM ap de [(C,is cs),(sa,is sch)] z B f Y ys->ys.length=ts.length->(Y.pure,ys.map Prod.snd)=UQ->
   W prog (sub (bh f15) [1,1,1,1,1]) (vu ⟨aM,0,none⟩ ap ts.length de l) (dh prog f15 (AE A ar w aM (turns UQ.1 UQ.2))) z:=by
  intro z B f Y ys l a Ul UE;rw [QY];rw [<-UE];dsimp only;refine c1 mix (λm env z=>∃ (i:Nat) (B:a2) (f:Nat->Tag) (Z:bl) (zs:List (eI×bL conv)) (l:aw),m=ts.length - i/\i<=ts.length/\env=vv ⟨aM,0,none⟩ ap ts.length de i l/\ig A ar w aM ap de [(C,is cs),(sa,is sch)] z B f Z zs/\zs.length=ts.length/\lG Y.pure (ys.map Prod.snd) i Z.pure (zs.map Prod.snd)) ts.length
   ⟨0,B,f,Y,ys,_,rfl,by omega,rfl,a,Ul,lG.start _ _⟩ ?_
  clear a UE;rintro m env z ⟨i,B,f,Z,zs,l,rfl,I,rfl,a,F,H⟩;rw [Qj];refine a9 (λUx=>?_) (λUx=>?_)
  ·have y:i<zs.length:=by omega
   have G:zs[i]?=some zs[i]:=bM y;obtain ⟨lb,Uu⟩:=a.la (by omega);rw [Uu] at a ⊢;obtain ⟨U4,dg,g,U,p⟩:=a.own.rd.row (rk zs) (by omega) (zC G);simp at g;obtain ⟨rfl,rfl⟩:=g;have R:=a.l8 _ (cj G);refine dT (by omega) (by omega) ?_;refine cf.aS zs[i].1 ⟨by simpa using U,?_⟩;refine aD (C9 a.kT.b9 a.fg.ca R.1 R.2) ?_;rintro v U2 N;obtain ⟨B',Uy,UT,U1,rfl,hw,E,Up⟩:=a.Fz G N;refine cf.aS U1 ⟨rfl,?_⟩;refine dT (by omega) (by omega) ?_;have Un:0+Int.toNat (i:Int) * 36=i * 36:=by omega
   rw [Un];refine ⟨hw,?_⟩;rintro Vc Uw;rw [bA (by omega) (by omega)];refine ⟨ts.length - (i+1),by omega,i+1,B',Uy,UT,_,_,rfl,by omega,rfl,by rw [Uw];exact E,by simpa using F,?_⟩;rw [Co,Up];exact H.step (by simp [G])
  ·have Ut:i=ts.length:=by omega
   rw [Q0];have q:=H.done (by simp;omega);rw [q];refine a.kT.done ⟨ap,de,zs,by simp [F],rfl,by simpa using a.own,λk r S=>?_,λx R=>(a.l8 x R).1.ax (ao.refl _ _) λ_ _ e=>.inl e⟩;obtain ⟨b6,l2,Vb⟩:=a.kT.loc k r;rcases (a.kT.next.iff k).1 S with UR | UR
   ·exact UR Vb
   ·omega
 refine c1 mix (λm env z=>∃ (n:Nat) (B:a2) (f:Nat->Tag) (Y:bl) (ys:List (eI×bL conv)) (l:aw),m=most - n/\n<=most/\env=vt ⟨aM,0,none⟩ ap ts.length de sa sch.length sc none 0 0 most C ts.length cc n l/\ig A ar w aM ap de [(C,is cs),(sa,is sch)] z B f Y ys/\ys.length=ts.length/\gl cs sch [] (most - n) n Y.pure (ys.map Prod.snd)=UQ) most
  ⟨0,A,ar,X,ts,_,rfl,by omega,rfl,UB,rfl,Uo⟩ ?_
 clear UB Uo UC;rintro m env z ⟨n,B,f,Y,ys,l,rfl,U',rfl,a,Ul,Q⟩;rw [Qh];refine a9 (λUx=>?_) (λUx=>?_)
 ·have UY:most - n=(most - (n+1))+1:=by omega
  rw [UY,gl] at Q;refine c1 mix (λm env z=>∃ (B:a2) (f:Nat->Tag) (Z:bl) (l:aw),m=0/\env=sQ ⟨aM,0,none⟩ ap ts.length de sa sch.length sc none 0 0 most C ts.length cc n (0:Nat) l/\ig A ar w aM ap de [(C,is cs),(sa,is sch)] z B f Z ys/\Z.pure=Y.pure) 0
   ⟨B,f,Y,_,rfl,rfl,a,rfl⟩ ?_
  clear a;rintro m env z ⟨B,f,Z,l,rfl,rfl,a,U8⟩;rw [Qi];refine a9 (λUN=>absurd UN (by omega)) (λUN=>?_)
  have UW:iP Y.pure cs n []=Y.pure:=rfl;rw [UW] at Q;rw [QZ];rw [<-U8] at Q;refine c1 mix (λm env z=>∃ (i:Nat) (B:a2) (f:Nat->Tag) (V:bl) (zs:List (eI×bL conv)) (l:aw),m=ts.length - i/\i<=ts.length/\env=vw ⟨aM,0,none⟩ ap ts.length de sa sch.length sc none 0 0 most C ts.length cc n i l/\ig A ar w aM ap de [(C,is cs),(sa,is sch)] z B f V zs/\zs.length=ts.length/\lG Z.pure (ys.map Prod.snd) i V.pure (zs.map Prod.snd)) ts.length
   ⟨0,B,f,Z,ys,_,rfl,by omega,rfl,a,Ul,lG.start _ _⟩ ?_
  clear a UN;rintro m env z ⟨i,B,f,V,zs,l,rfl,I,rfl,a,F,H⟩;rw [Qk];refine a9 (λUN=>?_) (λUN=>?_)
  ·have y:i<zs.length:=by omega
   have G:zs[i]?=some zs[i]:=bM y;obtain ⟨lb,Uu⟩:=a.la (by omega);rw [Uu] at a ⊢;obtain ⟨U4,dg,g,U,p⟩:=a.own.rd.row (rk zs) (by omega) (zC G);simp at g;obtain ⟨rfl,rfl⟩:=g;have R:=a.l8 _ (cj G);refine dT (by omega) (by omega) ?_;refine cf.aS zs[i].1 ⟨by simpa using U,?_⟩;refine aD (C9 a.kT.b9 a.fg.ca R.1 R.2) ?_;rintro v U2 N;obtain ⟨B',Uy,UT,U1,rfl,hw,E,Up⟩:=a.Fz G N;refine cf.aS U1 ⟨rfl,?_⟩;refine dT (by omega) (by omega) ?_;have Un:0+Int.toNat (i:Int) * 36=i * 36:=by omega
   rw [Un];refine ⟨hw,?_⟩;rintro Vc Uw;rw [bA (by omega) (by omega)];refine ⟨ts.length - (i+1),by omega,i+1,B',Uy,UT,_,_,rfl,by omega,rfl,by rw [Uw];exact E,by simpa using F,?_⟩;rw [Co,Up];exact H.step (by simp [G])
  ·have Ut:i=ts.length:=by omega
   have q:=H.done (by simp;omega);rw [q] at Q;rw [Q1];have U0:=(a.j6 (sa,is sch) (by simp)).1;refine aD (LB a.kT.b9 a.fg U0 UZ n) ?_;rintro v U2 ⟨rfl,N⟩;obtain ⟨B',Uy,U3,E,UD,_⟩:=a.op N (a.fg.fL _ _);refine ⟨_,rfl,dZ (λS=>?_) (λS=>?_)⟩
   ·rw [if_neg (by rw [S];simp)] at Q;exact J U2 B' Uy U3 zs _ E F (by rw [UD];exact Q)
   ·rw [if_pos S] at Q;rw [bA (by omega) (by omega)];exact ⟨most - (n+1),by omega,n+1,B',Uy,U3,zs,_,rfl,by omega,rfl,E,F,by rw [UD];exact Q⟩
 ·have UJ:most - n=0:=by omega
  rw [UJ,gl] at Q;exact J z B f Y ys _ a Ul Q
theorem ur {l:List (eI×bL conv)} {t:bL conv} (h:l.map Prod.snd=[t]):∃ r,l=[(r,t)]:=by
 cases l with
 |nil=>cases h
 |cons x l=>rw [g'] at h;obtain ⟨a,b⟩:=List.cons.inj h;have c:l=[]:=List.map_eq_nil_iff.1 b;subst c;exact ⟨x.1,by rw [<-a]⟩
theorem JC (F:aB) (r:eI) (t:bL conv):eX F ([(r,t)].map Prod.snd) [] [] 20000=ut F t:=rfl
section
attribute [local irreducible] eX ut
theorem xw {A:a2} {ar:Nat->Tag} {w:al} {aM:Nat} {X:bl} (h:bX A ar w aM X) (Up:cb X.pure) {r:eI} {t:bL conv} (Ui:gn A w r t) (Y:mh t) :
  ba 26 [ptr aM,r.val] w λv w'=>dD A ar w aM (ut X.pure t).1 w' λB=>∃ o c,(ut X.pure t).2=[o]/\v=c.val/\gn B w' c o:=by
 refine bc Tryz.func26 ?_;rw [ptr,SE];rintro b1 w1 N C az Uy O D;obtain ⟨G,u⟩:=bk N C;obtain ⟨I,y⟩:=bk O D;have H:av Uy b1 r.cells gv:=ai.ak y G;have Ul:=u.size;have Uv:=I.lt;clear C D G;refine cf.aS r ⟨bI H rfl,?_⟩;rintro Uj J P E;obtain ⟨n,l⟩:=bk P E;have n:av J Uj r.cells gv:=n;clear E;have f:=(u.new y).new l;have Uw:=l.size;have Uk:fe A ar w aM (λk=>k=az) J A ar X:=fe.start h f λk UB=>by omega
 have j:∀ k,k<w.heap.size->A k\/k=az->A k:=λk Us Uo=>Uo.elim id λe=>by omega
 have T:oa (λk=>A k\/k=az) J none ([]:aw):=⟨.inl rfl,.inl rfl⟩;have W:bg J (some ⟨Uj,0,none⟩) (h6 [(r,t)]).flatten:=e9 n (by simp [h6,cf.cells]);have U:=Cp Uk.b9 Up (ts:=[(r,t)]) (pc:=1) W (λx F=>by simp at F;rw [F];exact ⟨Ui.ax (ao.bZ f) j,Y⟩) (by simp) (sch:=[]) (sa:=none) (sc:=0) T (λx Ui=>by cases Ui) (most:=20000) (by omega);refine aD U ?_;rintro v UC Uu;obtain ⟨B',UE,Uz,Um,p,K,Ur,Un,L⟩:=Uk.op Uu;obtain ⟨la,lc,Ux,rfl,b,d,Ut,z⟩:=K;have M:=JC X.pure r t;rw [M] at p b d ⊢;obtain ⟨o,Z⟩:=Jq X.pure t;rw [Z] at b d ⊢;obtain ⟨c,rfl⟩:=ur b;refine ⟨_,_,_,rfl,?_⟩;obtain ⟨UA,dg,a,R,S⟩:=d.rd.row (rk [(c,o)]) (by omega) (i:=0) rfl;have V:dg=0:=by
  rcases d.2 with ⟨he,_⟩ | ⟨g,cur,Uq,_⟩
  ·rw [he] at a;cases a
  ·rw [Uq] at a;simp at a <;> omega
 subst V;rw [a];refine dT (by omega) (by simp) ?_;have q:=(L az rfl).trans (ai.ak l I);refine cf.aS c ⟨by simpa using R,?_⟩;refine dC (vs:=c.cells) q rfl (cf.single c) λUD Q s=>?_
 refine cf.aS c ⟨bI Q rfl,rfl,?_⟩;rw [<-p];refine (Um.local s λ_ e=>e).done ⟨o,c,rfl,rfl,?_⟩;exact (z (c,o) (by simp)).ax (s.mono λ_ _ e=>.inr e) λk _ e=>.inl e
end
end dr
end Go.Proofs.YtmkljjbioomepaaGreat
