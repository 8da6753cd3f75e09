import Derived.Test.YtmkljjbioomepaaGreate25
import Derived.Test.YtmkljjbioomepaaGreate34
import Derived.Test.YtmkljjbioomepaaGreate22
import Derived.Test.YtmkljjbioomepaaGreate24
set_option linter.all false
set_option maxHeartbeats 4000000
set_option maxRecDepth 100000
namespace Go.Proofs.YtmkljjbioomepaaGreat
open Go.Proofs.Tryz Go.bn
variable {P:Program} {Q:Exit->aw->aE} {R:cp} {c:Code} {env:aw} {fn:Func} {bK:Nat} {g8:d9} {s:Int} {w:al}
section
def rD (r:cN) (ok:Bool) (p c:Int):Int:=if r.hb≠0/\ok=false then 1 else if r.hb≠0/\(c=r.Client/\r.hL<=p\/c=r.ez/\r.fu<=p) then 1 else 0
theorem kP (a:∀ env w,Q .ret env w=dh P fn R .ret env w) (h:W P c env (bC P fn R Q) w):W P c env Q w:=(yr a).mp h
theorem s9 (a:∀ env w,Q .ret env w=dh P fn R .ret env w) (h:W P c env Q w):W P c env (bC P fn R Q) w:=(yr a).mpr h
section
variable {R:cp} {u:al} {b1:Nat} {r:cN} {p c:Int} {ok:Bool} {Q:Exit->aw->aE}
 (au:av u b1 [.int .i64 r.Client,.int .i64 r.hL,.int .i64 r.gS,.int .i64 r.View.Number,.slice r.View.e8 r.View.eM r.View.fv,.int .i64 r.ez,.int .i64 r.fu,.int .u64 r.hb] 41) (dp:∀ env w,Q .ret env w=dh prog f127 R .ret env w)
include au dp
theorem DI (e:r.hb≠0/\(c=r.Client/\r.hL<=p\/c=r.ez/\r.fu<=p)->R (.int .i64 1) u) (d:¬ (r.hb≠0/\(c=r.Client/\r.hL<=p\/c=r.ez/\r.fu<=p))->∀ b,Q .normal (pz b) u) (b:aw) :
  W prog (sub (bh f127) [1,1,1,1,1,0,0,1,1,1,1,1,1,1,1]) (yS ⟨b1,0,none⟩ p c b) Q u:=by
 rw [QH];refine kP (P:=prog) (fn:=f127) (R:=R) dp ?_;rw [Ru];repeat' first
  |refine ⟨_,au.cell rfl,?_⟩
  |refine dJ (λ_=>?_) (λ_=>?_)
  |refine dt (λ_=>?_) (λ_=>?_)
  |refine a9 (λ_=>?_) (λ_=>?_)
 all_goals
  try dsimp only
  rw [Rv];refine ev ?_;refine kP (P:=prog) (fn:=f127) (R:=R) dp ?_;rw [Rw];refine fy (λa=>e ?_) (λa=>d ?_ _)
 all_goals first | omega | (have a:=of_decide_eq_true a;omega) | (have a:=of_decide_eq_false a;omega) | (exact absurd a (by simp))
theorem Oj (b:r.hb≠0/\ok=false->R (.int .i64 1) u) (h:r.hb≠0/\(c=r.Client/\r.hL<=p\/c=r.ez/\r.fu<=p)->R (.int .i64 1) u)
  (g:¬ (r.hb≠0/\ok=false)->¬ (r.hb≠0/\(c=r.Client/\r.hL<=p\/c=r.ez/\r.fu<=p))->∀ f,Q .normal (pz f) u) (f:aw) :
  W prog (sub (bh f127) [1,1,1,1,1,0,0,1,1,1,1,1,1]) (vB ⟨b1,0,none⟩ p c ok f) Q u:=by
 rw [QV];refine kP (P:=prog) (fn:=f127) (R:=R) dp ?_;rw [RY];refine ⟨_,au.cell rfl,dt (λd=>?_) (λd=>?_)⟩
 ·refine ev ?_;refine kP (P:=prog) (fn:=f127) (R:=R) dp ?_;rw [Et];refine dZ (λa=>b ⟨d,a⟩) (λa=>?_)
  exact s9 dp <| DI au dp h (g (λe=>by rw [a] at e;cases e.2)) _
 ·refine ev ?_;refine kP (P:=prog) (fn:=f127) (R:=R) dp ?_;rw [Et];refine dw rfl ?_;exact s9 dp <| DI au dp h (g (λe=>e.1 d)) _
theorem Oi (d:R (.int .i64 (if r.ez=r.Client/\r.fu≠r.hL then 1 else if r.ez≠r.Client/\(r.fu<2\/60<r.fu\/Int.tmod r.fu 2≠0) then 2 else rD r ok p c)) u)
  (q:R (.int .i64 0) u->∀ a,Q .normal (pz a) u) (a:aw) :
  W prog (sub (bh f127) [1,1,1,1,1,0,0,1,1]) (yU ⟨b1,0,none⟩ p c ok a) Q u:=by
 have i:∀ a,R (.int .i64 (rD r ok p c)) u->W prog (sub (bh f127) [1,1,1,1,1,0,0,1,1,1,1,1,1]) (vB ⟨b1,0,none⟩ p c ok a) Q u:=λa h=>by
  unfold rD at h;refine Oj au dp (λe=>?_) (λe=>?_) (λn o=>q ?_) a
  ·rw [if_pos e] at h;exact h
  ·by_cases f:r.hb≠0/\ok=false
   ·rw [if_pos f] at h;exact h
   ·rw [if_neg f,if_pos e] at h;exact h
  ·rw [if_neg n,if_neg o] at h;exact h
 rw [Ri];refine kP (P:=prog) (fn:=f127) (R:=R) dp ?_;rw [Sg];have k:∀ a,¬ (r.ez=r.Client/\r.fu≠r.hL)->W prog (sub (bh f127) [1,1,1,1,1,0,0,1,1,1,1]) (yV ⟨b1,0,none⟩ p c ok a) Q u:=λa s=>by
  rw [if_neg s] at d;rw [Rj];refine kP (P:=prog) (fn:=f127) (R:=R) dp ?_;rw [RW];have l:∀ (b:Bool) a,(b=true↔r.ez≠r.Client/\(r.fu<2\/60<r.fu\/Int.tmod r.fu 2≠0))->W prog (sub (bh f127) [1,1,1,1,1,0,0,1,1,1,1,1]) (qQ ⟨b1,0,none⟩ p c ok b a) Q u:=λb a g=>by
   refine kP (P:=prog) (fn:=f127) (R:=R) dp ?_;rw [RX];refine fy (λe=>?_) (λe=>s9 dp <| i _ ?_)
   ·rw [if_pos (g.1 e)] at d;exact d
   ·rw [if_neg (λf=>by rw [g.2 f] at e;cases e)] at d;exact d
  repeat' first
   |refine ⟨_,au.cell rfl,?_⟩
   |refine dJ (λ_=>?_) (λ_=>?_)
   |refine dt (λ_=>?_) (λ_=>?_)
   |refine a9 (λ_=>?_) (λ_=>?_)
  all_goals
   refine ev (l _ _ ?_)
  all_goals first | (simp;omega) | (simp only [bne_iff_ne];omega) | (constructor<;>intro _<;>first | rfl | omega)
 have j:∀ (b:Bool) a,(b=true↔r.ez=r.Client/\r.fu≠r.hL)->W prog (sub (bh f127) [1,1,1,1,1,0,0,1,1,1]) (vA ⟨b1,0,none⟩ p c ok b a) Q u:=λb a g=>by refine kP (P:=prog) (fn:=f127) (R:=R) dp ?_;rw [RV];refine fy (λe=>?_) (λe=>s9 dp <| k _ (λf=>by rw [g.2 f] at e;cases e));rw [if_pos (g.1 e)] at d;exact d
 repeat' first
  |refine ⟨_,au.cell rfl,?_⟩
  |refine dJ (λ_=>?_) (λ_=>?_)
  |refine dt (λ_=>?_) (λ_=>?_)
  |refine a9 (λ_=>?_) (λ_=>?_)
 all_goals
  refine ev (j _ _ ?_)
 all_goals first | (simp;omega) | (simp only [bne_iff_ne];omega) | (constructor<;>intro _<;>first | rfl | omega)
theorem DJ {b:Bool} (f:b=true↔r.gS<98\/256<r.gS) (a:R (.int .i64 (if r.gS<98\/256<r.gS then 18 else if r.ez=r.Client/\r.fu≠r.hL then 1 else if r.ez≠r.Client/\(r.fu<2\/60<r.fu\/Int.tmod r.fu 2≠0) then 2 else rD r ok p c)) u)
  (h:R (.int .i64 0) u->∀ d,Q .normal (pz d) u) (d:aw) :
  W prog (sub (bh f127) [1,1,1,1,1,0,0,1]) (vz ⟨b1,0,none⟩ p c ok b d) Q u:=by
 refine kP (P:=prog) (fn:=f127) (R:=R) dp ?_;rw [rx];refine fy (λe=>?_) (λe=>s9 dp <| Oi au dp ?_ h _)
 ·rw [if_pos (f.1 e)] at a;exact a
 ·rw [if_neg (λg=>by rw [f.2 g] at e;cases e)] at a;exact a
end
abbrev mg (w:al) (k:Int):cp:=λx w'=>x=.int .i64 k/\ai w w'
theorem H7 {r:cN} {j:bz} (h:p6 w r j):ba 127 [r.val] w (mg w j.valid):=by
 refine bc Tryz.func127 ?_;rw [TE];rintro b1 w1 l o;obtain ⟨au,f⟩:=bk l o;have au:av w1 b1 [.int .i64 r.Client,.int .i64 r.hL,.int .i64 r.gS,.int .i64 r.View.Number,.slice r.View.e8 r.View.eM r.View.fv,.int .i64 r.ez,.int .i64 r.fu,.int .u64 r.hb] 41:=au;clear o l;obtain ⟨s,t,u,⟨I,g⟩,y,A,B,hu⟩:=h;have d:j.valid=if fE r.hL r.Client≠0 then fE r.hL r.Client else if r.ez<0\/6<=r.ez then 1 else if j.v.valid 5≠0 then j.v.valid 5 else if r.gS<98\/256<r.gS then 18 else if r.ez=r.Client/\r.fu≠r.hL then 1 else if r.ez≠r.Client/\(r.fu<2\/60<r.fu\/Int.tmod r.fu 2≠0) then 2 else rD r (l6 r.hb) (j' r.hb) (ka r.hb):=by unfold bz.valid bz.tail rD;rw [s,t,u,y,A,B];cases J:l6 j.prev<;>by_cases F:j.prev=0<;>simp [F]
 rw [d];clear d s t u y A B;refine ⟨_,au.cell (i:=1) rfl,_,au.cell (i:=0) rfl,?_⟩;refine aD (uG w1 r.hL r.Client) ?_;rintro x G ⟨rfl,rfl⟩;refine ⟨_,_,rfl,dt (λhe=>⟨by rw [if_pos he],f⟩) (λhe=>?_)⟩
 rw [if_neg (λe=>e he),Rh,QG];refine kP (λ_ _=>rfl) ?_;rw [Se];generalize k:(if r.ez<0\/6<=r.ez then (1:Int) else _)=V;have q:∀ (b:Bool) a,(b=true↔r.ez<0\/6<=r.ez)->W prog (sub (bh f127) [1,1,0,1]) (vy ⟨b1,0,none⟩ b a) (a1 (λenv z=>W prog (sub (bh f127) [1,1,1]) env (dh prog f127 (mg w V)) z) (dh prog f127 (mg w V))) G:=λb a C=>by
  refine kP (P:=prog) (fn:=f127) (R:=mg w V) (λ_ _=>rfl) ?_;rw [rt];refine fy (λe=>⟨by rw [<-k,if_pos (C.1 e)],f⟩) (λe=>?_)
  rw [if_neg (λD=>by rw [C.2 D] at e;cases e)] at k;refine ev ?_;refine kP (P:=prog) (fn:=f127) (R:=mg w V) (λ_ _=>rfl) ?_;rw [Sf];refine cO.aS r.View ⟨bI au rfl,?_⟩;refine aD (Bw (g.new f) 5) ?_;rintro x H ⟨rfl,n⟩;have au:=ai.ak n au;have f:=f.new n;refine ⟨_,rfl,dt (λaj=>⟨by rw [<-k,if_pos aj],f⟩) (λaj=>⟨_,au.cell (i:=7) rfl,?_⟩)⟩;rw [if_neg (λe=>e aj)] at k;refine aD (F_ H hu) ?_;rintro x p ⟨rfl,rfl⟩;have fin:mg w V (.int .i64 0) p->∀ a,W prog (sub (bh f127) [1,1,1,1,1,1]) (pz a) (bC prog f127 (mg w V) (dh prog f127 (mg w V))) p:=λh a=>by rw [Rx];exact h
  have c:mg w V (.int .i64 V) p:=⟨rfl,f⟩;refine ⟨_,_,_,rfl,_,au.cell (i:=2) rfl,a9 (λE=>?_) (λE=>⟨_,au.cell (i:=2) rfl,?_⟩)⟩
  ·refine DJ (R:=mg w V) au ?_ ?_ ?_ ?_ _
   ·exact λ_ _=>rfl
   ·simp;omega
   ·rw [k];exact c
   ·exact λh a=>oF (ev (fin h a))
  ·refine DJ (R:=mg w V) au ?_ ?_ ?_ ?_ _
   ·exact λ_ _=>rfl
   ·simp;omega
   ·rw [k];exact c
   ·exact λh a=>oF (ev (fin h a))
 refine ⟨_,au.cell (i:=5) rfl,a9 (λaA=>ev (q _ _ ?_)) (λaA=>⟨_,au.cell (i:=5) rfl,ev (q _ _ ?_)⟩)⟩
 ·simp;omega
 ·simp;omega
end
section
def lT (j:bz):aO:=j.v.mem.getD 0 jn
def gp (j:bz) (G:List (List aC)):List aG×dj×Bool:=
 if j.valid≠0 then ([],⟨j.valid,0,0,0,0⟩,true) else match (hH j (lT j) G).1.ask with
 |some vs=>(vs,⟨0,0,0,0,0⟩,false)
 |none=>if (hH j (lT j) G).1.di=true\/(hH j (lT j) G).1.a7≠[] then ([],⟨6,0,0,0,0⟩,true) else ([],(hH j (lT j) G).2,true)
def t6 (w:al) (j:bz) (G:List (List aC)) (v:a0) (u:al):Prop:=
 ∃ (aa:an) (ac:Nat) (a:List aF),v=.tuple #[.slice aa a.length ac,(gp j G).2.1.val,.bool (gp j G).2.2]/\ai w u/\bg u aa (dz a).flatten/\(∀ k,aL aa k->w.heap.size<=k)/\dX (λk=>k<w.heap.size) u a (gp j G).1
theorem t6.nil {w u:al} {j:bz} {G:List (List aC)} {o:dj} {b:Bool} (h:gp j G=([],o,b)) (c:ai w u):t6 w j G (.tuple #[.slice none 0 0,o.val,.bool b]) u:=
 ⟨none,0,[],by rw [h];rfl,c,.inl rfl,λk a=>absurd a mM,by rw [h];exact ⟨rfl,λi v x aj=>by simp at aj⟩⟩
theorem v7 {u:al} {b:Nat} {cs:aw} (au:av u b cs oc) (g:cs.length=5) (o:dj) {K:dj->aE} (f:∀ e,ao (λk=>k=b) u e->K o e) :
  dR u ⟨b,0,none⟩ 0 o.cells/\∀ a,a=cl u ⟨b,0,none⟩ 0 o.cells->dj.ex λres=>b7 a ⟨b,0,none⟩ 0 res.cells/\a=a/\K res a:=
 dC au (vs:=o.cells) (by rw [g];rfl) (dj.single _) λa d c=>dj.aS o ⟨bI d rfl,rfl,f a c⟩
theorem Mw {A:a2} {r:cN} {j:bz} (Uj:p6 w r j) {gA:an} {dA gc:Nat} {G:List (List aC)} (Vc:hj A w gA G) (UX:dA=G.length) (UW:dA<=gc) :
  ba 93 [r.val,.slice gA dA gc] w (t6 w j G):=by
 refine bc Tryz.func93 ?_;rw [TO];rintro b1 bH UR UB;obtain ⟨q,Uy⟩:=bk UR UB;have q:av bH b1 r.cells 41:=q;clear UB;rintro az bY US UC;obtain ⟨F,z⟩:=bk US UC;have F:av bY az (dj.cells ⟨0,0,0,0,0⟩) oc:=F;clear UC;have J:=Uy.new z;have Vk:=Uy.size;have Ve:=q.lt;have Vf:=F.lt;refine cN.aS r ⟨bI (ai.ak z q) rfl,?_⟩;refine aD (H7 (Uj.new J)) ?_;rintro v br ⟨rfl,B⟩;have L:=J.new B;have V:=ai.ak B F;refine ⟨_,rfl,dt (λaj=>?_) (λaj=>?_)⟩
 ·refine v7 V rfl ⟨j.valid,0,0,0,0⟩ (K:=λres Us=>t6 w j G (.tuple #[.slice none 0 0,res.val,.bool true]) Us) λVy UY=>t6.nil ?_ (L.trans UY λk a e=>by omega)
  unfold gp;rw [if_pos aj]
 have g:=Km aj (Uj.prev▸Uj.u64);obtain ⟨bJ,Ul⟩:∃ bJ,j.v.mem[0]?=some bJ:=⟨_,bM g.mem.1⟩;have U0:lT j=bJ:=by unfold lT;rw [cK,Ul];rfl
 rintro U3 UD;have C:ai br U3:=by rw [UD];exact cL _
 clear UD;have M:=L.new C;have s:=ai.ak ((z.new B).new C) q;refine ⟨λy=>ai U3 y,ao.refl _ _,cN.aS r ⟨λy U2=>bI (ai.ak U2 s) rfl,?_⟩⟩;refine aD (CP U3 gA dA gc) ?_;rintro v U9 ⟨tb,rfl,Vq,UK,f⟩;refine ⟨_,rfl,f,?_⟩;rintro Ut Vs UT UE;obtain ⟨Uq,D⟩:=bk UT UE;have Uq:av Vs Ut (oL r tb ⟨0,0,false⟩ 0 ⟨none,0,0,0⟩ (0,0)) nv:=Uq;clear UE;have Vo:=f.size;have U8:=M.size;have Vl:=z.size;have Vm:=B.size;have Vn:=C.size;have Vh:=UK.lt;refine ⟨f.new D,cO.aS r.View ⟨bI (ai.ak (f.new D) s) rfl,?_⟩⟩;obtain ⟨Vu,Up⟩:=Uj.view;have N:=(M.new f).new D;refine aD (AI (Up.new N) Ul) ?_;rintro v u8 ⟨rfl,Um⟩;have UM:=ai.ak Um Uq;refine aO.aS bJ ⟨true,rfl,fI UM (by simp [oL,aO.cells,cN.cells]) (aO.single _),?_⟩;rintro Uu Uo;have Ur:av Uu Ut (oL r tb bJ 0 ⟨none,0,0,0⟩ (0,0)) nv:=by rw [Uo];exact UM.cl (o:=9) (i:=0) (vs:=bJ.cells)
 have Uv:ao (λk=>k=Ut) u8 Uu:=by rw [Uo];exact ht _ _ _ _ _
 clear Uo;have Uz:ai w Uu:=(N.new Um).trans Uv λk a e=>by omega
 have R:ai U9 Uu:=(D.new Um).trans Uv λk a e=>by omega
 have U:av Uu b1 r.cells 41:=ai.ak (f.new R) s;refine ⟨_,U.cell (i:=1) rfl,_,U.cell (i:=0) rfl,?_⟩;refine aD (uG Uu r.hL r.Client) ?_;rintro v U5 ⟨rfl,rfl⟩;refine ⟨_,_,rfl,⟨_,Ur.cell (i:=12) rfl⟩,Ur.frozen,?_⟩;rintro c p;have I:ao (λk=>k=Ut) U5 c:=by rw [p];exact eA _ _ _ _
 have UG:av c Ut (oL r tb bJ (f_ j.inc j.aP) ⟨none,0,0,0⟩ (0,0)) nv:=by rw [p,<-Uj.inc,<-Uj.aP];exact Ur.setCell (i:=12) _
 clear p;have O:ai w c:=Uz.trans I λk a e=>by omega
 have l:ai U9 c:=R.trans I λk a e=>by omega
 have UL:av c tb (ee.cells ⟨gA,dA,gc,none,0,0,false⟩) og:=ai.ak l UK;have UH:av c az (dj.cells ⟨0,0,0,0,0⟩) oc:=ai.ak ((C.new f).new l) V;have UU:c6 w c Ut tb r bJ j ⟨none,0,0,0⟩ (0,0):=⟨UG,Uj,g,Ul,O,by omega,by omega,by omega⟩;have Vb:ek A w c tb ⟨gA,dA,gc,none,0,0,false⟩ G:=⟨UL,Vc,UX,UW⟩;refine aD (Mv UU Vb ⟨rfl,rfl⟩) ?_;rintro v U_ ⟨rfl,E⟩;have Vp:=l.size;have UN:av U_ az (dj.cells ⟨0,0,0,0,0⟩) oc:=E.ax.ak UH (by omega);have U1:ai w U_:=O.trans E.ax λk a e=>by omega
 obtain ⟨Vv,t⟩:=E.ak;obtain ⟨T,u,Ui,x⟩:=E.hp;rw [<-U0] at u Ui x t;have U7:∀ (X:Prop),X->X:=λ_ h=>h
 refine ⟨rfl,_,t.cell (i:=8) rfl,?_⟩;refine aD (Ci u.ak) ?_;rintro v Vz ⟨rfl,n⟩;have W:=ai.ak n UN;have Z:=ai.ak n t;have P:=U1.new n;cases b:(hH j (lT j) G).1.ask with
 |some vs=>
  rw [b] at x;obtain ⟨Vw,w1,U',Vx,U6⟩:=x;have UQ:=U6.len;refine ⟨_,_,_,_,rfl,fK (by simp;omega) ?_⟩;refine v7 W rfl ⟨0,0,0,0,0⟩ (K:=λres Us=>t6 w j G (.tuple #[.slice T.aa T.cW T.ac,res.val,.bool false]) Us) λU4 Uw=>?_
  have Va:bD w1 U4 T.aa T.cW T.ac vs:=(U6.new n).ax Uw λk e=>by omega
  obtain ⟨⟨UO,Vi,UF⟩,Vg,UV⟩:=Va;have Vj:=UF.1;have Vr:=U'.size;have UA:gp j G=(vs,⟨0,0,0,0,0⟩,false):=by unfold gp;rw [if_neg (by simpa using aj),b]
  refine ⟨T.aa,T.ac,UO,?_,P.trans Uw λk a e=>by omega,Vi.rd,λk Vd=>by have:=UV k Vd;omega,?_⟩
  ·rw [UA,UQ,Vj]
  ·rw [UA];exact UF.ax (ao.refl _ _) λk a e=>.inl (by omega)
 |none=>
  rw [b] at x;refine ⟨_,_,_,_,rfl,dw (by simp;omega) ?_⟩;refine ⟨_,Z.cell (i:=8) rfl,?_⟩;refine aD (Cj (ai.ak n u.ak)) ?_;rintro v U4 ⟨rfl,Un⟩;have Y:=ai.ak Un W;have UI:=ai.ak Un Z;have Q:=P.new Un;have H:=u.dA;refine ⟨_,rfl,?_⟩;cases hm:(T.di || decide ((T.dA:Int)>0)) with
  |true=>
   refine v7 Y rfl ⟨6,0,0,0,0⟩ (K:=λres Us=>t6 w j G (.tuple #[.slice none 0 0,res.val,.bool true]) Us) λVt Uk=>t6.nil ?_ (Q.trans Uk λk a e=>by omega)
   unfold gp;rw [if_neg (by simpa using aj),b];refine if_pos ?_;rw [Ui] at hm;rw [r2] at hm;rcases hm with hm | hm
   ·exact .inl hm
   ·right;intro e;rw [e] at H;simp at hm H;omega
  |false=>
   rintro UP S;have d:ai U4 UP:=by rw [S];exact cL _
   clear S;have UJ:=ai.ak d UI;refine ⟨λy=>ai UP y,ao.refl _ _,dj.aS (hH j (lT j) G).2 ⟨λy U2=>bI (ai.ak U2 UJ) rfl,?_⟩⟩;refine v7 (ai.ak d Y) rfl (hH j (lT j) G).2 (K:=λres Us=>t6 w j G (.tuple #[.slice none 0 0,res.val,.bool true]) Us) λVt Uk=>t6.nil ?_ ((Q.new d).trans Uk λk a e=>by omega)
   unfold gp;rw [if_neg (by simpa using aj),b];refine if_neg ?_;rw [Ui] at hm;obtain ⟨Ux,UZ⟩:=Bool.or_eq_false_iff.1 hm;rintro (e | e)
   ·rw [e] at Ux;cases Ux
   ·apply e;apply fb;simp at UZ <;> omega
end
section
open dq
theorem J3 (h:1<=s/\s<1073741824):eg s=4 * s+2:=by
 obtain ⟨n,rfl⟩:∃ n:Nat,s=n:=⟨s.toNat,by omega⟩;have b:hN .u64 (n:Int) 2=((n * 4:Nat):Int):=by show IntKind.u64.wrap ((n:Int) * 2 ^ 2)=_;have:(2:Int) ^ 2=4:=rfl;rw [this,jt (by omega) (by omega)];omega
 unfold eg;rw [b,show (2:Int)=((2:Nat):Int) from rfl,tz _ _ (by omega) (by omega)];have a:=uC n 2 2 (by omega);have c:(2:Nat) ^ 2=4:=rfl;rw [c] at a;rw [a];omega
theorem Ba (h:1<=s/\s<1073741824):g9 (eg s)=(s,true):=by
 obtain ⟨_,e⟩:=yg (xB s);have a:c5 .u64 (eg s) 2=s:=by rw [e,J3 h];omega
 unfold g9;rw [a,if_pos ⟨h.1,h.2,rfl⟩]
theorem J4:g9 0=(0,false):=by
 obtain ⟨_,e⟩:=yg gQ;have a:c5 .u64 0 2=0:=by rw [e];rfl
 unfold g9;rw [a,if_neg (by omega)]
section
variable {E:Env} {m:Nat} {L:a4}
end
section
variable {E:Env} {Ls:List a4}
end
end
section
open dq
def bV (E:Env) (c:Nat):bz:=⟨(c:Int),1,(E.L:Int),h9 E.n,0,2,0⟩
def ia (c:Nat):Int:=256+((c:Int)+1)
section
variable {E:Env} {c:Nat}
theorem xV (a:c<6):fE 1 c=0/\f_ 1 c=ia c:=by have h:fE 1 c=0:=CW rfl (by omega);exact ⟨h,by rw [xG h];rfl⟩
theorem p3:(bV E c).v.mem=(List.range E.n).map bb:=rfl
theorem Mx {n:Nat} (h:1<=n/\n<=5):(h9 n).valid 5=0:=by
 obtain rfl | rfl | rfl | rfl | rfl:n=1\/n=2\/n=3\/n=4\/n=5:=by omega
 all_goals kernel_rfl
theorem Bb (aJ:dP E) (i:1<=c/\c<6):(bV E c).valid=0:=by
 have k:=aJ.e.L;have g:fE (bV E c).inc (bV E c).aP=0:=(xV i.2).1;have a:(bV E c).v.valid 5=0:=Mx aJ.e.n;unfold bz.valid;rw [g,a];show (if (0:Int)≠0 then (0:Int) else if (0:Int)<0\/6<=(0:Int) then 1 else if (0:Int)≠0 then 0 else (bV E c).tail)=0;rw [if_neg (by omega),if_neg (by omega),if_neg (by omega)];unfold bz.tail;have b:¬ ((bV E c).lines<98\/256<(bV E c).lines):=by show ¬ ((E.L:Int)<98\/256<(E.L:Int));omega
 have d:¬ ((bV E c).dead=(bV E c).aP/\(bV E c).dL≠(bV E c).inc):=by show ¬ ((0:Int)=(c:Int)/\_);omega
 have f:¬ ((bV E c).dead≠(bV E c).aP/\((bV E c).dL<2\/60<(bV E c).dL\/Int.tmod (bV E c).dL 2≠0)):=by have j:Int.tmod (bV E c).dL 2=0:=rfl;have a:(bV E c).dL=2:=rfl;omega
 rw [if_neg b,if_neg d,if_neg f];exact if_neg λh=>h.1 rfl
theorem Dj (b:1<=E.n):lT (bV E c)=bb 0:=by unfold lT;rw [p3];obtain ⟨k,a⟩:∃ k,E.n=k+1:=⟨E.n - 1,by omega⟩;rw [a,r4];rfl
theorem Dk {m:Nat} (hm:m<E.n):(bV E c).v.mem.getD m jn=bb m:=by rw [p3,cK,eL,lA hm];rfl
theorem zh (m:Nat) (a o w:Int):qs (bV E c) (bb m) a o w=cS m a o w:=rfl
theorem xb:cJ (bV E c)=[⟨0,2,true⟩]:=by unfold cJ;rw [if_neg (λh=>by have:l6 (0:Int)=false:=rfl;have a:l6 0=true:=h.1;rw [this] at a;cases a)];rfl
theorem Bc {α β:Type} {f:α->β}:∀ (l:List α),(l.map λx=>[f x]).flatten=l.map f
 | []=>rfl
 |a::l=>by rw [g',hr,Bc l];rfl
def il (n:Nat):List aG:=(List.range n).map λm=>c_ m 24 1
def ga (g8:d9):List aG:=g8.map λm=>cS m 24 1 2
def gX (c:Nat):List aG:=[cS 0 49 0 (ia c)]
def gC (n:Nat):List aG:=((List.range n).map λm=>[c_ m 24 1,c_ m 48 120]).flatten++[c_ 0 32 1]
def j3 (E:Env) (l:List aR):List aG:=((List.range (E.n - 1)).map λm=>l.map (ep (m+1))++[b5 (m+1) 32 [gP E]]).flatten
def lY (E:Env) (l:List aR):List aG:=b5 0 32 [gP E]::l.map (ep 0)
def h2 (c:Nat):List aG:=[cS 0 49 (ia c) 0]
theorem Ar:g1 (bV E c)=il E.n:=by unfold g1 il;rw [xb,p3,jZ];exact Bc (List.range E.n) (f:=λm=>c_ m 24 1)
theorem C4 (i:Nat):fJ (bV E c) i=⟨0,2,true⟩:=by unfold fJ;rw [xb];show ([⟨0,2,true⟩]:List c4).getD (i % 1) oD=_;rw [Nat.mod_one];rfl
theorem MW {i:Nat} (h:i<E.n):mI (bV E c) i=bb i:=by unfold mI;rw [xb];show (bV E c).v.mem.getD (i / 1) jn=_;rw [Nat.div_one];exact Dk h
def th (n:Nat) (ds:List aC):d9:=(List.range n).filter λi=>dv ds i == 1
theorem Bd {ds:List aC} (h:∀ i,i<E.n->dv ds i=1\/dv ds i=2):∀ {k:Nat},k<=E.n->hy (bV E c) ds k=(th k ds).map λm=>(cS m 24 1 2,(⟨0,2,true⟩:c4))
 | 0,_=>rfl
 |k+1,a=>by
  rw [zo,Bd h (by omega)];unfold th rM sh;rw [k0,zY,jx,C4,MW (by omega),zh];congr 1;rcases h k (by omega) with e | e
  ·rw [if_pos (show dv ds k<2 by omega)];simp [e]
  ·rw [if_neg (show ¬ dv ds k<2 by omega)];simp [e]
def d3 (g8:d9) (X:List (List aC)):b2:=oX (g8.map λm=>(cS m 24 1 2,(⟨0,2,true⟩:c4))) (bR X (ga g8))
def pR (X:List (List aC)):b2:=⟨true,[],(0,0),X,none,false⟩
def Kp (E:Env) (c:Nat) (G:List (List aC)) (f:List (List aC)->b2×dj):Prop:=∀ X,hH (bV E c) (bb 0) (G++X)=f X
theorem Kp.next {G:List (List aC)} {f f':List (List aC)->b2×dj} (h:Kp E c G f) {D:List aC} (a:∀ X,f (D::X)=f' X):Kp E c (G++[D]) f':=λX=>by rw [jW];exact (h ([D]++X)).trans (a X)
theorem Kp.ask (aJ:dP E) (b:1<=c/\c<6) {G:List (List aC)} {f:List (List aC)->b2×dj} (h:Kp E c G f) {vs:List aG} (a:(f []).1.ask=some vs):gp (bV E c) G=(vs,⟨0,0,0,0,0⟩,false):=by have:=h [];rw [g_] at this;unfold gp;rw [if_neg (by rw [Bb aJ b];simp),Dj aJ.e.n.1,this,a]
theorem Kp.out (aJ:dP E) (g:1<=c/\c<6) {G:List (List aC)} {f:List (List aC)->b2×dj} (h:Kp E c G f) (a:(f []).1.ask=none) (b:(f []).1.di=false) (d:(f []).1.a7=[]):gp (bV E c) G=([],(f []).2,true):=by have:=h [];rw [g_] at this;unfold gp;rw [if_neg (by rw [Bb aJ g];simp),Dj aJ.e.n.1,this,a];simp only;rw [if_neg (by rw [b,d];simp)]
theorem sf {vs:List aG} (h:vs≠[]):bR [] vs=⟨false,[],(0,0),[],some vs,false⟩:=mD h 0
theorem tC {vs:List aG} {D:List aC} (h:vs≠[]) (a:Fit vs D) (X:List (List aC)):bR (D::X) vs=⟨true,D,(0,0),X,none,false⟩:=mF X h a 0
def sT (E:Env) (c:Nat):List (List aC)->b2×dj:=hH (bV E c) (bb 0)
def oq (E:Env) (c:Nat) (X:List (List aC)):b2×dj:=rn (bV E c) (bb 0) (hQ (bV E c) (bb 0) X)
def pF (E:Env) (c:Nat) (g8:d9) (X:List (List aC)):b2×dj:=if (d3 g8 X).ok=false then (d3 g8 X,h5 (d3 g8 X).out) else oq E c (d3 g8 X).a7
def pG (E:Env) (c:Nat) (X:List (List aC)):b2×dj:=rn (bV E c) (bb 0) (pR X)
def mC (E:Env) (c:Nat) (Ls:List a4) (clk:Int) (dE:Int×Int) (S:b2):b2×dj:=pX (bV E c) (bb 0) Ls clk (dE,S)
theorem El:Kp E c [] (sT E c):=λX=>rfl
theorem yi (a:1<=E.n):il E.n≠[]:=by unfold il;intro e;have:=congrArg List.length e;simp at this <;> omega
theorem MX (a:1<=E.n):(sT E c []).1.ask=some (il E.n):=by unfold sT hH g2 si;rw [Ar,sf (yi a)];rfl
theorem My (f:1<=E.n) {D:List aC} (a:Fit (il E.n) D) (hw:∀ i,i<E.n->dv D i=1\/dv D i=2) (X:List (List aC)):sT E c (D::X)=pF E c (th E.n D) X:=by
 have e:D.length=E.n:=by rw [a.len];unfold il;simp
 have b:(List.range D.length).any (i' (bV E c) D)=false:=by rw [wT];intro i d;have:=hw i (by have:=dS.1 d;omega);unfold i';rw [C4];simp;show dv D i<=2;omega
 have aA:g2 (bV E c) (D::X)=d3 (th E.n D) X:=by unfold g2;rw [Ar,tC (yi f) a];unfold si;simp only;rw [if_neg (by simp),if_neg (by rw [b];simp),e,Bd hw (dd _)];unfold d3 ga;rw [jZ];rfl
 unfold sT hH pF oq;rw [aA]
theorem MY (h:g8≠[]):(pF E c g8 []).1.ask=some (ga g8):=by
 have au:ga g8≠[]:=by unfold ga;simpa using h
 unfold pF d3 oX;rw [sf au];rfl
theorem Mz (h:g8≠[]) {D:List aC} (a:Fit (ga g8) D) (hw:∀ i,i<g8.length->dv D i=1\/dv D i=2) (X:List (List aC)):pF E c g8 (D::X)=oq E c X:=by
 have au:ga g8≠[]:=by unfold ga;simpa using h
 have f:D.length=g8.length:=by rw [a.len];unfold ga;simp
 have aA:d3 g8 (D::X)=pR X:=by
  unfold d3 oX;rw [tC au a];simp only;have d:(List.range D.length).any (my (g8.map λm=>(cS m 24 1 2,(⟨0,2,true⟩:c4))) D)=false:=by rw [wT];intro i b;have b:=dS.1 b;have hw:=hw i (by omega);obtain ⟨m,hm⟩:∃ m,g8[i]?=some m:=⟨_,bM (by omega)⟩;unfold my lJ;rw [cK,eL,hm];show ¬ ((decide (dv D i≠1) && (decide (dv D i≠2) && (true || decide (dv D i<2))))=true);rcases hw with e | e<;>simp [e]
  rw [if_neg (by simp),if_neg (by rw [d];simp)];rfl
 unfold pF;rw [aA];exact if_neg (by simp [pR])
theorem As (a:c<6):[iQ (bV E c) (bb 0)]=gX c:=by unfold iQ gX;rw [zh];show [cS 0 49 0 (f_ 1 c)]=_;rw [(xV a).2]
theorem MZ (a:c<6):(oq E c []).1.ask=some (gX c):=by unfold oq hQ;rw [As a,sf (by simp [gX])];rfl
theorem MA (b:c<6) {D:List aC} (d:Fit (gX c) D) (a:sm D=0) (X:List (List aC)):oq E c (D::X)=pG E c X:=by unfold oq hQ pG;rw [As b,tC (by simp [gX]) d,if_neg (by simp)];simp only;rw [a,if_neg (λh=>h.1 rfl)];rfl
theorem At:fh (bV E c) (bb 0)=gC E.n:=by unfold fh gC;rw [p3,jZ];rfl
theorem yj (n:Nat):gC n≠[]:=by unfold gC;simp
theorem M0:(pG E c []).1.ask=some (gC E.n):=by unfold pG rn fi qt pR;rw [At,sf (yj _)];rfl
def m' (n:Nat) (D:List aC):List a4:=(List.range n).map λi=>(D.getD (2 * i+1) ⟨0,[]⟩).words
theorem MB {D:List aC} (h:Fit (gC E.n) D) (aA:∀ i,i<E.n->dv D (2 * i)=2) (X:List (List aC)):pG E c (D::X)=mC E c (m' E.n D) (dv D (2 * E.n)) (eC (bV E c) (bb 0) (m' E.n D) X).1 (eC (bV E c) (bb 0) (m' E.n D) X).2:=by
 have a:(bV E c).v.mem.length=E.n:=by rw [p3];simp
 have b:bR (D::X) (fh (bV E c) (bb 0))=⟨true,D,(0,0),X,none,false⟩:=by rw [At];exact tC (yj _) h X
 have d:lV (bV E c) D E.n=true:=by unfold lV;rw [gd];intro i j;exact beq_iff_eq.2 (aA i (dS.1 j))
 have e:fi (bV E c) (bb 0) (D::X)=pR X:=by unfold fi qt;rw [b,if_neg (by simp)];simp only;rw [a,if_pos d];rfl
 have f:jR (bV E c) (bb 0) (D::X)=m' E.n D:=by unfold jR qj;rw [b,a];rfl
 have g:mf (bV E c) (bb 0) (D::X)=dv D (2 * E.n):=by unfold mf rN;rw [b,a]
 unfold pG rn;rw [if_neg (by simp [pR])];show (if (fi (bV E c) (bb 0) (D::X)).ok=false then _ else pX _ _ (jR (bV E c) (bb 0) (D::X)) (mf (bV E c) (bb 0) (D::X)) (eC _ _ (jR (bV E c) (bb 0) (D::X)) (fi (bV E c) (bb 0) (D::X)).a7))=_;rw [e,f,g,if_neg (by simp [pR])];rfl
end
end
section
open dq
section
variable {E:Env} {c:Nat}
theorem MC (b:1<=E.n):(bV E c).v.mem.tail=(List.range (E.n - 1)).map λm=>bb (m+1):=by
 rw [p3];cases a:E.n with
 |zero=>omega
 |succ k=>rw [r4];simp
def y4 (D:List aC) (X:List (List aC)):b2:=⟨true,D,(0,0),X,none,false⟩
def yv (vs:List aG):b2:=⟨false,[],(0,0),[],some vs,false⟩
theorem N_ (b:1<E.n) (l:List aR):j3 E l≠[]:=by obtain ⟨k,a⟩:∃ k,E.n - 1=k+1:=⟨E.n - 2,by omega⟩;unfold j3;rw [a,r4];simp
theorem M1 (a:E.n=1) (l:List aR):j3 E l=[]:=by unfold j3;rw [a];rfl
def ot (E:Env) (c:Nat) (Ls:List a4) (clk:Int) (dE:Int×Int) (X:List (List aC)):b2×dj:=
 if (bR X (h2 c)).ok=false then (bR X (h2 c),h5 (bR X (h2 c)).out) else (bR X (h2 c),⟨0,dE.1,dE.2,iv E.L clk Ls,0⟩)
variable {Ls:List a4} {clk:Int} {dE:Int×Int}
theorem M3 (a:c<6) (X:List (List aC)):hd (bV E c) (bb 0) X=bR X (h2 c):=by unfold hd h2;rw [zh];show bR X [cS 0 49 (f_ 1 c) 0]=_;rw [(xV a).2]
theorem N' (a:c<6) {S:b2} (h:S.ok=true):mC E c Ls clk dE S=ot E c Ls clk dE S.a7:=by unfold mC pX ot;rw [if_neg (by rw [h];simp),M3 a];rfl
theorem MH (vs:List aG):(mC E c Ls clk dE (yv vs)).1.ask=some vs:=by unfold mC pX;rw [if_pos (show (yv vs).ok=false from rfl)];rfl
theorem MI:(ot E c Ls clk dE []).1.ask=some (h2 c):=by unfold ot;rw [sf (by simp [h2])];rfl
theorem MD {D:List aC} (a:Fit (h2 c) D) (X:List (List aC)):ot E c Ls clk dE (D::X)=(y4 D X,⟨0,dE.1,dE.2,iv E.L clk Ls,0⟩):=by unfold ot;rw [tC (by simp [h2]) a];exact if_neg (by simp)
end
end
section
open dq
section
variable {E:Env}
def eG (E:Env):Nat->List aG
 | 0=>(List.range E.n).map λm=>b5 m 56 (zj E)
 | 1=>(gu E).map λp=>cS 0 (p.bm * 8) p.Head (eP p.Head 0)
 | 2=>(List.range E.n).map λm=>b5 m 48 [zk E]
 | 3=>j3 E (gu E)
 | _=>lY E (gu E)
def Oa:Nat->Int
 | 0=>1
 | 1=>1
 | 2=>2
 | _=>3
def xW (E:Env):List (List (List aC)->b2):=nU (E.a8 0)
def kv (E:Env) (bK:Nat) (G:List (List aC)):Prop:=∀ X,runM (E.a8 0) (G++X)=f9 ((xW E).drop bK) X
theorem J5 (aJ:dP E):e_ (E.a8 0)=eG E 0:=aJ.bs.On
theorem Be (aJ:dP E):c2 (E.a8 0)=eG E 1:=by rw [aJ.bs.sZ aJ.e.n.1,aJ.rd];simp;rfl
theorem J6 (aJ:dP E):gM (E.a8 0)=eG E 2:=aJ.bs.P3
theorem KU (aJ:dP E):hW (E.a8 0)=eG E 3:=aJ.bs.qG
theorem ME (aJ:dP E):fo (E.a8 0)=eG E 4:=aJ.bs.ov aJ.e.n.1
theorem uy (aJ:dP E):∀ bK,bK<=4->(bK=3->1<E.n)->eG E bK≠[]
 | 0,_,_=>by have:=aJ.e.n;intro e;have:=congrArg List.length e;simp [eG] at this;omega
 | 1,_,_=>by have:=aJ.bs.some_;simpa [eG] using this
 | 2,_,_=>by have:=aJ.e.n;intro e;have:=congrArg List.length e;simp [eG] at this;omega
 | 3,_,h=>N_ (h rfl) _
 | 4,_,_=>by simp [eG,lY]
def tl (E:Env):Nat->List (List aC)->b2
 | 0=>qw (E.a8 0)
 | 1=>jO (E.a8 0)
 | 2=>pd (E.a8 0)
 | 3=>i_ (E.a8 0)
 | _=>kC (E.a8 0)
theorem xc:∀ bK,bK<=4->(xW E).drop bK=tl E bK::(xW E).drop (bK+1)
 | 0,_=>rfl
 | 1,_=>rfl
 | 2,_=>rfl
 | 3,_=>rfl
 | 4,_=>rfl
theorem xR (aJ:dP E):∀ bK,bK<=4->bK≠1->∀ X,tl E bK X=cd X (eG E bK) (Oa bK)
 | 0,_,_,X=>by rw [<-J5 aJ];exact zR aJ.bs.valid aJ.bs.some_ X
 | 2,_,_,X=>by rw [<-J6 aJ];exact zS aJ.bs.valid aJ.bs.some_ X
 | 3,_,_,X=>by rw [<-KU aJ];rfl
 | 4,_,_,X=>by rw [<-ME aJ];exact tp aJ.bs.valid aJ.bs.some_ X
def uQ (E:Env) (D:List aC):Prop:=∀ (q:Nat) (p:aR) (d:aC),(gu E)[q]?=some p->D[q]?=some d->e5 d=p.Head
theorem Au:∀ {xs:a4} {ds:List aC},(∀ (q:Nat) (x:Int) (d:aC),xs[q]?=some x->ds[q]?=some d->e5 d=x)->fr xs ds=false
 | [],_,_=>by unfold fr;rfl
 |x::xs,[],_=>by unfold fr;rfl
 |x::xs,d::ds,h=>by unfold fr;rw [Au λq jc a b c=>h (q+1) jc a (by simpa using b) (by simpa using c),h 0 x d rfl rfl];simp
theorem H8 (aJ:dP E) {D:List aC} (h:uQ E D):fr (fA (E.a8 0)) D=false:=by
 refine Au λq x d a aA=>?_
 unfold fA at a;rw [aJ.rd,qh,g_,eL] at a;obtain ⟨p,b,rfl⟩:=nW.1 a;exact h q p d b aA
theorem MF (aJ:dP E) (a:bK<=4) (b:bK=3->1<E.n):tl E bK []=yv (eG E bK):=by
 by_cases e:bK=1
 ·subst e;show jO (E.a8 0) []=_;unfold jO;rw [Be aJ,mD (uy aJ 1 (by omega) (by omega))];rfl
 ·rw [xR aJ bK a e];exact mD (uy aJ bK a b) _
theorem MG (aJ:dP E) (b:bK<=4) (d:bK=3->1<E.n) {D:List aC} (a:Fit (eG E bK) D) (f:bK=1->uQ E D) (X:List (List aC)):∃ c,tl E bK (D::X)=y4 c X:=by
 by_cases e:bK=1
 ·subst e;refine ⟨[],?_⟩;have a:Fit (c2 (E.a8 0)) D:=by rw [Be aJ];exact a
  exact Cm aJ.bs.valid aJ.bs.some_ a (H8 aJ (f rfl)) X
 ·refine ⟨D,?_⟩;rw [xR aJ bK b e];exact mF X (uy aJ bK b d) a _
theorem O7:kv E 0 []:=λX=>rfl
theorem kv.next (aJ:dP E) {G:List (List aC)} (h:kv E bK G) (a:bK<=4) (b:bK=3->1<E.n) {D:List aC} (d:Fit (eG E bK) D) (e:bK=1->uQ E D):kv E (bK+1) (G++[D]):=λX=>by obtain ⟨f,c⟩:=MG aJ a b d e X;rw [jW];refine (h ([D]++X)).trans ?_;rw [xc bK a];show hV (tl E bK (D::X)) _=_;rw [c];rfl
theorem kv.skip (aJ:dP E) {G:List (List aC)} (h:kv E 3 G) (a:E.n=1):kv E 4 G:=λX=>by refine (h X).trans ?_;rw [xc 3 (by omega),f9,xR aJ 3 (by omega) (by omega)];show hV (cd X (j3 E (gu E)) 3) _=_;rw [M1 a,zQ];rfl
theorem kv.ask (aJ:dP E) {G:List (List aC)} (h:kv E bK G) (a:bK<=4) (b:bK=3->1<E.n):cX (E.a8 0) G=(eG E bK,(0,0),false):=by have:=h [];rw [g_,xc bK a,f9,MF aJ a b] at this;unfold cX;rw [if_neg (by rw [aJ.bs.valid];simp),this];rfl
theorem kv.done (aJ:dP E) {G:List (List aC)} (h:kv E 5 G):cX (E.a8 0) G=([],(0,3),true):=by have:=h [];rw [g_] at this;unfold cX;rw [if_neg (by rw [aJ.bs.valid];simp),this];rfl
end
end
end Go.Proofs.YtmkljjbioomepaaGreat
