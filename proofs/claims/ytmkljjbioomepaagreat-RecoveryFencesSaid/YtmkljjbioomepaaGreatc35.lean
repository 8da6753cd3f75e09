import Derived.Test.YtmkljjbioomepaaGreatc24
import Derived.Test.YtmkljjbioomepaaGreatc34
import Derived.Test.YtmkljjbioomepaaGreatc21
set_option linter.all false
set_option maxHeartbeats 4000000
set_option maxRecDepth 100000
namespace Go.Proofs.YtmkljjbioomepaaGreat
open Go.Proofs.Tryz Go.br
variable {D:List aL} {G:List (List aL)} {P:Program} {Q:Exit->ax->aE} {R:cA} {b:Bool} {aI:bb} {c:Code} {env:ax} {f:List (List aL)->cn×dz} {fn:Func} {i m:Nat} {j:b2} {p:aJ} {r:dr} {eM:cQ} {s:Int} {u w:ak} {vs:List aP} {x:a0}
section
def sG (r:dr) (ok:Bool) (p c:Int):Int:=if r.gD≠0/\ok=false then 1 else if r.gD≠0/\(c=r.Client/\r.g5<=p\/c=r.ew/\r.fi<=p) then 1 else 0
theorem k8 (a:∀ env w,Q .ret env w=dB P fn R .ret env w) (h:W P c env (bG P fn R Q) w):W P c env Q w:=(zt a).mp h
theorem uq (a:∀ env w,Q .ret env w=dB P fn R .ret env w) (h:W P c env Q w):W P c env (bG P fn R Q) w:=(zt a).mpr h
section
variable {R:cA} {u:ak} {b1:Nat} {r:dr} {p c:Int} {ok:Bool} {Q:Exit->ax->aE}
 (au:av u b1 [.int .i64 r.Client,.int .i64 r.g5,.int .i64 r.fF,.int .i64 r.View.Number,.slice r.View.dL r.View.dN r.View.dW,.int .i64 r.ew,.int .i64 r.fi,.int .u64 r.gD] 41) (dG:∀ env w,Q .ret env w=dB prog f127 R .ret env w)
include au dG
theorem EG (e:r.gD≠0/\(c=r.Client/\r.g5<=p\/c=r.ew/\r.fi<=p)->R (.int .i64 1) u) (d:¬ (r.gD≠0/\(c=r.Client/\r.g5<=p\/c=r.ew/\r.fi<=p))->∀ b,Q .normal (qx b) u) (b:ax) :
  W prog (sub (bo f127) [1,1,1,1,1,0,0,1,1,1,1,1,1,1,1]) (zR ⟨b1,0,none⟩ p c b) Q u:=by
 rw [Rz];refine k8 (P:=prog) (fn:=f127) (R:=R) dG ?_;rw [Sk];repeat' first
  |refine ⟨_,au.cell rfl,?_⟩
  |refine dJ (λ_=>?_) (λ_=>?_)
  |refine dw (λ_=>?_) (λ_=>?_)
  |refine a' (λ_=>?_) (λ_=>?_)
 all_goals
  try dsimp only
  rw [S'];refine eS ?_;refine k8 (P:=prog) (fn:=f127) (R:=R) dG ?_;rw [rg];refine fS (λa=>e ?_) (λa=>d ?_ _)
 all_goals first | omega | (have a:=of_decide_eq_true a;omega) | (have a:=of_decide_eq_false a;omega) | (exact absurd a (by simp))
theorem Pk (b:r.gD≠0/\ok=false->R (.int .i64 1) u) (h:r.gD≠0/\(c=r.Client/\r.g5<=p\/c=r.ew/\r.fi<=p)->R (.int .i64 1) u)
  (g:¬ (r.gD≠0/\ok=false)->¬ (r.gD≠0/\(c=r.Client/\r.g5<=p\/c=r.ew/\r.fi<=p))->∀ f,Q .normal (qx f) u) (f:ax) :
  W prog (sub (bo f127) [1,1,1,1,1,0,0,1,1,1,1,1,1]) (wQ ⟨b1,0,none⟩ p c ok f) Q u:=by
 rw [RX];refine k8 (P:=prog) (fn:=f127) (R:=R) dG ?_;rw [S5];refine ⟨_,au.cell rfl,dw (λd=>?_) (λd=>?_)⟩
 ·refine eS ?_;refine k8 (P:=prog) (fn:=f127) (R:=R) dG ?_;rw [Fy];refine er (λa=>b ⟨d,a⟩) (λa=>?_)
  exact uq dG <| EG au dG h (g (λe=>by rw [a] at e;cases e.2)) _
 ·refine eS ?_;refine k8 (P:=prog) (fn:=f127) (R:=R) dG ?_;rw [Fy];refine cR rfl ?_;exact uq dG <| EG au dG h (g (λe=>e.1 d)) _
theorem Pj (d:R (.int .i64 (if r.ew=r.Client/\r.fi≠r.g5 then 1 else if r.ew≠r.Client/\(r.fi<2\/60<r.fi\/Int.tmod r.fi 2≠0) then 2 else sG r ok p c)) u)
  (q:R (.int .i64 0) u->∀ a,Q .normal (qx a) u) (a:ax) :
  W prog (sub (bo f127) [1,1,1,1,1,0,0,1,1]) (zT ⟨b1,0,none⟩ p c ok a) Q u:=by
 have i:∀ a,R (.int .i64 (sG r ok p c)) u->W prog (sub (bo f127) [1,1,1,1,1,0,0,1,1,1,1,1,1]) (wQ ⟨b1,0,none⟩ p c ok a) Q u:=λa h=>by
  unfold sG at h;refine Pk au dG (λe=>?_) (λe=>?_) (λn o=>q ?_) a
  ·rw [if_pos e] at h;exact h
  ·by_cases f:r.gD≠0/\ok=false
   ·rw [if_pos f] at h;exact h
   ·rw [if_neg f,if_pos e] at h;exact h
  ·rw [if_neg n,if_neg o] at h;exact h
 rw [RV];refine k8 (P:=prog) (fn:=f127) (R:=R) dG ?_;rw [S1];have k:∀ a,¬ (r.ew=r.Client/\r.fi≠r.g5)->W prog (sub (bo f127) [1,1,1,1,1,0,0,1,1,1,1]) (zU ⟨b1,0,none⟩ p c ok a) Q u:=λa s=>by
  rw [if_neg s] at d;rw [RW];refine k8 (P:=prog) (fn:=f127) (R:=R) dG ?_;rw [S3];have l:∀ (b:Bool) a,(b=true↔r.ew≠r.Client/\(r.fi<2\/60<r.fi\/Int.tmod r.fi 2≠0))->W prog (sub (bo f127) [1,1,1,1,1,0,0,1,1,1,1,1]) (rX ⟨b1,0,none⟩ p c ok b a) Q u:=λb a g=>by
   refine k8 (P:=prog) (fn:=f127) (R:=R) dG ?_;rw [S4];refine fS (λe=>?_) (λe=>uq dG <| i _ ?_)
   ·rw [if_pos (g.1 e)] at d;exact d
   ·rw [if_neg (λf=>by rw [g.2 f] at e;cases e)] at d;exact d
  repeat' first
   |refine ⟨_,au.cell rfl,?_⟩
   |refine dJ (λ_=>?_) (λ_=>?_)
   |refine dw (λ_=>?_) (λ_=>?_)
   |refine a' (λ_=>?_) (λ_=>?_)
  all_goals
   refine eS (l _ _ ?_)
  all_goals first | (simp;omega) | (simp only [bne_iff_ne];omega) | (constructor<;>intro _<;>first | rfl | omega)
 have j:∀ (b:Bool) a,(b=true↔r.ew=r.Client/\r.fi≠r.g5)->W prog (sub (bo f127) [1,1,1,1,1,0,0,1,1,1]) (wZ ⟨b1,0,none⟩ p c ok b a) Q u:=λb a g=>by refine k8 (P:=prog) (fn:=f127) (R:=R) dG ?_;rw [S2];refine fS (λe=>?_) (λe=>uq dG <| k _ (λf=>by rw [g.2 f] at e;cases e));rw [if_pos (g.1 e)] at d;exact d
 repeat' first
  |refine ⟨_,au.cell rfl,?_⟩
  |refine dJ (λ_=>?_) (λ_=>?_)
  |refine dw (λ_=>?_) (λ_=>?_)
  |refine a' (λ_=>?_) (λ_=>?_)
 all_goals
  refine eS (j _ _ ?_)
 all_goals first | (simp;omega) | (simp only [bne_iff_ne];omega) | (constructor<;>intro _<;>first | rfl | omega)
theorem EH (f:b=true↔r.fF<98\/256<r.fF) (a:R (.int .i64 (if r.fF<98\/256<r.fF then 18 else if r.ew=r.Client/\r.fi≠r.g5 then 1 else if r.ew≠r.Client/\(r.fi<2\/60<r.fi\/Int.tmod r.fi 2≠0) then 2 else sG r ok p c)) u)
  (h:R (.int .i64 0) u->∀ d,Q .normal (qx d) u) (d:ax) :
  W prog (sub (bo f127) [1,1,1,1,1,0,0,1]) (wY ⟨b1,0,none⟩ p c ok b d) Q u:=by
 refine k8 (P:=prog) (fn:=f127) (R:=R) dG ?_;rw [S0];refine fS (λe=>?_) (λe=>uq dG <| Pj au dG ?_ h _)
 ·rw [if_pos (f.1 e)] at a;exact a
 ·rw [if_neg (λg=>by rw [f.2 g] at e;cases e)] at a;exact a
end
abbrev mS (w:ak) (k:Int):cA:=λx w'=>x=.int .i64 k/\ai w w'
theorem Is (h:q8 w r j):a_ 127 [r.val] w (mS w j.valid):=by
 refine bc Tryz.func127 ?_;rw [Uy];rintro b1 w1 l o;obtain ⟨au,f⟩:=bl l o;have au:av w1 b1 [.int .i64 r.Client,.int .i64 r.g5,.int .i64 r.fF,.int .i64 r.View.Number,.slice r.View.dL r.View.dN r.View.dW,.int .i64 r.ew,.int .i64 r.fi,.int .u64 r.gD] 41:=au;clear o l;obtain ⟨s,t,u,⟨I,g⟩,y,A,B,hu⟩:=h;have d:j.valid=if fW r.g5 r.Client≠0 then fW r.g5 r.Client else if r.ew<0\/6<=r.ew then 1 else if j.v.valid 5≠0 then j.v.valid 5 else if r.fF<98\/256<r.fF then 18 else if r.ew=r.Client/\r.fi≠r.g5 then 1 else if r.ew≠r.Client/\(r.fi<2\/60<r.fi\/Int.tmod r.fi 2≠0) then 2 else sG r (mC r.gD) (kv r.gD) (kx r.gD):=by unfold b2.valid b2.tail sG;rw [s,t,u,y,A,B];cases J:mC j.prev<;>by_cases F:j.prev=0<;>simp [F]
 rw [d];clear d s t u y A B;refine ⟨_,au.cell (i:=1) rfl,_,au.cell (i:=0) rfl,?_⟩;refine aC (vt w1 r.g5 r.Client) ?_;rintro x G ⟨rfl,rfl⟩;refine ⟨_,_,rfl,dw (λhe=>⟨by rw [if_pos he],f⟩) (λhe=>?_)⟩
 rw [if_neg (λe=>e he),RU,Ry];refine k8 (λ_ _=>rfl) ?_;rw [SX];generalize k:(if r.ew<0\/6<=r.ew then (1:Int) else _)=V;have q:∀ (b:Bool) a,(b=true↔r.ew<0\/6<=r.ew)->W prog (sub (bo f127) [1,1,0,1]) (wX ⟨b1,0,none⟩ b a) (aV (λenv z=>W prog (sub (bo f127) [1,1,1]) env (dB prog f127 (mS w V)) z) (dB prog f127 (mS w V))) G:=λb a C=>by
  refine k8 (P:=prog) (fn:=f127) (R:=mS w V) (λ_ _=>rfl) ?_;rw [SY];refine fS (λe=>⟨by rw [<-k,if_pos (C.1 e)],f⟩) (λe=>?_)
  rw [if_neg (λD=>by rw [C.2 D] at e;cases e)] at k;refine eS ?_;refine k8 (P:=prog) (fn:=f127) (R:=mS w V) (λ_ _=>rfl) ?_;rw [SZ];refine cX.aS r.View ⟨bK au rfl,?_⟩;refine aC (CL (g.new f) 5) ?_;rintro x H ⟨rfl,n⟩;have au:=ai.aj n au;have f:=f.new n;refine ⟨_,rfl,dw (λan=>⟨by rw [<-k,if_pos an],f⟩) (λan=>⟨_,au.cell (i:=7) rfl,?_⟩)⟩;rw [if_neg (λe=>e an)] at k;refine aC (G3 H hu) ?_;rintro x p ⟨rfl,rfl⟩;have fin:mS w V (.int .i64 0) p->∀ a,W prog (sub (bo f127) [1,1,1,1,1,1]) (qx a) (bG prog f127 (mS w V) (dB prog f127 (mS w V))) p:=λh a=>by rw [Ta];exact h
  have c:mS w V (.int .i64 V) p:=⟨rfl,f⟩;refine ⟨_,_,_,rfl,_,au.cell (i:=2) rfl,a' (λE=>?_) (λE=>⟨_,au.cell (i:=2) rfl,?_⟩)⟩
  ·refine EH (R:=mS w V) au ?_ ?_ ?_ ?_ _
   ·exact λ_ _=>rfl
   ·simp;omega
   ·rw [k];exact c
   ·exact λh a=>py (eS (fin h a))
  ·refine EH (R:=mS w V) au ?_ ?_ ?_ ?_ _
   ·exact λ_ _=>rfl
   ·simp;omega
   ·rw [k];exact c
   ·exact λh a=>py (eS (fin h a))
 refine ⟨_,au.cell (i:=5) rfl,a' (λar=>eS (q _ _ ?_)) (λar=>⟨_,au.cell (i:=5) rfl,eS (q _ _ ?_)⟩)⟩
 ·simp;omega
 ·simp;omega
end
section
def mr (j:b2):aZ:=j.v.mem.getD 0 jC
def fu (j:b2) (G:List (List aL)):List aP×dz×Bool:=
 if j.valid≠0 then ([],⟨j.valid,0,0,0,0⟩,true) else match (h1 j (mr j) G).1.ask with
 |some vs=>(vs,⟨0,0,0,0,0⟩,false)
 |none=>if (h1 j (mr j) G).1.dC=true\/(h1 j (mr j) G).1.a7≠[] then ([],⟨6,0,0,0,0⟩,true) else ([],(h1 j (mr j) G).2,true)
def ut (w:ak) (j:b2) (G:List (List aL)) (v:a4) (u:ak):Prop:=
 ∃ (aa:al) (ac:Nat) (cf:List aG),v=.tuple #[.slice aa cf.length ac,(fu j G).2.1.val,.bool (fu j G).2.2]/\ai w u/\bh u aa (dP cf).flatten/\(∀ k,aK aa k->w.heap.size<=k)/\en (λk=>k<w.heap.size) u cf (fu j G).1
theorem ut.nil {o:dz} (h:fu j G=([],o,b)) (c:ai w u):ut w j G (.tuple #[.slice none 0 0,o.val,.bool b]) u:=
 ⟨none,0,[],by rw [h];rfl,c,.inl rfl,λk a=>absurd a nr,by rw [h];exact ⟨rfl,λi v x an=>by simp at an⟩⟩
theorem xp {b:Nat} {cs:ax} (au:av u b cs o6) (g:cs.length=5) (o:dz) {K:dz->aE} (f:∀ e,ao (λk=>k=b) u e->K o e) :
  eh u ⟨b,0,none⟩ 0 o.cells/\∀ a,a=ct u ⟨b,0,none⟩ 0 o.cells->dz.ex λres=>b6 a ⟨b,0,none⟩ 0 res.cells/\a=a/\K res a:=
 dO au (vs:=o.cells) (by rw [g];rfl) (dz.single _) λa d c=>dz.aS o ⟨bK d rfl,rfl,f a c⟩
theorem M_ {A:a5} (Vs:q8 w r j) {gH:al} {dQ gc:Nat} (Wk:hG A w gH G) (V5:dQ=G.length) (V4:dQ<=gc) :
  a_ 93 [r.val,.slice gH dQ gc] w (ut w j G):=by
 refine bc Tryz.func93 ?_;rw [UN];rintro b1 bE VZ VK;obtain ⟨q,VH⟩:=bl VZ VK;have q:av bE b1 r.cells 41:=q;clear VK;rintro aA WA V0 VL;obtain ⟨F,z⟩:=bl V0 VL;have F:av WA aA (dz.cells ⟨0,0,0,0,0⟩) o6:=F;clear VL;have J:=VH.new z;have Ws:=VH.size;have Wm:=q.lt;have Wn:=F.lt;refine dr.aS r ⟨bK (ai.aj z q) rfl,?_⟩;refine aC (Is (Vs.new J)) ?_;rintro v bu ⟨rfl,B⟩;have L:=J.new B;have V:=ai.aj B F;refine ⟨_,rfl,dw (λan=>?_) (λan=>?_)⟩
 ·refine xp V rfl ⟨j.valid,0,0,0,0⟩ (K:=λres VB=>ut w j G (.tuple #[.slice none 0 0,res.val,.bool true]) VB) λWH V6=>ut.nil ?_ (L.trans V6 λk a e=>by omega)
  unfold fu;rw [if_pos an]
 have g:=KM an (Vs.prev▸Vs.u64);obtain ⟨bO,Vu⟩:∃ bO,j.v.mem[0]?=some bO:=⟨_,bF g.mem.1⟩;have V8:mr j=bO:=by unfold mr;rw [dD,Vu];rfl
 rintro V' VM;have C:ai bu V':=by rw [VM];exact cD _
 clear VM;have M:=L.new C;have s:=ai.aj ((z.new B).new C) q;refine ⟨λy=>ai V' y,ao.refl _ _,dr.aS r ⟨λy V_=>bK (ai.aj V_ s) rfl,?_⟩⟩;refine aC (DP V' gH dQ gc) ?_;rintro v Wf ⟨tb,rfl,Wy,VT,f⟩;refine ⟨_,rfl,f,?_⟩;rintro VC WB V1 VN;obtain ⟨Vz,D⟩:=bl V1 VN;have Vz:av WB VC (pF r tb ⟨0,0,false⟩ 0 ⟨none,0,0,0⟩ (0,0)) n8:=Vz;clear VN;have Ww:=f.size;have We:=M.size;have Wt:=z.size;have Wu:=B.size;have Wv:=C.size;have Wp:=VT.lt;refine ⟨f.new D,cX.aS r.View ⟨bK (ai.aj (f.new D) s) rfl,?_⟩⟩;obtain ⟨WD,Vy⟩:=Vs.view;have N:=(M.new f).new D;refine aC (BT (Vy.new N) Vu) ?_;rintro v u8 ⟨rfl,Vv⟩;have VV:=ai.aj Vv Vz;refine aZ.aS bO ⟨true,rfl,f7 VV (by simp [pF,aZ.cells,dr.cells]) (aZ.single _),?_⟩;rintro VD Vx;have VA:av VD VC (pF r tb bO 0 ⟨none,0,0,0⟩ (0,0)) n8:=by rw [Vx];exact VV.ct (o:=9) (i:=0) (vs:=bO.cells)
 have VE:ao (λk=>k=VC) u8 VD:=by rw [Vx];exact hT _ _ _ _ _
 clear Vx;have VI:ai w VD:=(N.new Vv).trans VE λk a e=>by omega
 have R:ai Wf VD:=(D.new Vv).trans VE λk a e=>by omega
 have U:av VD b1 r.cells 41:=ai.aj (f.new R) s;refine ⟨_,U.cell (i:=1) rfl,_,U.cell (i:=0) rfl,?_⟩;refine aC (vt VD r.g5 r.Client) ?_;rintro v Wb ⟨rfl,rfl⟩;refine ⟨_,_,rfl,⟨_,VA.cell (i:=12) rfl⟩,VA.frozen,?_⟩;rintro c p;have I:ao (λk=>k=VC) Wb c:=by rw [p];exact eV _ _ _ _
 have VP:av c VC (pF r tb bO (gl j.inc j.a3) ⟨none,0,0,0⟩ (0,0)) n8:=by rw [p,<-Vs.inc,<-Vs.a3];exact VA.setCell (i:=12) _
 clear p;have O:ai w c:=VI.trans I λk a e=>by omega
 have l:ai Wf c:=R.trans I λk a e=>by omega
 have VU:av c tb (gg.cells ⟨gH,dQ,gc,none,0,0,false⟩) o8:=ai.aj l VT;have VQ:av c aA (dz.cells ⟨0,0,0,0,0⟩) o6:=ai.aj ((C.new f).new l) V;have V2:df w c VC tb r bO j ⟨none,0,0,0⟩ (0,0):=⟨VP,Vs,g,Vu,O,by omega,by omega,by omega⟩;have Wj:eO A w c tb ⟨gH,dQ,gc,none,0,0,false⟩ G:=⟨VU,Wk,V5,V4⟩;refine aC (M9 V2 Wj ⟨rfl,rfl⟩) ?_;rintro v Wg ⟨rfl,E⟩;have Wx:=l.size;have VW:av Wg aA (dz.cells ⟨0,0,0,0,0⟩) o6:=E.az.aj VQ (by omega);have V9:ai w Wg:=O.trans E.az λk a e=>by omega
 obtain ⟨WE,t⟩:=E.aj;obtain ⟨T,u,Vr,x⟩:=E.fO;rw [<-V8] at u Vr x t;have Wd:∀ (X:Prop),X->X:=λ_ h=>h
 refine ⟨rfl,_,t.cell (i:=8) rfl,?_⟩;refine aC (Dr u.aj) ?_;rintro v WI ⟨rfl,n⟩;have W:=ai.aj n VW;have Z:=ai.aj n t;have P:=V9.new n;cases b:(h1 j (mr j) G).1.ask with
 |some vs=>
  rw [b] at x;obtain ⟨WF,w1,Wh,WG,Wc⟩:=x;have VY:=Wc.len;refine ⟨_,_,_,_,rfl,eB (by simp;omega) ?_⟩;refine xp W rfl ⟨0,0,0,0,0⟩ (K:=λres VB=>ut w j G (.tuple #[.slice T.aa T.c5 T.ac,res.val,.bool false]) VB) λWa VF=>?_
  have Wi:bH w1 Wa T.aa T.c5 T.ac vs:=(Wc.new n).az VF λk e=>by omega
  obtain ⟨⟨cf,Wq,VO⟩,Wo,V3⟩:=Wi;have Wr:=VO.1;have Wz:=Wh.size;have VJ:fu j G=(vs,⟨0,0,0,0,0⟩,false):=by unfold fu;rw [if_neg (by simpa using an),b]
  refine ⟨T.aa,T.ac,cf,?_,P.trans VF λk a e=>by omega,Wq.rd,λk Wl=>by have:=V3 k Wl;omega,?_⟩
  ·rw [VJ,VY,Wr]
  ·rw [VJ];exact VO.az (ao.refl _ _) λk a e=>.inl (by omega)
 |none=>
  rw [b] at x;refine ⟨_,_,_,_,rfl,cR (by simp;omega) ?_⟩;refine ⟨_,Z.cell (i:=8) rfl,?_⟩;refine aC (Ds (ai.aj n u.aj)) ?_;rintro v Wa ⟨rfl,Vw⟩;have Y:=ai.aj Vw W;have VR:=ai.aj Vw Z;have Q:=P.new Vw;have H:=u.dQ;refine ⟨_,rfl,?_⟩;cases hm:(T.dC || decide ((T.dQ:Int)>0)) with
  |true=>
   refine xp Y rfl ⟨6,0,0,0,0⟩ (K:=λres VB=>ut w j G (.tuple #[.slice none 0 0,res.val,.bool true]) VB) λWC Vt=>ut.nil ?_ (Q.trans Vt λk a e=>by omega)
   unfold fu;rw [if_neg (by simpa using an),b];refine if_pos ?_;rw [Vr] at hm;rw [u2] at hm;rcases hm with hm | hm
   ·exact .inl hm
   ·right;intro e;rw [e] at H;simp at hm H;omega
  |false=>
   rintro VX S;have d:ai Wa VX:=by rw [S];exact cD _
   clear S;have VS:=ai.aj d VR;refine ⟨λy=>ai VX y,ao.refl _ _,dz.aS (h1 j (mr j) G).2 ⟨λy V_=>bK (ai.aj V_ VS) rfl,?_⟩⟩;refine xp (ai.aj d Y) rfl (h1 j (mr j) G).2 (K:=λres VB=>ut w j G (.tuple #[.slice none 0 0,res.val,.bool true]) VB) λWC Vt=>ut.nil ?_ ((Q.new d).trans Vt λk a e=>by omega)
   unfold fu;rw [if_neg (by simpa using an),b];refine if_neg ?_;rw [Vr] at hm;obtain ⟨VG,V7⟩:=Bool.or_eq_false_iff.1 hm;rintro (e | e)
   ·rw [e] at VG;cases VG
   ·apply e;apply fB;simp at V7 <;> omega
end
section
open e1
theorem Eb {f:aJ->bb} (a:∀ p,(f p).length=9):∀ {W:List aJ} {i:Nat} {p:aJ},W[i]?=some p->∀ c,c<9->((W.map f).flatten)[9 * i+c]?=(f p)[c]?
 | [],i,p,h,c,b=>by simp at h
 |q::W,0,p,h,c,b=>by simp at h;subst h;rw [gA,gR,hP (by rw [a];omega)];congr 1;omega
 |q::W,i+1,p,h,c,b=>by rw [gA,gR,hQ (by rw [a];omega),a,show 9 * (i+1)+c - 9=9 * i+c by omega];exact Eb a (by simpa using h) c b
theorem Na {W:List aJ} (h:W[i]?=some p) {c:Nat} (a:c<9):(fc s W).getD (2+9 * i+c) 0=(p.bn::p.Head::hz p).getD c 0:=by have b:=ch h;have d:=yj s W;unfold fc;simp only [dD];rw [hP (by omega)];have:=Eb (f:=λp=>p.bn::p.Head::hz p) (λ_=>rfl) h c a;unfold nu;rw [show 2+9 * i+c=(9 * i+c)+1+1 by omega,nO,nO,this]
theorem O8 {W:List aJ} (h:W[i]?=some p) (b:∀ k,k<(fc s W).length->aI.getD k 0=(fc s W).getD k 0) (f:p.bn<=256):ot aI i=p:=by
 have e:=ch h;have d:=ps s W;have g:∀ c,c<9->((aI.drop (2+9 * i)).take 9).getD c 0=(p.bn::p.Head::hz p).getD c 0:=λc a=>by rw [<-Na (s:=s) h a,<-b _ (by omega)];simp only [dD];rw [s0 a,lo]
 unfold ot qS;rw [g 0 (by omega),g 1 (by omega),g 2 (by omega),g 3 (by omega),g 4 (by omega),g 5 (by omega),g 6 (by omega),g 7 (by omega),g 8 (by omega)];show (⟨if 256<p.bn then 256 else p.bn,_,_,_,_,_,_,_,_⟩:aJ)=p;rw [if_neg (by omega)];rfl
theorem KX {W:List aJ} {lines:Int} (an:fr s W lines=0) (n:aI.length=112) (c:∀ k,k<(fc s W).length->aI.getD k 0=(fc s W).getD k 0):ef aI lines=0/\et aI lines=(s,W):=by
 obtain ⟨l,⟨s1,s2,lJ,o⟩,j,_⟩:=ji an;have h:=ps s W;have d:aI.getD 0 0=s:=c 0 (by omega);have e:aI.getD 1 0=W.length:=c 1 (by omega);have g:(aI.getD 1 0).toNat=W.length:=by rw [e];rfl
 have b:hn aI W.length=W:=by
  apply j';intro i;unfold hn;rw [d'];by_cases a:i<W.length
  ·rw [ka a,bF a];have:=j _ (kb a);simp only [mV];rw [O8 (bF a) c (by omega)]
  ·rw [lp (by simpa using a),lp (by omega)];rfl
 have f:fc s W=aI.take (3+9 * W.length):=by
  apply j';intro i;by_cases a:i<3+9 * W.length
  ·have:=c i (by omega);simp only [dD] at this;rw [s0 a,bF (by omega),bF (by omega)];rw [bF (by omega),bF (by omega)] at this;simpa using this.symm
  ·rw [lp (by omega),lp (by simp;omega)]
 have ay:ef aI lines=0:=by unfold ef;rw [if_neg (by omega),if_neg (by rw [d,e];omega),if_neg (by rw [e];omega),g,d,b,if_neg (by rw [an];simp),if_neg (by simpa using f)]
 refine ⟨ay,?_⟩;unfold et;rw [if_pos ay,g,d,b]
theorem Ct (h:1<=s/\s<1073741824):fN s=4 * s+2:=by
 obtain ⟨n,rfl⟩:∃ n:Nat,s=n:=⟨s.toNat,by omega⟩;have b:h_ .u64 (n:Int) 2=((n * 4:Nat):Int):=by show IntKind.u64.wrap ((n:Int) * 2 ^ 2)=_;have:(2:Int) ^ 2=4:=rfl;rw [this,jH (by omega) (by omega)];omega
 unfold fN;rw [b,show (2:Int)=((2:Nat):Int) from rfl,uN _ _ (by omega) (by omega)];have a:=vz n 2 2 (by omega);have c:(2:Nat) ^ 2=4:=rfl;rw [c] at a;rw [a];omega
theorem ym (h:1<=s/\s<1073741824):fN s≠0:=by rw [Ct h];omega
theorem KY (h:1<=s/\s<1073741824):h3 (fN s)=(s,true):=by
 obtain ⟨_,e⟩:=zh (yx s);have a:db .u64 (fN s) 2=s:=by rw [e,Ct h];omega
 unfold h3;rw [a,if_pos ⟨h.1,h.2,rfl⟩]
theorem KZ:h3 0=(0,false):=by
 obtain ⟨_,e⟩:=zh hd;have a:db .u64 0 2=0:=by rw [e];rfl
 unfold h3;rw [a,if_neg (by omega)]
structure mZ (E:Env) (A:bA) (m:Nat) (L:bb):Prop where
 len:L.length=120
 cF:L.getD 0 0=if A.cF m=true then h4 E else 0
 ey:A.ey m=true->∀ k,k<(gP E).length->L.getD (8+k) 0=(gP E).getD k 0
def ue (x:a0):bb:=(x.words.drop 48).take 120
theorem D1 (h:i<120):(ue x).getD i 0=x.get (48+i):=by unfold ue a0.get;simp only [dD];rw [s0 h,lo]
theorem Mem.fm {E:Env} {A:bA} (ay:b5 E) (h:Mem E A m x):mZ E A m (ue x):=by have a:=ay.mn;have c:=ay.lC;have d:=h.aQ.len;refine ⟨by unfold ue;simp;omega,by rw [D1 (by omega)];exact h.cF,λa k b=>?_⟩;rw [D1 (by omega),<-h.ey a k b];congr 1;omega
section
variable {E:Env} {A:bA} {m:Nat} {L:bb}
theorem mZ.whole (ay:b5 E) (h:mZ E A m L) (d:A.ey m=true):fJ L E.L=true/\cT L E.L=(c7 E,bJ E):=by
 have f:(L.drop 8).length=112:=by rw [lZ,h.len]
 obtain ⟨b,c⟩:=KX ay.c_ f λk e=>by rw [<-h.ey d k e];simp only [dD];rw [lo]
 have a:fJ L E.L=true:=by unfold fJ;rw [b,h.len];rfl
 refine ⟨a,?_⟩;unfold cT;rw [if_pos a];exact c
theorem mZ.comm (ay:b5 E) (h:mZ E A m L) (d:A.ey m=true):f' L E.L=A.cF m/\(A.cF m=true->fe L E.L=(c7 E,bJ E)):=by
 obtain ⟨c,a⟩:=h.whole ay d;have b:f' L E.L=A.cF m:=by
  unfold f';rw [c,a,h.cF,u3];cases A.cF m
  ·exact beq_eq_false_iff_ne.2 (ym ay.seq)
  ·exact beq_iff_eq.2 rfl
 refine ⟨b,λe=>?_⟩
 unfold fe;rw [b,if_pos e];exact a
theorem mZ.none (h:mZ E A m L) (c:A.cF m=false):f' L E.L=false:=by
 cases a:f' L E.L with
 |false=>rfl
 |true=>exfalso;obtain ⟨b,_⟩:=Be a;have d:=Bz b;unfold f' at a;rw [b,u3] at a;have:=beq_iff_eq.1 a;rw [h.cF,c] at this;exact ym d this
theorem mZ.holds (ay:b5 E) (h:mZ E A m L) (c:A.ey m=true) (d:j.lines=E.L):q9 j (c7 E) (bJ E) L=A.cF m:=by
 obtain ⟨a,b⟩:=h.comm ay c;unfold q9;rw [d,a];cases hm:A.cF m with
 |false=>rfl
 |true=>rw [b hm];unfold vM;simp
end
structure o4 (E:Env) (A:bA) (aT:List bb):Prop where
 len:aT.length=E.n
 at_:∀ (m:Nat) (L:bb),aT[m]?=some L->mZ E A m L
section
variable {E:Env} {A:bA} {aT:List bb}
theorem Nb (h:o4 E A aT) (g:fP E A):eb E.L aT=((0,[]),false):=by
 have key:∀ (l:List bb),(∀ L ∈ l,f' L E.L=false)->∀ b,l.foldl (mo E.L) b=b:=by
  intro l;induction l with
  |nil=>intro _ b;rfl
  |cons L l j=>intro d b;rw [uX];have:mo E.L b L=b:=if_neg (λe=>by rw [d L e_] at e;cases e.1);rw [this];exact j (λf a=>d f (fD _ a)) b
 refine key aT (λL a=>?_) _;obtain ⟨i,c⟩:=eF.1 a;exact (h.at_ i L c).none (g i (by have:=ch c;rw [h.len] at this;exact this))
theorem K0 (ay:b5 E) (h:o4 E A aT) (d:h7 E A) (hm:∃ m,m<E.n/\A.cF m=true):eb E.L aT=((c7 E,bJ E),true):=by
 have y:=ay.seq;have key:∀ (l:List bb),(∀ L ∈ l,f' L E.L=true->fe L E.L=(c7 E,bJ E))->∀ b,(b=((0,[]),false)\/b=((c7 E,bJ E),true))->(l.foldl (mo E.L) b=((c7 E,bJ E),true)\/l.foldl (mo E.L) b=((0,[]),false)/\b=((0,[]),false)/\∀ L ∈ l,f' L E.L=false):=by
  intro l;induction l with
  |nil=>intro _ b d;rcases d with e | e;exact .inr ⟨e,e,λL a=>by cases a⟩;exact .inl e
  |cons L l u=>
   intro o b d;rw [uX];have j:=λp a=>o p (fD _ a)
   unfold mo at u ⊢;by_cases c:f' L E.L=true
   ·have s:=o L e_ c;have t:(if f' L E.L=true/\(fe L E.L).1>b.1.1 then (fe L E.L,true) else b)=((c7 E,bJ E),true):=by
     rcases d with e | e
     ·rw [if_pos ⟨c,by rw [s,e];show c7 E>0;omega⟩,s]
     ·rw [if_neg (λg=>by have:=g.2;rw [s,e] at this;exact absurd this (by show ¬ c7 E>c7 E;omega)),e]
    rw [t];rcases u j _ (.inr rfl) with g | ⟨_,g,_⟩
    ·exact .inl g
    ·exact absurd (congrArg Prod.snd g) (by simp)
   ·have c:f' L E.L=false:=by simpa using c
    rw [if_neg (λg=>by rw [c] at g;cases g.1)];rcases u j b d with g | ⟨q,r,x⟩
    ·exact .inl g
    ·exact .inr ⟨q,r,λp a=>by rcases e9.1 a with e | e;rw [e];exact c;exact x p e⟩
 obtain ⟨m,k,hm⟩:=hm;obtain ⟨L,a⟩:∃ L,aT[m]?=some L:=⟨_,bF (by rw [h.len];exact k)⟩;have o:∀ L ∈ aT,f' L E.L=true->fe L E.L=(c7 E,bJ E):=λL a c=>by obtain ⟨i,w⟩:=eF.1 a;have f:=ch w;rw [h.len] at f;obtain ⟨q,r⟩:=(h.at_ i L w).comm ay (d i f);exact r (by rw [<-q];exact c)
 rcases key aT o ((0,[]),false) (.inl rfl) with g | ⟨_,_,g⟩
 ·exact g
 ·have:=g L (cg a);rw [((h.at_ m L a).comm ay (d m k)).1,hm] at this;cases this
theorem O9 (ay:b5 E) (h:o4 E A aT) (s:h7 E A) {cG:Int} (z:cG=c7 E\/cG=E.fa 0):jA E.L cG aT=c7 E+1:=by
 have w:=ay.seq;have t:=ay.fa;have B:=ay.e.n;have key:∀ (l:List bb),(∀ L ∈ l,(L.getD 0 0=h4 E\/L.getD 0 0=0)/\fJ L E.L=true/\cT L E.L=(c7 E,bJ E))->∀ g:Int,0<=g/\g<=c7 E->l.foldl (hD E.L) g=if l=[] then g else c7 E:=by
  intro l;induction l with
  |nil=>intro _ g _;rfl
  |cons L l x=>
   intro k g u;obtain ⟨p,q,r⟩:=k L e_;rw [uX];have f:hD E.L g L=c7 E:=by
    unfold hD;have d:(if (h3 (L.getD 0 0)).2=true then mu g (h3 (L.getD 0 0)).1 else g)<=c7 E:=by
     rcases p with e | e
     ·rw [e,KY w,if_pos rfl];unfold mu;simp only;split<;>omega
     ·rw [e,KZ,if_neg (by simp)];exact u.2
    simp only;generalize (if (h3 (L.getD 0 0)).2=true then mu g (h3 (L.getD 0 0)).1 else g)=y at d ⊢;rw [if_pos q,r];unfold mu;simp only;split<;>omega
   rw [f,x (λo a=>k o (fD _ a)) _ (by omega),if_neg (List.cons_ne_nil L l)];split<;>rfl
 unfold jA;have c:iP cG=cG:=by unfold iP;rw [if_neg (by omega)]
 rw [c,key aT (λL a=>?_) cG (by omega),if_neg (λe=>by have:=h.len;rw [e] at this;simp at this <;> omega)];obtain ⟨i,j⟩:=eF.1 a;have b:=ch j;rw [h.len] at b;have a:=h.at_ i L j;refine ⟨?_,a.whole ay (s i b)⟩;rw [a.cF];split
 ·exact .inl rfl
 ·exact .inr rfl
end
end
section
open e1
def cv (E:Env) (c:Nat):b2:=⟨(c:Int),1,(E.L:Int),j2 E.n,0,2,0⟩
def gy (c:Nat):Int:=256+((c:Int)+1)
section
variable {E:Env} {c:Nat}
theorem vv (a:c<6):fW 1 c=0/\gl 1 c=gy c:=by have h:fW 1 c=0:=DT rfl (by omega);exact ⟨h,by rw [yC h];rfl⟩
theorem q_:(cv E c).v.mem=(List.range E.n).map bg:=rfl
theorem Nc {n:Nat} (h:1<=n/\n<=5):(j2 n).valid 5=0:=by
 obtain rfl | rfl | rfl | rfl | rfl:n=1\/n=2\/n=3\/n=4\/n=5:=by omega
 all_goals kernel_rfl
theorem Cu (ay:b5 E) (i:1<=c/\c<6):(cv E c).valid=0:=by
 have k:=ay.e.L;have g:fW (cv E c).inc (cv E c).a3=0:=(vv i.2).1;have a:(cv E c).v.valid 5=0:=Nc ay.e.n;unfold b2.valid;rw [g,a];show (if (0:Int)≠0 then (0:Int) else if (0:Int)<0\/6<=(0:Int) then 1 else if (0:Int)≠0 then 0 else (cv E c).tail)=0;rw [if_neg (by omega),if_neg (by omega),if_neg (by omega)];unfold b2.tail;have b:¬ ((cv E c).lines<98\/256<(cv E c).lines):=by show ¬ ((E.L:Int)<98\/256<(E.L:Int));omega
 have d:¬ ((cv E c).dead=(cv E c).a3/\(cv E c).dR≠(cv E c).inc):=by show ¬ ((0:Int)=(c:Int)/\_);omega
 have f:¬ ((cv E c).dead≠(cv E c).a3/\((cv E c).dR<2\/60<(cv E c).dR\/Int.tmod (cv E c).dR 2≠0)):=by have j:Int.tmod (cv E c).dR 2=0:=rfl;have a:(cv E c).dR=2:=rfl;omega
 rw [if_neg b,if_neg d,if_neg f];exact if_neg λh=>h.1 rfl
theorem Ec (b:1<=E.n):mr (cv E c)=bg 0:=by unfold mr;rw [q_];obtain ⟨k,a⟩:∃ k,E.n=k+1:=⟨E.n - 1,by omega⟩;rw [a,sT];rfl
theorem Ed (hm:m<E.n):(cv E c).v.mem.getD m jC=bg m:=by rw [q_,dD,d',ka hm];rfl
theorem Af (m:Nat) (a o w:Int):rG (cv E c) (bg m) a o w=fR m a o w:=rfl
theorem yn:cJ (cv E c)=[⟨0,2,true⟩]:=by unfold cJ;rw [if_neg (λh=>by have:mC (0:Int)=false:=rfl;have a:mC 0=true:=h.1;rw [this] at a;cases a)];rfl
theorem Cv {α β:Type} {f:α->β}:∀ (l:List α),(l.map λx=>[f x]).flatten=l.map f
 | []=>rfl
 |a::l=>by rw [gA,gR,Cv l];rfl
def iv (n:Nat):List aP:=(List.range n).map λm=>cN m 24 1
def hg (eM:cQ):List aP:=eM.map λm=>fR m 24 1 2
def gW (c:Nat):List aP:=[fR 0 49 0 (gy c)]
def gJ (n:Nat):List aP:=((List.range n).map λm=>[cN m 24 1,cN m 48 120]).flatten++[cN 0 32 1]
def gz (E:Env) (sp:cQ):List aP:=(sp.map λm=>[cw m 48 [0],cw m 56 (gP E),cw m 48 [h4 E]]).flatten
def gL (W:List aJ):List aP:=W.map λp=>cN 0 (p.bn * 8) 1
def fG (E:Env) (l:List aJ):List aP:=((List.range (E.n - 1)).map λm=>l.map (fz (m+1))++[cw (m+1) 32 [c7 E]]).flatten
def fV (E:Env) (l:List aJ):List aP:=cw 0 32 [c7 E]::l.map (fz 0)
def ih (ev:List aJ):List aP:=ev.map λp=>fR 0 (p.bn * 8) (eJ p.Head 0) p.Head
def gF (c:Nat):List aP:=[fR 0 49 (gy c) 0]
theorem BC:hp (cv E c)=iv E.n:=by unfold hp iv;rw [yn,q_,rj];exact Cv (List.range E.n) (f:=λm=>cN m 24 1)
theorem D2 (i:Nat):f8 (cv E c) i=⟨0,2,true⟩:=by unfold f8;rw [yn];show ([⟨0,2,true⟩]:List da).getD (i % 1) pw=_;rw [Nat.mod_one];rfl
theorem No (h:i<E.n):nk (cv E c) i=bg i:=by unfold nk;rw [yn];show (cv E c).v.mem.getD (i / 1) jC=_;rw [Nat.div_one];exact Ed h
def kB (n:Nat) (ds:List aL):cQ:=(List.range n).filter λi=>dx ds i == 1
theorem EQ {ds:List aL} (h:∀ i,i<E.n->dx ds i=1\/dx ds i=2):∀ {k:Nat},k<=E.n->hX (cv E c) ds k=(kB k ds).map λm=>(fR m 24 1 2,(⟨0,2,true⟩:da))
 | 0,_=>rfl
 |k+1,a=>by
  rw [Ak,EQ h (by omega)];unfold kB sJ th;rw [j9,AT,iX,D2,No (by omega),Af];congr 1;rcases h k (by omega) with e | e
  ·rw [if_pos (show dx ds k<2 by omega)];simp [e]
  ·rw [if_neg (show ¬ dx ds k<2 by omega)];simp [e]
def d3 (eM:cQ) (X:List (List aL)):cn:=oH (eM.map λm=>(fR m 24 1 2,(⟨0,2,true⟩:da))) (bL X (hg eM))
def k0 (X:List (List aL)):cn:=⟨true,[],(0,0),X,none,false⟩
def Kp (E:Env) (c:Nat) (G:List (List aL)) (f:List (List aL)->cn×dz):Prop:=∀ X,h1 (cv E c) (bg 0) (G++X)=f X
theorem Kp.next {a:List (List aL)->cn×dz} (h:Kp E c G f) (b:∀ X,f (D::X)=a X):Kp E c (G++[D]) a:=λX=>by rw [ln];exact (h ([D]++X)).trans (b X)
theorem Kp.ask (ay:b5 E) (b:1<=c/\c<6) (h:Kp E c G f) (a:(f []).1.ask=some vs):fu (cv E c) G=(vs,⟨0,0,0,0,0⟩,false):=by have:=h [];rw [iW] at this;unfold fu;rw [if_neg (by rw [Cu ay b];simp),Ec ay.e.n.1,this,a]
theorem Kp.out (ay:b5 E) (g:1<=c/\c<6) (h:Kp E c G f) (a:(f []).1.ask=none) (b:(f []).1.dC=false) (d:(f []).1.a7=[]):fu (cv E c) G=([],(f []).2,true):=by have:=h [];rw [iW] at this;unfold fu;rw [if_neg (by rw [Cu ay g];simp),Ec ay.e.n.1,this,a];simp only;rw [if_neg (by rw [b,d];simp)]
theorem nE (h:vs≠[]):bL [] vs=⟨false,[],(0,0),[],some vs,false⟩:=Ao h 0
theorem ol (h:vs≠[]) (a:Fit vs D) (X:List (List aL)):bL (D::X) vs=⟨true,D,(0,0),X,none,false⟩:=AD X h a 0
theorem tk (X:List (List aL)):bL X []=k0 X:=B1 X 0
def qD (E:Env) (c:Nat):List (List aL)->cn×dz:=h1 (cv E c) (bg 0)
def kQ (E:Env) (c:Nat) (X:List (List aL)):cn×dz:=ss (cv E c) (bg 0) (hW (cv E c) (bg 0) X)
def me (E:Env) (c:Nat) (eM:cQ) (X:List (List aL)):cn×dz:=if (d3 eM X).ok=false then (d3 eM X,iz (d3 eM X).out) else kQ E c (d3 eM X).a7
def og (E:Env) (c:Nat) (X:List (List aL)):cn×dz:=ss (cv E c) (bg 0) (k0 X)
def ft (E:Env) (c:Nat) (aT:List bb) (cG:Int) (c3:Int×Int) (S:cn):cn×dz:=qX (cv E c) (bg 0) aT cG (c3,S)
theorem P':Kp E c [] (qD E c):=λX=>rfl
theorem zj (a:1<=E.n):iv E.n≠[]:=by unfold iv;intro e;have:=congrArg List.length e;simp at this <;> omega
theorem Oq (a:1<=E.n):(qD E c []).1.ask=some (iv E.n):=by unfold qD h1 hq ti;rw [BC,nE (zj a)];rfl
theorem Nd (f:1<=E.n) (a:Fit (iv E.n) D) (hw:∀ i,i<E.n->dx D i=1\/dx D i=2) (X:List (List aL)):qD E c (D::X)=me E c (kB E.n D) X:=by
 have e:D.length=E.n:=by rw [a.len];unfold iv;simp
 have b:(List.range D.length).any (jt (cv E c) D)=false:=by rw [x9];intro i d;have:=hw i (by have:=fE.1 d;omega);unfold jt;rw [D2];simp;show dx D i<=2;omega
 have ar:hq (cv E c) (D::X)=d3 (kB E.n D) X:=by unfold hq;rw [BC,ol (zj f) a];unfold ti;simp only;rw [if_neg (by simp),if_neg (by rw [b];simp),e,EQ hw (cO _)];unfold d3 hg;rw [rj];rfl
 unfold qD h1 me kQ;rw [ar]
theorem Ot (X:List (List aL)):d3 [] X=k0 X:=by unfold d3 oH;rw [show hg []=[] from rfl,tk];rfl
theorem Ou (X:List (List aL)):me E c [] X=kQ E c X:=by unfold me;rw [Ot];exact if_neg (by simp [k0])
theorem Ov (h:eM≠[]):(me E c eM []).1.ask=some (hg eM):=by
 have au:hg eM≠[]:=by unfold hg;simpa using h
 unfold me d3 oH;rw [nE au];rfl
theorem Nf (h:eM≠[]) (a:Fit (hg eM) D) (hw:∀ i,i<eM.length->dx D i=1\/dx D i=2) (X:List (List aL)):me E c eM (D::X)=kQ E c X:=by
 have au:hg eM≠[]:=by unfold hg;simpa using h
 have f:D.length=eM.length:=by rw [a.len];unfold hg;simp
 have ar:d3 eM (D::X)=k0 X:=by
  unfold d3 oH;rw [ol au a];simp only;have d:(List.range D.length).any (m6 (eM.map λm=>(fR m 24 1 2,(⟨0,2,true⟩:da))) D)=false:=by rw [x9];intro i b;have b:=fE.1 b;have hw:=hw i (by omega);obtain ⟨m,hm⟩:∃ m,eM[i]?=some m:=⟨_,bF (by omega)⟩;unfold m6 l_;rw [dD,d',hm];show ¬ ((decide (dx D i≠1) && (decide (dx D i≠2) && (true || decide (dx D i<2))))=true);rcases hw with e | e<;>simp [e]
  rw [if_neg (by simp),if_neg (by rw [d];simp)];rfl
 unfold me;rw [ar];exact if_neg (by simp [k0])
theorem AM (a:c<6):[jk (cv E c) (bg 0)]=gW c:=by unfold jk gW;rw [Af];show [fR 0 49 0 (gl 1 c)]=_;rw [(vv a).2]
theorem Ow (a:c<6):(kQ E c []).1.ask=some (gW c):=by unfold kQ hW;rw [AM a,nE (by simp [gW])];rfl
theorem Ng (b:c<6) (d:Fit (gW c) D) (a:mP D=0) (X:List (List aL)):kQ E c (D::X)=og E c X:=by unfold kQ hW og;rw [AM b,ol (by simp [gW]) d,if_neg (by simp)];simp only;rw [a,if_neg (λh=>h.1 rfl)];rfl
theorem Nh (a:c<6) (e:Fit (gW c) D) (b:mP D≠0) (d:mP D≠gy c) (X:List (List aL)):kQ E c (D::X)=(⟨false,[],(3,mP D),X,none,false⟩,⟨3,0,0,0,mP D⟩):=by unfold kQ hW;rw [AM a,ol (by simp [gW]) e,if_neg (by simp)];simp only;rw [if_pos ⟨b,by show mP D≠gl 1 c;rw [(vv a).2];exact d⟩];rfl
theorem BD:fs (cv E c) (bg 0)=gJ E.n:=by unfold fs gJ;rw [q_,rj];rfl
theorem zk (n:Nat):gJ n≠[]:=by unfold gJ;simp
theorem Ox:(og E c []).1.ask=some (gJ E.n):=by unfold og ss fw rH k0;rw [BD,nE (zk _)];rfl
def mT (n:Nat) (D:List aL):List bb:=(List.range n).map λi=>(D.getD (2 * i+1) ⟨0,[]⟩).words
theorem Ni (h:Fit (gJ E.n) D) (ar:∀ i,i<E.n->dx D (2 * i)=2) (X:List (List aL)):og E c (D::X)=ft E c (mT E.n D) (dx D (2 * E.n)) (hB (cv E c) (bg 0) (mT E.n D) X).1 (hB (cv E c) (bg 0) (mT E.n D) X).2:=by
 have a:(cv E c).v.mem.length=E.n:=by rw [q_];simp
 have b:bL (D::X) (fs (cv E c) (bg 0))=⟨true,D,(0,0),X,none,false⟩:=by rw [BD];exact ol (zk _) h X
 have d:mw (cv E c) D E.n=true:=by unfold mw;rw [gQ];intro i j;exact beq_iff_eq.2 (ar i (fE.1 j))
 have e:fw (cv E c) (bg 0) (D::X)=k0 X:=by unfold fw rH;rw [b,if_neg (by simp)];simp only;rw [a,if_pos d];rfl
 have f:j3 (cv E c) (bg 0) (D::X)=mT E.n D:=by unfold j3 rv;rw [b,a];rfl
 have g:mR (cv E c) (bg 0) (D::X)=dx D (2 * E.n):=by unfold mR sK;rw [b,a]
 unfold og ss;rw [if_neg (by simp [k0])];show (if (fw (cv E c) (bg 0) (D::X)).ok=false then _ else qX _ _ (j3 (cv E c) (bg 0) (D::X)) (mR (cv E c) (bg 0) (D::X)) (hB _ _ (j3 (cv E c) (bg 0) (D::X)) (fw (cv E c) (bg 0) (D::X)).a7))=_;rw [e,f,g,if_neg (by simp [k0])];rfl
end
end
end Go.Proofs.YtmkljjbioomepaaGreat
