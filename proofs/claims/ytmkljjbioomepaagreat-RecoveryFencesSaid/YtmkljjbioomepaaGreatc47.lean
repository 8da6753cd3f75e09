import Derived.Test.YtmkljjbioomepaaGreatProg
import Derived.Test.YtmkljjbioomepaaGreatc03
import Derived.Test.YtmkljjbioomepaaGreatc46
import Derived.Test.YtmkljjbioomepaaGreatc02
import Derived.Test.YtmkljjbioomepaaGreatRows
import Derived.WalkKit
import Derived.ProofKit
import Derived.OpenShut
import Derived.Deep.Slices
set_option linter.all false
set_option maxHeartbeats 4000000
set_option maxRecDepth 100000
namespace Go.Proofs.YtmkljjbioomepaaGreat
open Go.Proofs.Tryz Go.br
variable {P:Program} {args:Array a4} {kO k:Nat} {e t:TypeId} {held:Bool} {b_:List MemPlace} {r:Reach} {v:a4} {w:ak}
section
open IntKind
variable (w:ak) (R:cA) {i k l:Int} {s:al} {a b:Nat}
theorem Rm:bf prog f6 [ab i,ab k,ab l,ae s a b] R w=(cond ((a:Int)>300) (R (ad true) w) (cm 12 #[ab i,ab 3] w λc Wp=>F7 23 #[ab (i64.wrap (c+1)),ab 4,ab 101] Wp λd f Wd=>cond (!f) (R (ad false) Wd) (du 14 #[] Wd λg We=>cond (!g) (R (ad false) We) (eg 19 #[ab k] We λh j C Xc=>Calls prog 24 #[.pointer d,ab (i64.wrap (c+1)),ab 0,ab 1,ae h j C] Xc λe Xg=>ca.ex λV7=>∃ (A:Bool),e=.returned (.tuple #[V7.val,ad A])/\aR Xg #[ab 0,ab 0,ab 0,ab 0,ab 0,ab 0,ab 0,ah 0,ab 0,ab 0,ab 0,ab 0,a6,a6,a6,ab 0,ab 0,ab 0,ab 0,a6,ab 0,ab 0,ah 0,a6,ad false,ad false,ab 0,ab 0,a6,ab 0,a6,ah 0,ab 0,ab 0,ab 0,ab 0] 45 λa1 Wq=>a8 Wq (af a1 0) 0 V7.cells λV_=>cond (!A) (R (ad false) V_) (cq V_ λWb V=>pD V (af a1 0) λr=>(aR Wb r.cells.toArray 45 λVH V'=>V V'/\cm 12 #[ab l,ab 60] V' λm V5=>V V5/\eg 15 #[.pointer d,ae (bm VH) 1 1,ae s a b,a6,ab m] V5 λn o p V9=>bk n o 0 36 λN=>eD V9 N λWT=>a8 V9 (af a1 0) 0 WT.cells λij=>cq ij λW1 Vu=>pD Vu (af a1 0) λH=>sj 16 #[ab (i64.wrap (c+1)),ab 1,ah 0] W1 λG Wc=>Vu Wc/\aR Wc #[ab H.Kind,ab H.Client,ab H.tn.kN,ab H.gT.kN,ab H.gT.Number,ab H.gT.Client,ab H.gT.Round,ah H.gT.kg,ab H.cZ.Client,ab H.cZ.Seq,ab H.cZ.fF,ab H.cZ.View.Number,ae H.cZ.View.dL H.cZ.View.dN H.cZ.View.dW,ae H.cZ.Reads H.cZ.ja H.cZ.lv,ae H.cZ.ei H.cZ.dI H.cZ.gq,ab H.Recover.Client,ab H.Recover.g5,ab H.Recover.fF,ab H.Recover.View.Number,ae H.Recover.View.dL H.Recover.View.dN H.Recover.View.dW,ab H.Recover.ew,ab H.Recover.fi,ah H.Recover.gD,ae H.qe H.o3 H.qf,ad H.kd,ad H.oS,ab H.Code,ab H.View.Number,ae H.View.dL H.View.dN H.View.dW,ab H.Status,ae H.Doors H.qd H.nY,ah H.kg,ab H.iJ,ab H.jc,ab H.Seq,ab H.i_,ab G.Kind,ab G.Client,ab G.tn.kN,ab G.gT.kN,ab G.gT.Number,ab G.gT.Client,ab G.gT.Round,ah G.gT.kg,ab G.cZ.Client,ab G.cZ.Seq,ab G.cZ.fF,ab G.cZ.View.Number,ae G.cZ.View.dL G.cZ.View.dN G.cZ.View.dW,ae G.cZ.Reads G.cZ.ja G.cZ.lv,ae G.cZ.ei G.cZ.dI G.cZ.gq,ab G.Recover.Client,ab G.Recover.g5,ab G.Recover.fF,ab G.Recover.View.Number,ae G.Recover.View.dL G.Recover.View.dN G.Recover.View.dW,ab G.Recover.ew,ab G.Recover.fi,ah G.Recover.gD,ae G.qe G.o3 G.qf,ad G.kd,ad G.oS,ab G.Code,ab G.View.Number,ae G.View.dL G.View.dN G.View.dW,ab G.Status,ae G.Doors G.qd G.nY,ah G.kg,ab G.iJ,ab G.jc,ab G.Seq,ab G.i_] 45 λVP V8=>Vu V8/\eg 15 #[.pointer d,ae (bm VP) 2 2,ae s a b,a6,ab 5000] V8 λq u t Vx=>Vu Vx/\bk q u 0 36 λW8=>eD Vx W8 λXm=>a8 Vx (af a1 0) 0 Xm.cells λL=>g1 L (af a1 24) λv=>cond (!v) (R (ad false) L) (g1 L (af a1 25) λx=>cond x (R (ad false) L) (bt L (af a1 26) λy=>cond (y != 0) (bt L (af a1 26) λz=>cond (z != 5) (bt L (af a1 26) λVF=>cond (VF != 7) (R (ad false) L) (bk q u 1 36 λVJ=>g1 L (bM VJ 24) λWI=>cond (!WI) (R (ad false) L) (bk q u 1 36 λWO=>bt L (bM WO 26) λVT=>cond (VT != 0) (R (ad false) L) (eg 19 #[ab k] L λWC Xd WR WN=>sl 18 #[.pointer d,ae WC Xd WR] WN λWh Vz V2 S=>cond (!V2) (R (ad false) S) (bt S (af a1 32) λW2=>cond (W2 == 3) (cond (!Wh) (R (ad false) S) (bt S (af a1 32) λD=>cond (D == 1) (cond (!Vz) (R (ad false) S) (cond Wh (R (ad true) S) (R (ad Vz) S))) (cond Wh (R (ad true) S) (R (ad Vz) S)))) (bt S (af a1 32) λWx=>cond (Wx == 1) (cond (!Vz) (R (ad false) S) (cond Wh (R (ad true) S) (R (ad Vz) S))) (cond Wh (R (ad true) S) (R (ad Vz) S)))))))) (bk q u 1 36 λVK=>g1 L (bM VK 24) λW7=>cond (!W7) (R (ad false) L) (bk q u 1 36 λXi=>bt L (bM Xi 26) λVM=>cond (VM != 0) (R (ad false) L) (eg 19 #[ab k] L λWi WH Wr VZ=>sl 18 #[.pointer d,ae Wi WH Wr] VZ λU Vy Xj I=>cond (!Xj) (R (ad false) I) (bt I (af a1 32) λO=>cond (O == 3) (cond (!U) (R (ad false) I) (bt I (af a1 32) λWk=>cond (Wk == 1) (cond (!Vy) (R (ad false) I) (cond U (R (ad true) I) (R (ad Vy) I))) (cond U (R (ad true) I) (R (ad Vy) I)))) (bt I (af a1 32) λWD=>cond (WD == 1) (cond (!Vy) (R (ad false) I) (cond U (R (ad true) I) (R (ad Vy) I))) (cond U (R (ad true) I) (R (ad Vy) I)))))))) (bk q u 1 36 λW9=>g1 L (bM W9 24) λWM=>cond (!WM) (R (ad false) L) (bk q u 1 36 λWB=>bt L (bM WB 26) λVV=>cond (VV != 0) (R (ad false) L) (eg 19 #[ab k] L λWY Ws VS VY=>sl 18 #[.pointer d,ae WY Ws VS] VY λVr VB Wm T=>cond (!Wm) (R (ad false) T) (bt T (af a1 32) λVE=>cond (VE == 3) (cond (!Vr) (R (ad false) T) (bt T (af a1 32) λWn=>cond (Wn == 1) (cond (!VB) (R (ad false) T) (cond Vr (R (ad true) T) (R (ad VB) T))) (cond Vr (R (ad true) T) (R (ad VB) T)))) (bt T (af a1 32) λWV=>cond (WV == 1) (cond (!VB) (R (ad false) T) (cond Vr (R (ad true) T) (R (ad VB) T))) (cond Vr (R (ad true) T) (R (ad VB) T))))))))))/\cm 12 #[ab l,ab 60] Wb λWW V4=>V V4/\aR V4 r.cells.toArray 45 λXa W=>eg 15 #[.pointer d,ae (bm Xa) 1 1,ae s a b,a6,ab WW] W λVR WG E Wf=>bk VR WG 0 36 λVG=>eD Wf VG λV3=>a8 Wf (af a1 0) 0 V3.cells λVX=>cq VX λWj Vt=>pD Vt (af a1 0) λaW=>sj 16 #[ab (i64.wrap (c+1)),ab 1,ah 0] Wj λF Wa=>Vt Wa/\aR Wa #[ab aW.Kind,ab aW.Client,ab aW.tn.kN,ab aW.gT.kN,ab aW.gT.Number,ab aW.gT.Client,ab aW.gT.Round,ah aW.gT.kg,ab aW.cZ.Client,ab aW.cZ.Seq,ab aW.cZ.fF,ab aW.cZ.View.Number,ae aW.cZ.View.dL aW.cZ.View.dN aW.cZ.View.dW,ae aW.cZ.Reads aW.cZ.ja aW.cZ.lv,ae aW.cZ.ei aW.cZ.dI aW.cZ.gq,ab aW.Recover.Client,ab aW.Recover.g5,ab aW.Recover.fF,ab aW.Recover.View.Number,ae aW.Recover.View.dL aW.Recover.View.dN aW.Recover.View.dW,ab aW.Recover.ew,ab aW.Recover.fi,ah aW.Recover.gD,ae aW.qe aW.o3 aW.qf,ad aW.kd,ad aW.oS,ab aW.Code,ab aW.View.Number,ae aW.View.dL aW.View.dN aW.View.dW,ab aW.Status,ae aW.Doors aW.qd aW.nY,ah aW.kg,ab aW.iJ,ab aW.jc,ab aW.Seq,ab aW.i_,ab F.Kind,ab F.Client,ab F.tn.kN,ab F.gT.kN,ab F.gT.Number,ab F.gT.Client,ab F.gT.Round,ah F.gT.kg,ab F.cZ.Client,ab F.cZ.Seq,ab F.cZ.fF,ab F.cZ.View.Number,ae F.cZ.View.dL F.cZ.View.dN F.cZ.View.dW,ae F.cZ.Reads F.cZ.ja F.cZ.lv,ae F.cZ.ei F.cZ.dI F.cZ.gq,ab F.Recover.Client,ab F.Recover.g5,ab F.Recover.fF,ab F.Recover.View.Number,ae F.Recover.View.dL F.Recover.View.dN F.Recover.View.dW,ab F.Recover.ew,ab F.Recover.fi,ah F.Recover.gD,ae F.qe F.o3 F.qf,ad F.kd,ad F.oS,ab F.Code,ab F.View.Number,ae F.View.dL F.View.dN F.View.dW,ab F.Status,ae F.Doors F.qd F.nY,ah F.kg,ab F.iJ,ab F.jc,ab F.Seq,ab F.i_] 45 λWJ V6=>Vt V6/\eg 15 #[.pointer d,ae (bm WJ) 2 2,ae s a b,a6,ab 5000] V6 λVv Z Xn Vw=>Vt Vw/\bk Vv Z 0 36 λWt=>eD Vw Wt λWu=>a8 Vw (af a1 0) 0 Wu.cells λM=>g1 M (af a1 24) λVN=>cond (!VN) (R (ad false) M) (g1 M (af a1 25) λWE=>cond WE (R (ad false) M) (bt M (af a1 26) λVQ=>cond (VQ != 0) (bt M (af a1 26) λW6=>cond (W6 != 5) (bt M (af a1 26) λV0=>cond (V0 != 7) (R (ad false) M) (bk Vv Z 1 36 λWw=>g1 M (bM Ww 24) λVO=>cond (!VO) (R (ad false) M) (bk Vv Z 1 36 λWl=>bt M (bM Wl 26) λVI=>cond (VI != 0) (R (ad false) M) (eg 19 #[ab k] M λXf V1 W_ X=>sl 18 #[.pointer d,ae Xf V1 W_] X λVs VC WQ Q=>cond (!WQ) (R (ad false) Q) (bt Q (af a1 32) λWZ=>cond (WZ == 3) (cond (!Vs) (R (ad false) Q) (bt Q (af a1 32) λWA=>cond (WA == 1) (cond (!VC) (R (ad false) Q) (cond Vs (R (ad true) Q) (R (ad VC) Q))) (cond Vs (R (ad true) Q) (R (ad VC) Q)))) (bt Q (af a1 32) λWS=>cond (WS == 1) (cond (!VC) (R (ad false) Q) (cond Vs (R (ad true) Q) (R (ad VC) Q))) (cond Vs (R (ad true) Q) (R (ad VC) Q)))))))) (bk Vv Z 1 36 λXl=>g1 M (bM Xl 24) λXb=>cond (!Xb) (R (ad false) M) (bk Vv Z 1 36 λXe=>bt M (bM Xe 26) λWU=>cond (WU != 0) (R (ad false) M) (eg 19 #[ab k] M λWK VL Wv W0=>sl 18 #[.pointer d,ae WK VL Wv] W0 λJ VD Xh K=>cond (!Xh) (R (ad false) K) (bt K (af a1 32) λW4=>cond (W4 == 3) (cond (!J) (R (ad false) K) (bt K (af a1 32) λWz=>cond (Wz == 1) (cond (!VD) (R (ad false) K) (cond J (R (ad true) K) (R (ad VD) K))) (cond J (R (ad true) K) (R (ad VD) K)))) (bt K (af a1 32) λY=>cond (Y == 1) (cond (!VD) (R (ad false) K) (cond J (R (ad true) K) (R (ad VD) K))) (cond J (R (ad true) K) (R (ad VD) K)))))))) (bk Vv Z 1 36 λWX=>g1 M (bM WX 24) λWL=>cond (!WL) (R (ad false) M) (bk Vv Z 1 36 λWo=>bt M (bM Wo 26) λWF=>cond (WF != 0) (R (ad false) M) (eg 19 #[ab k] M λWP VW W5 Wy=>sl 18 #[.pointer d,ae WP VW W5] Wy λWg VA Xk P=>cond (!Xk) (R (ad false) P) (bt P (af a1 32) λW3=>cond (W3 == 3) (cond (!Wg) (R (ad false) P) (bt P (af a1 32) λB=>cond (B == 1) (cond (!VA) (R (ad false) P) (cond Wg (R (ad true) P) (R (ad VA) P))) (cond Wg (R (ad true) P) (R (ad VA) P)))) (bt P (af a1 32) λVU=>cond (VU == 1) (cond (!VA) (R (ad false) P) (cond Wg (R (ad true) P) (R (ad VA) P))) (cond Wg (R (ad true) P) (R (ad VA) P)))))))))))))):=by kernel_rfl
end
section
open g4
section
attribute [local irreducible] eX
theorem e'.ES {A:a5} {aw:Nat->Tag} {C z:ak} {aN:Nat} {L B:a5} {dq:Nat->Tag} {X:bQ} (w:e' A aw C aN L z B dq X) (F:cp X.pure) {ts:List (eI×b9 conv)} {pa:al} {pl pc:Nat} (l:pl=ts.length) (q:bh z pa (g' ts).flatten) (s:∀ x ∈ ts,gu (λk=>B k\/L k) z x.1 x.2/\lU x.2) (p:ts.length<=1000)
  {sch:bb} {sa:al} {sc:Nat} (n:nX (λk=>B k\/L k) z sa (is sch)) (o:∀ x ∈ sch,ec x) {most:Nat} (hm:most<=1000000) {y ul:List (b9 conv)} (r:ts.map Prod.snd=y) {F':aM} (ar:eX X.pure y sch [] most=(F',ul)) :
  a_ 15 [ptr aN,.slice pa pl pc,.slice sa sch.length sc,.slice none 0 0,.int .i64 most] z λv u=>∃ la lc a B' t e,v=.slice la ul.length lc/\e' A aw C aN L u B' t e/\e.pure=F'/\a.map Prod.snd=ul/\bh u la (g' a).flatten/\(∀ x ∈ a,gu (λk=>B' k\/L k) u x.1 x.2)/\(∀ k,L k->u.heap[k]?=z.heap[k]?)/\∀ k,aK la k->¬ L k:=by
 subst l r;have b:=yP w.cl F q s p (pc:=pc) n o (sc:=sc) hm;rw [ar] at b;refine aC b ?_;rintro v u J;obtain ⟨B',t,e,D,h,f,H,E,g⟩:=w.op J;obtain ⟨la,lc,a,rfl,c,j,i,d⟩:=f;exact ⟨_,rfl,la,lc,a,B',t,e,rfl,D,h,c,j.rd,d,g,λk G I=>i k G (.inr I)⟩
theorem UP (w:ak) {Wp Wu VV:Int} {Wr:al} {Wv:Nat} {ord:bb} (W9:ec Wp) (WU:ec Wu) (WV:ec VV) (E:bh w Wr (is ord)) (V_:∀ x ∈ ord,ec x) :
  a_ 6 [.int .i64 Wp,.int .i64 Wu,.int .i64 VV,.slice Wr ord.length Wv] w λv u=>v=.bool true/\ai w u:=by
 refine bc Tryz.func6 ?_;rw [Rm];refine a' (λh=>⟨rfl,ao.refl _ _⟩) (λXh=>?_)
 refine aC (s' _ _ _ W9 (by omega)) ?_;rintro v bE ⟨rfl,WJ⟩;obtain rfl:w=bE:=WJ.symm;rw [if_neg (by omega)];refine ⟨_,rfl,?_⟩;obtain ⟨n,Xf,W⟩:∃ n:Nat,Wp % 3+1=n/\1<=n/\n<=3:=⟨(Wp % 3+1).toNat,by omega,by omega⟩;rw [bC (x:=Wp % 3+1) (by omega) (by omega),Xf];refine aC (Di (n:=n) (c:=4) (lines:=101) (by omega) (by omega) (by omega)) ?_;rintro v bE ⟨aN,A,aw,X,rfl,W_,V9,VW,V1⟩;refine ⟨_,_,rfl,cR rfl ?_⟩;refine aC (NM _) ?_;rintro v Xy ⟨rfl,Vy⟩;refine ⟨_,rfl,cR rfl ?_⟩;obtain ⟨y,W0,j⟩:∃ y:Nat,(Wu % 14).toNat=y/\y<14:=⟨(Wu % 14).toNat,rfl,by omega⟩;refine aC (Cf WU) ?_;rw [W0];rintro v bu ⟨Xv,cc,rfl,WE,VD⟩;refine ⟨_,_,_,rfl,?_⟩;have S:Mx w bu aN A aw X (aM.fresh n 4 101):=⟨W_.new (Vy.new VD),V1,V9.new (Vy.new VD),VW⟩;have Y:∀ (i:Nat) (x:g_),X.nodes[i]?=some x->x.n=⟨fmt 101 n,false⟩:=λi x Q=>by
  have:X.pure.nodes[i]?=some x.n:=by simp [bQ.pure,Q]
  rw [V1] at this;exact (AX.1 (cg this)).2
 have Xg:X.nodes.length=n:=by
  have:X.pure.nodes.length=n:=by rw [V1];simp [aM.fresh]
  rw [<-this];simp [bQ.pure]
 obtain ⟨x,Q⟩:∃ x,X.nodes[0]?=some x:=⟨_,bF (by omega)⟩;have VR:=Y 0 x Q;have hlen:x.n.words.length=808:=by rw [VR];obtain ⟨h,_⟩:=xL W;simp only [u6,eY,beq_iff_eq] at h;exact h.1
 refine aC (B9 S.cl (n:=n) (by omega) Q (by rw [VR]) (L:=ej y) (λl Xc=>by have:=xx Xc;omega) (by have:=(rt y j).2;omega) WE 0 1) ?_;rintro v Ws ⟨c_,de,eN,rfl,J,an,B,WK⟩;rw [B_ W j VR] at B;refine ca.aS (jl 0 1 101 c_ de (ej y).length eN) ⟨true,rfl,?_⟩;refine ea (vs:=(jl 0 1 101 c_ de (ej y).length eN).cells) rfl (ca.single _) λb1 Xs Xb VS VE=>?_
 refine cR rfl ?_;rintro Wt Wg;have t:ai Xs Wt:=by rw [Wg];exact cD _
 clear Wg;have VF:ai Ws Wt:=VE.new t;have g:ai w Ws:=S.new.new J;have R:bZ A aw Ws aN X:=S.cl.new J;have Xd:=VS.lt;have WW:=J.size;have WY:=VF.size;have WX:=VE.size;have WZ:=t.size;refine ⟨λq=>ai Wt q,ao.refl _ _,ca.aS (jl 0 1 101 c_ de (ej y).length eN) ⟨λq WC=>bK (ai.aj (t.new WC) VS) rfl,?_⟩⟩;obtain ⟨W2,t1,V6,WA,Wd,W3,t2,Xk,V7,WB,V3,Wa,VL,ay,⟨Xn,Xm,Xl,Xo,WF⟩,V'⟩:=LJ W j ord (VV % 60).toNat
 have VN:((VV % 60).toNat:Int)=VV % 60:=by omega
 refine ⟨?Wn,?Wo⟩;case' Wn=>rintro aA u8 VM O;obtain ⟨Wm,d⟩:=bl VM O;clear O;refine ⟨d,?_⟩;refine aC (s' _ _ _ WV (by omega)) ?_;rintro v WS ⟨rfl,VQ⟩;obtain rfl:u8=WS:=VQ.symm;rw [if_neg (by omega)];refine ⟨_,rfl,d,?_⟩
 case' Wo=>refine aC (s' _ _ _ WV (by omega)) ?_;rintro v WS ⟨rfl,VQ⟩;obtain rfl:Wt=WS:=VQ.symm;rw [if_neg (by omega)];refine ⟨_,rfl,ao.refl _ _,?_⟩;rintro aA u8 VM O;obtain ⟨Wm,d⟩:=bl VM O;clear O
 all_goals
  have s:=VF.new d;have Xi:=d.size;have Wx:e' A aw Ws aN (λk=>k=b1) u8 A aw X:=e'.start R s λk F=>by rw [F];exact ⟨by omega,by omega⟩
  have Wj:(ej y).length=((ej y).map jx).length:=by simp
  have V8:∀ k,A k\/k=b1->w.heap.size<=k:=λk F=>F.elim (VW k) λe=>by have:=g.size;omega
  have WG:gu (λk=>A k\/k=b1) u8 (jl 0 1 101 c_ de (ej y).length eN) (lh n y):=by
   refine Cg ((an.mono λk Xe F=>F.resolve_right (by omega)).new s) (B.rd.new s) Wj (by rw [<-Wj];have:=(rt y j).2;omega) (g9 B.rd λk F Wq=>?_) DH;have Xw:=WK _ F;have Xx:=B.lt F;rcases Wq with Wq | Wq
   ·have:=S.cl.low _ Wq;omega
   ·omega
  have H:=Wx.ES (by rw [V1];exact cp.fresh (by omega) (by omega) (by omega)) (ts:=[(jl 0 1 101 c_ de (ej y).length eN,lh n y)]) (pa:=some ⟨aA,0,none⟩) (pl:=1) (pc:=1) rfl (fk Wm (by simp [g'])) (λx Q=>by simp at Q;rw [Q];exact ⟨WG,Hd n y⟩) (by simp) (sch:=ord) (sa:=Wr) (sc:=Wv) (C_ E (g.new s) V8) V_ (most:=(VV % 60).toNat) (by omega) (ul:=[t1]) (F':=W2) rfl (by rw [V1];exact V6);rw [VN] at H;refine aC H ?_;rintro v WN ⟨la,lc,Xp,VK,Xt,W4,rfl,VX,Vv,WH,Wb,WI,Wz,_⟩;obtain ⟨⟨r1,Vr⟩,rfl,Vs⟩:=u7 WH;have Vs:Vr=t1:=Vs;subst Vs;refine ⟨_,_,_,rfl,eo (cells:=λx:eI×b9 conv=>x.1.cells) (λx=>ca.len x.1) (by omega) Wb (i:=0) (x:=(r1,Vr)) rfl rfl rfl λb o T _=>ca.aS r1 ⟨T,?_⟩⟩;have Wk:av WN b1 (jl 0 1 101 c_ de (ej y).length eN).cells 45:=(Wz b1 rfl).trans (ai.aj (t.new d) VS);refine dO (vs:=r1.cells) Wk rfl (ca.single _) λWO Wl Vw=>?_
  have VY:=VX.local Vw λk e=>e
  have We:=(WI (r1,Vr) (by simp)).az (A':=λk=>VK k\/k=b1) (Vw.mono λk _ e=>.inr e) λ_ _ h=>h
  rintro VU VH;have I:ai WO VU:=by rw [VH];exact cD _
  clear VH;have a:=ai.aj I Wl;refine ⟨λq=>q.heap[b1]?=VU.heap[b1]?,rfl,ca.aS r1 ⟨λq WC=>bK (WC.trans a) rfl,?_⟩⟩;have G:=VY.new I;have Wi:ai w VU:=G.ia R g VW;refine aC (Ew (A:=λk=>VK k\/k=b1) (λk F=>G.cl.low k F) (n:=n) (by omega) 1 0) ?_;rintro v Xq ⟨VT,rfl,Vz,Wh⟩;refine ca.aS (pG 1 0 VT) ⟨rfl,(ai.aj Vz a).trans a.symm,?_⟩;rintro WT WP Wy VI;obtain ⟨P,VA⟩:=bl Wy VI;have P:av WP WT (r1.cells++(pG 1 0 VT).cells) 45:=P;clear VI;have M:=Vz.new VA;refine ⟨(ai.aj M a).trans a.symm,?_⟩;have Vt:=G.new M;have V:∀ k,VK k\/k=b1->w.heap.size<=k:=Vt.owns R g VW;have U:=Vt.ES (by rw [Vv];exact WA) (ts:=[(r1,Vr),(pG 1 0 VT,mW n 1)]) (pa:=some ⟨WT,0,none⟩) (pl:=2) (pc:=2) rfl (fk P (by simp only [g',gA,rk,gR,List.flatten_nil,iW,sW,hv])) (λx Q=>by
   simp at Q;rcases Q with rfl | rfl
   ·exact ⟨We.az ((I.new M).mono λ_ _ e=>e.elim) λ_ _ h=>h,Wd⟩
   ·exact ⟨Ch (Wh.new VA) ⟨by omega,by omega⟩,He n 1⟩) (by simp) (sch:=ord) (sa:=Wr) (sc:=Wv) (C_ E (Wi.new M) V) V_ (most:=5000) (by omega) (ul:=[t2,Xk]) (F':=W3) rfl (by rw [Vv];exact V7)
  refine aC U ?_;rintro v WQ ⟨lb,Xj,WM,W1,Xu,W5,rfl,VZ,V2,N,r,VG,V4,VO⟩;have VJ:av WQ b1 r1.cells 45:=(V4 b1 rfl).trans (ai.aj M a);refine ⟨_,_,_,rfl,VJ.trans a.symm,?_⟩;obtain ⟨⟨D,WL⟩,⟨aH,tb⟩,rfl⟩:=Ci (show WM.length=2 by rw [<-fC (f:=Prod.snd),N];rfl);simp only [gA,rk,List.cons.injEq,and_true] at N;obtain ⟨rfl,rfl⟩:=N;have VP:=VG (D,WL) (by simp);have Wf:=VG (aH,tb) (by simp);refine eo (cells:=λx:eI×b9 conv=>x.1.cells) (λx=>ca.len x.1) (by omega) r (i:=0) (x:=(D,WL)) rfl rfl rfl λb o T _=>ca.aS D ⟨T,?_⟩
  refine dO (vs:=D.cells) VJ rfl (ca.single _) λu16 p Vx=>?_
  have V0:=VZ.local Vx λk e=>e
  have Z:bh u16 lb (g' [(D,WL),(aH,tb)]).flatten:=r.az Vx (g9 r λk F e=>VO k F e);refine ⟨_,p.cell (i:=24) rfl,cR (by rw [VP.eK,WB];rfl) ⟨_,p.cell (i:=25) rfl,cR (VP.bad.trans V3) ⟨_,p.cell (i:=26) rfl,?_⟩⟩⟩;have Wc:(D.Code=0/\D.iJ=3/\VL=true)\/(D.Code=5/\(D.iJ=1->VL=false)/\(D.iJ=3->VL=true)):=by
   have E:=VP.out;rcases V' with ⟨e,Ww⟩ | ⟨f,e,f1,f3⟩
   ·rw [e] at E;exact .inl ⟨E.1,E.2,Ww⟩
   ·rw [e] at E;exact .inr ⟨E.1,λh=>f1 ((show D.iJ=f from E.2).symm.trans h),λh=>f3 ((show D.iJ=f from E.2).symm.trans h)⟩
  have WD:aH.Code=0:=by have E:=Wf.out;rw [WF] at E;exact E.1
  rcases Wc with ⟨Vs,W8,Ww⟩ | ⟨Vs,f1,f3⟩;case' inl=>
   have f1:D.iJ=1->VL=false:=λh=>by rw [W8] at h;cases h
   have f3:D.iJ=3->VL=true:=λ_=>Ww
   refine cR (by rw [Vs];rfl) ?_
  case' inr=>refine eB (by rw [Vs];rfl) ⟨_,p.cell (i:=26) rfl,cR (by rw [Vs];rfl) ?_⟩
  all_goals
   have rd:∀ {K:aU->Prop},(∀ b o,(∀ (q:Nat) (v:a4),aH.cells[q]?=some v->u16.cell? ⟨b,o+q,none⟩=some v)->K ⟨b,o,none⟩)->bk lb 2 1 36 K:=λ{K} Xa=>
    eo (cells:=λx:eI×b9 conv=>x.1.cells) (λx=>ca.len x.1) (by omega) Z (i:=1) (x:=(aH,tb)) rfl rfl rfl λb o _ T=>Xa b o T
   refine rd λb o T=>⟨_,T 24 _ rfl,cR (by rw [Wf.eK,Wa];rfl) (rd λb o T=>⟨_,T 26 _ rfl,cR (by rw [WD];rfl) ?_⟩)⟩
   refine aC (Cf WU) ?_;rw [W0];rintro v Xr ⟨W6,W7,rfl,V5,VB⟩;refine ⟨_,_,_,rfl,?_⟩;have Vu:=V0.new VB;refine aC (KC Vu.cl W j (b:=VL) (by rw [V2];exact ay) V5) ?_;rintro v WR ⟨rfl,VC⟩;have C:=ai.aj (VB.new VC) p;have z:ai w WR:=(Vu.new VC).ia R g VW;refine ⟨_,_,_,rfl,cR rfl ⟨_,C.cell (i:=32) rfl,?_⟩⟩;cases VL with
   |true=>refine dJ (λ_=>cR rfl ⟨_,C.cell (i:=32) rfl,dJ (λh=>by cases f1 h) λ_=>eB rfl ⟨rfl,z⟩⟩) λ_=>⟨_,C.cell (i:=32) rfl,dJ (λh=>by cases f1 h) λ_=>eB rfl ⟨rfl,z⟩⟩
   |false=>refine dJ (λh=>by cases f3 h) λ_=>⟨_,C.cell (i:=32) rfl,dJ (λ_=>cR rfl (cR rfl ⟨rfl,z⟩)) λ_=>cR rfl ⟨rfl,z⟩⟩
end
end
section
open Go.ChangeShapes Go.WideShapes Go.ChangeAt Go.RowKit
theorem laid:laidOutB prog=true:=by kernel_rfl
theorem OS:ownKnob prog.godebug=none:=by kernel_rfl
theorem GS {H:Type} {enc:TypeId×a4->H} {W W':ak} {sp:Nat->Bool}:∀ {ts:List TypeId} {vs:ax} {ds:List (DataW H)} {b_:List MemPlace},(∀ t ∈ ts,prog.readableRec t=true/\t<prog.types.size)->DataW.TrodAll enc prog W 0 (λ_=>true) true ts vs ds b_->
  (∀ p ∈ b_,W.sameAt W' p)->(∀ p ∈ b_,sp p.block=true)->DataW.TrodAll enc prog W' 0 sp true ts vs ds b_
 | [],_,_,_,_,h,_,_=>by obtain ⟨rfl,rfl,rfl⟩:=trodAll_nil h;exact trodAll_mk0
 |t::ts,_,_,_,e,h,g,f=>by obtain ⟨v,l,d,i,a,b,rfl,rfl,rfl,j,k⟩:=trodAll_cons h;refine trodAll_cons_mk (WideElems.Trod_stays laid (e t e_).1 (e t e_).2 j (λp c=>g p (u4 _ c)) λp c=>f p (u4 _ c)) ?_;exact GS (λt h=>e t (fD _ h)) k (λp c=>g p (List.mem_append_right _ c)) λp c=>f p (List.mem_append_right _ c)
theorem LK {H:Type} {enc:TypeId×a4->H} {f:Func} {s:ChangeSpec} {apart:Bool} {W W':ak} {ds gs:List (DataW H)} {before:List MemPlace} {tb:TypeId} (eT:DataW.Whole enc prog f.params.toList s.vars apart W args.toList ds gs before)
  (k:Go.br.ai W W') (e:∀ t ∈ f.params.toList,prog.readableRec t=true/\t<prog.types.size) (an:s.vars=[]) (a:s.fn H (ds++gs)={ results:=[.lit (.bool true)],args:=ds }) (o:f.resultTypes=#[tb]) (d:prog.underlying tb=some .bool) :
  s.post enc prog f apart true false false W args (.bool true) W':=by
 have i:Go.RowKit.Below W.heap.size W W':=k.below (cO _) λ_ _ h=>h
 have b:=eT.lt;have c:=eT;obtain ⟨p,q,j,r,rfl,l,n⟩:=eT;refine ⟨ds,gs,p++q,[],p,[],c,?_,?_,?_,i.frame _,λh=>by cases h⟩
 ·rw [a,o];exact trodAll_cons_mk (shut_bool d _) trodAll_mk0
 ·rw [a];exact GS e j (λx g=>i.same (b x (u4 _ g))) λx g=>by simpa using b x (u4 _ g)
 ·rw [a,an];rfl
theorem vr {n:Int} (h:(Lit.int .i64 n).wf=true):ec n:=by have:=bounds_i64 h;exact ⟨this.1,by omega⟩
end
section
open Go.ChangeShapes Go.WideShapes Go.ChangeAt Go.RowKit
theorem CY {sz:Nat} (b:0<sz):∀ {rows:List ax} {j:Nat} {u:a4},(∀ r ∈ rows,r.length=sz)->rows.flatten[j]?=some u->∃ r,rows[j / sz]?=some r/\r[j % sz]?=some u
 | [],j,u,_,h=>by simp at h
 |r::rows,j,u,d,h=>by
  have k:=d r e_;rw [gR,p3] at h;by_cases c:j<sz
  ·rw [if_pos (by omega)] at h;exact ⟨r,by rw [Nat.div_eq_of_lt c];rfl,by rw [sU c];exact h⟩
  ·rw [if_neg (by omega),k] at h;obtain ⟨l,g,i⟩:=CY b (λr a=>d r (fD _ a)) h;have e:j / sz=(j - sz) / sz+1:=by rw [Nat.div_eq_sub_div b (by omega)]
   have f:j % sz=(j - sz) % sz:=by rw [Nat.mod_eq_sub_mod (by omega)]
   exact ⟨l,by rw [e];simpa using g,by rw [f];exact i⟩
theorem KE {a:aU} (h:w.cell? a=some v):a.spot=none:=by
 cases b:a.spot with
 |none=>rfl
 |some s=>exfalso;unfold World.cell? at h;simp only [b,Option.isSome_some,if_true] at h;split at h<;>simp_all
theorem Jq {H:Type} {enc:TypeId×a4->H} {W:ak} {fuel:Nat} {cs:ax} {x:DataW H×List MemPlace} (M:P.underlying t=some (.slice e)) (I:P.cellsOf e=k) (A:0<k)
  (J:DataW.trod enc P W 0 (λ_=>true) held fuel t cs=some x):∃ a cap rows,cs=[.slice a (List.length rows) cap]/\rows.length<=cap/\bh W a rows.flatten/\∀ r ∈ rows,r.length=k/\∃ fuel x,DataW.trod enc P W 0 (λ_=>true) held fuel e r=some x:=by
 rcases Deep.open_slice M J with ⟨z,_⟩ | ⟨bw,len,cap,m,n,D,C,z,_,E,_,F,_,G⟩
 ·exact ⟨none,0,[],z,cO _,.inl rfl,λx N=>by cases N⟩
 ·subst z;have hm:len<=m:=by rw [F];simp;omega
  obtain ⟨f,h⟩:=Deep.choose_lt (α:=ax) (p:=λi cs=>W.cells? 0 (bw.add (i * k)) k=some cs/\DataW.trod enc P W 0 (λ_=>true) held n e cs=some (D i,C i)) (n:=m) (λi b=>by obtain ⟨cs,o,w⟩:=G i b;rw [I] at o;exact ⟨cs,o,w⟩)
  have g:∀ (i:Nat) (r:ax),((List.range len).map f)[i]?=some r->i<len/\r=f i:=by intro i r l;have b:=ch l;simp at b;simp [b] at l;exact ⟨b,l.symm⟩
  have d:∀ r ∈ (List.range len).map f,r.length=k:=by intro r l;obtain ⟨i,b⟩:=eF.1 l;obtain ⟨b,rfl⟩:=g i r b;exact (World.cells?_some (h i (by omega)).1).2.1
  refine ⟨some bw,cap,(List.range len).map f,by simp,by simpa using E,?_,λr l=>⟨d r l,?_⟩⟩
  ·by_cases y:len=0
   ·subst y;exact .inl rfl
   ·have c:∀ (i q:Nat) (u:a4),i<len->(f i)[q]?=some u->q<k->W.cell? (bw.add (i * k+q))=some u:=by intro i q u b L B;have:=(World.cells?_some (h i (by omega)).1).2.2 q B;rw [Deep.add_add] at this;rw [this,L]
    have K:=(World.cells?_some (h 0 (by omega)).1).2.1;have O:bw.spot=none:=by have s:=c 0 0 _ (by omega) (bF (by omega)) A;have:=KE s;simpa [Addr.add] using this
    refine .inr ⟨bw.block,bw.off,by cases bw;simp_all,λj u hu=>?_⟩;obtain ⟨r,o,w⟩:=CY A d hu;obtain ⟨b,rfl⟩:=g _ _ o;have s:=c (j / k) (j % k) u b w (Nat.mod_lt _ A);rw [uT,Nat.div_add_mod] at s;rw [<-s];unfold Addr.add;split
    ·rename_i y;subst y;cases bw;simp_all
    ·cases bw;simp_all
  ·obtain ⟨i,b⟩:=eF.1 l;obtain ⟨b,rfl⟩:=g i r b;exact ⟨n,_,(h i (by omega)).2⟩
theorem J9 {H:Type} {enc:TypeId×a4->H} {W:ak} {d:DataW H} (g:P.underlying t=some (.slice e)) (n:P.cellsOf e=k) (p:0<k) (f:Value.okWide P W r kO t v)
  (ar:DataW.Trod enc P W 0 (λ_=>true) held t v d b_):∃ a cap rows,v=.slice a (List.length rows) cap/\bh W a rows.flatten/\∀ r ∈ rows,r.length=k/\∃ fuel x,DataW.trod enc P W 0 (λ_=>true) held fuel e r=some x:=by
 obtain ⟨a,len,cap,rfl⟩:=okWide_slice g f;obtain ⟨fuel,o⟩:=ar;obtain ⟨h,b,rows,i,_,j,l⟩:=Jq g n p o;have c:[Value.slice a len cap]=[.slice h rows.length b]:=i;simp at c;obtain ⟨rfl,rfl,rfl⟩:=c;exact ⟨_,_,_,rfl,j,l⟩
theorem J_ {H:Type} {enc:TypeId×a4->H} {W:ak} {d:DataW H} (q:P.underlying t=some (.slice e)) (he:P.underlying e=some (.int .i64)) (o:P.cellsOf e=1) (c:Value.okWide P W r kO t v)
  (ar:DataW.Trod enc P W 0 (λ_=>true) held t v d b_):∃ a cap xs,v=.slice a (List.length xs) cap/\bh W a (is xs)/\∀ x ∈ xs,ec x:=by
 obtain ⟨a,cap,rows,rfl,l,k⟩:=J9 q o (by omega) c ar;have hint:∀ r ∈ rows,∃ n,r=[.int .i64 n]/\ec n:=by intro r j;obtain ⟨_,fuel,x,b⟩:=k r j;obtain ⟨n,e,_,w⟩:=DataW.trod_int he b;exact ⟨n,e,vr w⟩
 clear k;have key:∀ rows:List ax,(∀ r ∈ rows,∃ n,r=[Value.int .i64 n]/\ec n)->∃ xs:bb,rows.length=xs.length/\rows.flatten=is xs/\∀ x ∈ xs,ec x:=by
  intro rows;induction rows with
  |nil=>intro _;exact ⟨[],rfl,rfl,λx b=>by cases b⟩
  |cons r rows s=>
   intro h;obtain ⟨n,rfl,p⟩:=h r e_;obtain ⟨xs,f,g,i⟩:=s λr j=>h r (fD _ j)
   refine ⟨n::xs,by simp [f],by simp [is,g],λx b=>?_⟩;rcases e9.1 b with rfl | b
   ·exact p
   ·exact i x b
 obtain ⟨xs,f,g,i⟩:=key rows hint;exact ⟨a,cap,xs,by rw [f],by rw [<-g];exact l,i⟩
end
section
open Go.ChangeShapes Go.WideShapes Go.ChangeAt Go.RowKit
theorem Jr {H:Type} {enc:TypeId×a4->H} {base:Nat} {spare:Nat->Bool} {t0 t1 t2 t3:TypeId} {ds:List (DataW H)} (h:DataW.TrodAll enc P w base spare held [t0,t1,t2,t3] args.toList ds b_) :
  ∃ v0 v1 v2 e d0 d1 d2 d3 a b c d,args=#[v0,v1,v2,e]/\ds=[d0,d1,d2,d3]/\b_=a++b++c++d/\DataW.Trod enc P w base spare held t0 v0 d0 a/\DataW.Trod enc P w base spare held t1 v1 d1 b/\DataW.Trod enc P w base spare held t2 v2 d2 c/\DataW.Trod enc P w base spare held t3 e d3 d:=by
 obtain ⟨v0,dV,d0,q,a,z,f,rfl,rfl,g,l⟩:=trodAll_cons h;obtain ⟨v1,u,d1,r,b,A,rfl,rfl,rfl,i,n⟩:=trodAll_cons l;obtain ⟨v2,x,d2,s,c,B,rfl,rfl,rfl,j,o⟩:=trodAll_cons n;obtain ⟨e,y,d3,t,d,C,rfl,rfl,rfl,k,p⟩:=trodAll_cons o;obtain ⟨rfl,rfl,rfl⟩:=trodAll_nil p;exact ⟨v0,v1,v2,e,d0,d1,d2,d3,a,b,c,d,by cases args;simp_all,rfl,by simp,g,i,j,k⟩
theorem LL (os:Os) (started:os.Started) (H:Type) (enc:TypeId×a4->H) :
  ReturnsInHanded {} Tryz.checked os 6 .any (Rows.recoveryFencesSpec.pre6 enc prog f6 Rows.recoveryFencesRow.domain false) (Rows.recoveryFencesSpec.post enc prog f6 false true false false):=by
 refine returnsInHanded_of_change (C:=Tryz.checked) OS started (by kernel_rfl) Tryz.func6
  (ChangeSpec.witness6 (enc:=enc) (C:=Tryz.checked) false ⟨#[],#[.int .i64 0,.int .i64 0,.int .i64 0,.slice none 0 0],[]⟩ 8 (by kernel_rfl) (by kernel_rfl) (by kernel_rfl) (by kernel_rfl)) ?_
 intro W base args ds gs before b eT g _;have a:∀ (j:Nat) t v,f6.params[j]?=some t->args[j]?=some v->Value.okWide prog W .any base t v:=b;have d:=eT;obtain ⟨p,q,c,n,rfl,o,s⟩:=eT;have f:DataW.TrodAll enc prog W 0 (λ_=>true) true f6.params.toList args.toList ds p:=c;rw [Tryz.params6] at f a;obtain ⟨v0,v1,v2,y,d0,d1,d2,d3,I,J,K,L,rfl,rfl,rfl,h,i,k,l⟩:=Jr f;obtain ⟨rfl,rfl⟩:=trodVars_none n;obtain ⟨B,rfl,_,_,w0⟩:=open_int Tryz.underlying3 (a 0 _ v0 rfl rfl) h;obtain ⟨D,rfl,_,_,w1⟩:=open_int Tryz.underlying3 (a 1 _ v1 rfl rfl) i;obtain ⟨E,rfl,_,_,z⟩:=open_int Tryz.underlying3 (a 2 _ v2 rfl rfl) k;obtain ⟨F,G,ix,rfl,w,A⟩:=J_ Tryz.underlying22 Tryz.underlying3 (by kernel_rfl) (a 3 _ y rfl rfl) l;refine (UP W (vr w0) (vr w1) (vr z) w A).mono λe W' ⟨x,he,u,r⟩=>?_
 subst he u;refine ⟨_,rfl,LK d r (by rw [Tryz.params6];decide +kernel) rfl rfl (tb:=4) (by kernel_rfl) Tryz.underlying4⟩
theorem T9:Rows.recoveryFencesRow.wf (OpenSpec.ofChange Rows.recoveryFencesSpec)=true:=by kernel_rfl
theorem T_:mapsRowed prog=true:=by kernel_rfl
theorem T':f6.params.all (prog.readableRec ·)=true:=by kernel_rfl
theorem Ua:namedTie prog Rows.recoveryFencesRow.named Rows.recoveryFencesSpec.vars=true:=by kernel_rfl
theorem Ub:(Rows.recoveryFencesRow.inPlace == prog.inPlace 6)=true:=by kernel_rfl
theorem Uc:(Rows.recoveryFencesRow.unfollowed == prog.unfollowed 6)=true:=by kernel_rfl
theorem Ud:(Rows.recoveryFencesRow.recurses == prog.recurses 6)=true:=by kernel_rfl
theorem Ue:(Rows.recoveryFencesRow.named == prog.varsNamed 6)=true:=by kernel_rfl
theorem LM:joinedFacts prog 6 f6 Rows.recoveryFencesSpec Rows.recoveryFencesRow=true:=by unfold joinedFacts;rw [T9,laid,T_,T',Ua,Ub,Uc,Ud,Ue];kernel_rfl
theorem Oj:Rows.recoveryFencesRow.holds Tryz.pinned (OpenSpec.ofChange Rows.recoveryFencesSpec):=
 OpenClaim.holds_of_wide 6 f6 rfl rfl rfl rfl rfl rfl rfl ⟨rfl,rfl,rfl,rfl,rfl⟩ rfl rfl rfl rfl rfl (by kernel_rfl) Tryz.func6 LM
  (of_decide_eq_true (by kernel_rfl)) (by unfold Func.isWrapper;first | (rw [if_pos (by decide +kernel)];kernel_rfl) | (rw [if_neg (by decide +kernel)];exact ⟨rfl,rfl⟩))
  (λos started H enc _=>LL os started H enc)
theorem recoveryFences_holds:Rows.RecoveryFencesSaid:=Oj
#print axioms recoveryFences_holds
end
end Go.Proofs.YtmkljjbioomepaaGreat
