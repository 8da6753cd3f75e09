import Derived.Test.YtmkljjbioomepaaGreata31
set_option linter.all false
set_option maxHeartbeats 4000000
set_option maxRecDepth 100000
namespace Go.Proofs.YtmkljjbioomepaaGreat
open Go.Proofs.Tryz Go.b8
variable {G:List (List a_)} {bj:List bR} {R:dW} {V:kv} {j:c8} {l:List a6} {la pa:ax} {lc n pc a2 tb:Nat} {m:bp} {q:c0} {r:fT} {seq:Int} {u w0:av} {vs:List bn}
section
noncomputable abbrev o':Func:=f247
def RF (j:c8) (seq:Int) (W:List a6) (bV:bp):List bn:=[u3 j bV (iR j.dead) [0],u3 j bV (iR j.dead+8) (je seq W),u3 j bV (iR j.dead) [j7 seq]]
theorem xT {y jo:av} {b:Nat} {x:Int} (ak:b=y.heap.size) (hw:jo=y.alloc (.cells #[.int .u64 x] 30)):ai y jo/\bW jo (some ⟨b,0,none⟩) (us [x]):=by obtain ⟨aE,aj⟩:=b4 (zs:=(us [x]).toArray) ak hw;exact ⟨aj,jk aE rfl⟩
theorem aiL {z:av} {o:Int×Int} (ab:fy w0 z a2 tb r m j V o) {b1 nG:Nat} {bV:bp} (bm:aF z b1 q.cells ho) (kI:aF z nG bV.cells hN) (tp:gF bV.dJ) {W:List a6} (dH:jd z q.hO q.gO W) (uX:jD q.Seq W 256=0) (rj:∀ x ∈ je q.Seq W,dp x) (UX:dp (j7 q.Seq)) (dN:ai u z)
  (d':cy u z pa n pc vs) (m6:n<=1000) (Ns:ax) (PX Nz:Nat) (qO qP:Int) (aT:aH) {QX:Exit->aH->aV}
  (J:∀ cZ ap bU aT,cy u cZ ap (n+3) bU (vs++RF j q.Seq W bV)->ai u cZ->QX .normal (uu ⟨a2,0,none⟩ ⟨b1,0,none⟩ (j7 q.Seq) ap (n+3) bU Ns PX Nz qO qP aT) cZ) :
  Go.b8.W prog (sub (b6 o') [1,1,1,0,1,0,0,1,1,0,0,1,1]) (SI ⟨a2,0,none⟩ ⟨b1,0,none⟩ (j7 q.Seq) pa n pc ⟨nG,0,none⟩ Ns PX Nz qO qP aT) (cw prog o' R QX) z:=by
 rw [avi];have hz:=ab.du.dead;have aC:=ab.cH.dead;obtain ⟨_,aX,au,_⟩:=pM uX;refine ⟨r.iq,ab.an.cell (i:=5) rfl,?_⟩;rw [aC];refine aR (Ry z hz) ?_;rintro v e' ⟨rfl,rfl⟩;refine ⟨_,rfl,?_⟩;rintro dq cG;have a5:ai e' dq:=by rw [cG];exact eh _
 clear cG;have gw:∀ k,a7 pa k->k<e'.heap.size:=λk J=>by obtain ⟨dD,aq,_⟩:=d'.ex;exact aq.lt J
 have jc:=a5.size;have G7:=dN.size;have iV:∀ {y:av},ai dq y->aF y nG bV.cells hN/\aF y b1 q.cells ho/\o7 r tb m j a2 y:=λ{y} aj=>⟨ai.an (a5.new aj) kI,ai.an (a5.new aj) bm,_,_,(ab.ck (a5.new aj)).an⟩
 have wr:∀ {y:av} {K:Ending->aV} {a:ax} {l c:Nat} {ws:bR} (at_:Int),ai dq y->bW y a (us ws)->l=ws.length->l<=c->(∀ x ∈ ws,dp x)->ws.length<=1000->ws≠[]->(∀ (bX:a0) jo,ai y jo->ei (λk=>k<y.heap.size) jo bX (u3 j bV at_ ws)->K (.returned bX.val) jo)->Calls prog 250 #[ptr a2,bV.val,.int .i64 at_,.slice a l c] y K:=by
  intro y K a l c ws at_ aj aA au OP hu hw cj f'
  refine aR (Qy (ab.ck (a5.new aj)) tp at_ aA au OP (λe=>?_) hu (by omega)) ?_
  ·rcases aA with aN | ⟨fD,P9,aN,_⟩
   ·have:=congrArg List.length aN;rw [m9,CZ] at this;exact jR this
   ·rw [e] at aN;cases aN
  ·rintro v jo ⟨bX,rfl,d_,ly⟩;exact f' bX jo ly d_
 have H4:∀ {y:av} {K:Ending->aV} {b:Nat} {x:Int},ai dq y->bW y (some ⟨b,0,none⟩) (us [x])->dp x->(∀ (bX:a0) jo,ai y jo->ei (λk=>k<y.heap.size) jo bX (u3 j bV (iR j.dead) [x])->K (.returned bX.val) jo)->Calls prog 250 #[ptr a2,bV.val,.int .i64 (iR j.dead),.slice (some ⟨b,0,none⟩) 1 1] y K:=λaj aA hu f'=>wr _ aj aA rfl (eJ 1) (λy az=>by simp at az;rw [az];exact hu) (by simp) (by simp) f'
 have hF:∀ {y:av} {K:Ending->aV},ai dq y->(∀ (a:ax) (c:Nat) jo,ai y jo->bW jo a (us (je q.Seq W))->3+9 * W.length<=c->K (.returned (.slice a (3+9 * W.length) c)) jo)->Calls prog 210 #[q.val] y K:=by intro y K aj f';refine aR (Rk (dH.new (a5.new aj)) uX ⟨aX.1,aX.2.1⟩ aX.2.2.2 au) ?_;rintro v jo ⟨a,c,rfl,ly,aq,_⟩;exact f' a c jo ly aq.rd (bu.le aq)
 have lb:∀ {y:av} {K:Ending->aV},K (.returned (.int .i64 (iR j.dead+8))) y->Calls prog 209 #[.int .i64 j.dead] y K:=by intro y K f';refine aR (Y4 y hz) ?_;rintro v jo ⟨rfl,rfl⟩;exact f'
 have qj:=Cm q.Seq W;have bne:je q.Seq W≠[]:=λe=>by rw [e] at qj;simp at qj <;> omega
 have fin:∀ {A0 y8 QS QT QU L5:av} {v1 v2 fv:a0},ai dq A0->ai A0 y8->ei (λk=>k<A0.heap.size) y8 v1 (u3 j bV (iR j.dead) [0])->ai y8 QS->ai QS QT->ei (λk=>k<QS.heap.size) QT v2 (u3 j bV (iR j.dead+8) (je q.Seq W))->ai QT QU->ai QU L5->ei (λk=>k<QU.heap.size) L5 fv (u3 j bV (iR j.dead) [j7 q.Seq])->∀ (bG:Nat->ax->Nat->Nat->aH) (b:Nat) (y:av),b=L5.heap.size->y=L5.alloc (.cells #[.int .i64 v1.Kind,.int .i64 v1.Node,.int .i64 v1.cY,.int .i64 v1.N,.int .u64 v1.Old,.int .u64 v1.ai,.slice v1.Words v1.ey v1.eg,.int .u64 v1.Key,.int .i64 v1.dJ,.int .i64 v2.Kind,.int .i64 v2.Node,.int .i64 v2.cY,.int .i64 v2.N,.int .u64 v2.Old,.int .u64 v2.ai,.slice v2.Words v2.ey v2.eg,.int .u64 v2.Key,.int .i64 v2.dJ,.int .i64 fv.Kind,.int .i64 fv.Node,.int .i64 fv.cY,.int .i64 fv.N,.int .u64 fv.Old,.int .u64 fv.ai,.slice fv.Words fv.ey fv.eg,.int .u64 fv.Key,.int .i64 fv.dJ] d8)->
   (aF y nG bV.cells hN/\aF y b1 q.cells ho/\o7 r tb m j a2 y)/\∃ (ap:ax) (fi ac:Nat),∃ jo,(Builtin.append_ #[k7,k7] k7 #[(.slice pa n pc),(.slice (some ⟨b,0,none⟩) 3 3)]).run prog y=.ok (.slice ap fi ac) jo/\(aF jo nG bV.cells hN/\aF jo b1 q.cells ho/\o7 r tb m j a2 jo)/\QX .normal (uu ⟨a2,0,none⟩ ⟨b1,0,none⟩ (j7 q.Seq) ap fi ac Ns PX Nz qO qP (bG b ap fi ac)) jo:=by
  intro A0 y8 QS QT QU L5 v1 v2 fv na jN af nc nd al ne aey aL bG b y ak az;obtain ⟨aE,aj⟩:=b4 ak az;have aE:aF y b (v1.cells++v2.cells++fv.cells) d8:=aE;have s1:=na.size;have s2:=jN.size;have dm:=nc.size;have dS:=nd.size;have eV:=ne.size;have aZ:=cy.three jN af (nc.new nd) (al.mono λk J=>by omega) (ne.new aey) (aL.mono λk J=>by omega) ak aE aj;have P4:ai dq y:=((((na.new jN).new nc).new nd).new ne).new (aey.new aj);refine ⟨iV P4,?_⟩;have aw:=d'.new (a5.new P4);obtain ⟨dD,cV,_⟩:=aw.ex;have off:∀ {b:Nat} {cs:aH} {T:TypeId},T≠d8->aF y b cs T->¬ a7 pa b:=λbq ak J=>by obtain ⟨mY,dG⟩:=jX cV J;exact dG.ne ak (λe=>bq e.symm) rfl
  obtain ⟨bs,bI,iK,gk,dd⟩:=iV P4;refine cy.I7 aw (dN.new (a5.new P4)) aZ (λk J=>by have:=gw k J;omega) (by omega) (by omega) λap bU jo h4 fK gJ=>⟨⟨fK.an bs (off (by decide) bs),fK.an bI (off (by decide) bI),iK,gk,fK.an dd (off (by decide) dd)⟩,J jo ap bU _ h4 gJ⟩
 have rest:∀ {A0 y8:av} {v1:a0} {Dz:Nat} {bG:a0->a0->Nat->ax->Nat->Nat->ax->Nat->Nat->aH},ai dq A0->ai A0 y8->ei (λk=>k<A0.heap.size) y8 v1 (u3 j bV (iR j.dead) [0])->bW y8 (some ⟨Dz,0,none⟩) (us [j7 q.Seq])->Calls prog 210 #[q.val] y8 λe dh=>∃ (b:ax) (qj iZ:Nat),e=.returned (.slice b qj iZ)/\(λy=>aF y nG bV.cells hN/\aF y b1 q.cells ho/\o7 r tb m j a2 y) dh/\Calls prog 250 #[ptr a2,bV.val,.int .i64 (iR j.dead+8),.slice b qj iZ] dh λe cR=>a0.ex λe_=>e=.returned e_.val/\(λy=>aF y nG bV.cells hN/\aF y b1 q.cells ho/\o7 r tb m j a2 y) cR/\Calls prog 250 #[ptr a2,bV.val,.int .i64 (iR j.dead),.slice (some ⟨Dz,0,none⟩) 1 1] cR λe hD=>a0.ex λe7=>e=.returned e7.val/\(λy=>aF y nG bV.cells hN/\aF y b1 q.cells ho/\o7 r tb m j a2 y) hD/\∀ bT hZ,bT=hD.heap.size->hZ=hD.alloc (.cells #[.int .i64 v1.Kind,.int .i64 v1.Node,.int .i64 v1.cY,.int .i64 v1.N,.int .u64 v1.Old,.int .u64 v1.ai,.slice v1.Words v1.ey v1.eg,.int .u64 v1.Key,.int .i64 v1.dJ,.int .i64 e_.Kind,.int .i64 e_.Node,.int .i64 e_.cY,.int .i64 e_.N,.int .u64 e_.Old,.int .u64 e_.ai,.slice e_.Words e_.ey e_.eg,.int .u64 e_.Key,.int .i64 e_.dJ,.int .i64 e7.Kind,.int .i64 e7.Node,.int .i64 e7.cY,.int .i64 e7.N,.int .u64 e7.Old,.int .u64 e7.ai,.slice e7.Words e7.ey e7.eg,.int .u64 e7.Key,.int .i64 e7.dJ] d8)->(λy=>aF y nG bV.cells hN/\aF y b1 q.cells ho/\o7 r tb m j a2 y) hZ/\∃ (ap:ax) (fi ac:Nat),∃ kq,(Builtin.append_ #[k7,k7] k7 #[(.slice pa n pc),(.slice (some ⟨bT,0,none⟩) 3 3)]).run prog hZ=.ok (.slice ap fi ac) kq/\(λy=>aF y nG bV.cells hN/\aF y b1 q.cells ho/\o7 r tb m j a2 y) kq/\QX .normal (uu ⟨a2,0,none⟩ ⟨b1,0,none⟩ (j7 q.Seq) ap fi ac Ns PX Nz qO qP (bG e_ e7 bT ap fi ac b qj iZ)) kq
  :=by
  intro A0 y8 v1 Dz bG na jN af ax6;refine hF (na.new jN) λa c ub g5 wO lc=>⟨_,_,_,rfl,iV ((na.new jN).new g5),?_⟩
  refine wr (iR j.dead+8) ((na.new jN).new g5) wO qj.symm lc rj (by omega) bne λv2 QQ oo al=>a0.bd v2 ⟨rfl,iV (((na.new jN).new g5).new oo),?_⟩
  refine H4 (((na.new jN).new g5).new oo) (ax6.new (g5.new oo)) UX λfv QR wv aL=>a0.bd fv ⟨rfl,iV ((((na.new jN).new g5).new oo).new wv),?_⟩
  exact fin na jN af g5 oo al (ay.refl _ _) wv aL _
 refine ⟨λy=>aF y nG bV.cells hN/\aF y b1 q.cells ho/\o7 r tb m j a2 y,iV (ay.refl _ _),bp.bd bV ⟨λy az=>cD az.1 rfl,bp.bd bV ⟨λy az=>cD az.1 rfl,r.iq,λy az=>by obtain ⟨_,_,iK,gk,az⟩:=az;exact az.cell (i:=5) rfl,c0.bd q ⟨λy az=>cD az.2.1 rfl,bp.bd bV ⟨λy az=>cD az.1 rfl,?_⟩⟩⟩⟩⟩;rw [aC];refine ⟨λaC8 qQ ak hw=>?_,λfJ QR ak hw=>?_⟩
 ·obtain ⟨eK,r1⟩:=xT ak hw;clear ak hw;refine ⟨iV eK,H4 eK r1 mw λv1 AZ fj af=>a0.bd v1 ⟨rfl,iV (eK.new fj),?_,?_⟩,λb AZ ak hw=>?_⟩
  ·refine lb ⟨_,rfl,iV (eK.new fj),?_,?_⟩
   ·refine hF (eK.new fj) λa c n4 fL wO lc=>⟨_,_,_,rfl,iV ((eK.new fj).new fL),?_,?_⟩
    ·refine wr (iR j.dead+8) ((eK.new fj).new fL) wO qj.symm lc rj (by omega) bne λv2 ub g5 al=>a0.bd v2 ⟨rfl,iV (((eK.new fj).new fL).new g5),λb QQ ak hw=>?_⟩
     obtain ⟨oo,Ax⟩:=xT ak hw;clear ak hw;refine ⟨iV ((((eK.new fj).new fL).new g5).new oo),H4 ((((eK.new fj).new fL).new g5).new oo) Ax UX λfv QR wv aL=>a0.bd fv ⟨rfl,iV (((((eK.new fj).new fL).new g5).new oo).new wv),?_⟩⟩;exact fin eK fj af fL g5 al oo wv aL (λb ap fi ac=>_)
    ·intro b ub ak hw;obtain ⟨g5,sJ⟩:=xT ak hw;clear ak hw;refine ⟨iV (((eK.new fj).new fL).new g5),wr (iR j.dead+8) (((eK.new fj).new fL).new g5) (wO.new g5) qj.symm lc rj (by omega) bne λv2 QQ oo al=>a0.bd v2 ⟨rfl,iV ((((eK.new fj).new fL).new g5).new oo),?_⟩⟩;refine H4 ((((eK.new fj).new fL).new g5).new oo) (sJ.new oo) UX λfv QR wv aL=>a0.bd fv ⟨rfl,iV (((((eK.new fj).new fL).new g5).new oo).new wv),?_⟩
     exact fin eK fj af (fL.new g5) oo al (ay.refl _ _) wv aL (λb ap fi ac=>_)
   ·intro b n4 ak hw;obtain ⟨fL,nZ⟩:=xT ak hw;clear ak hw;exact ⟨iV ((eK.new fj).new fL),rest eK (fj.new fL) (af.aO (ay.db fL) λ_ _ e=>e) nZ⟩
  ·intro b n4 ak hw;obtain ⟨fL,nZ⟩:=xT ak hw;clear ak hw;exact ⟨iV ((eK.new fj).new fL),lb ⟨_,rfl,iV ((eK.new fj).new fL),rest eK (fj.new fL) (af.aO (ay.db fL) λ_ _ e=>e) nZ⟩⟩
  ·obtain ⟨fj,ko⟩:=xT ak hw;clear ak hw;refine ⟨iV (eK.new fj),H4 (eK.new fj) (r1.new fj) mw λv1 n4 fL af=>a0.bd v1 ⟨rfl,iV ((eK.new fj).new fL),lb ⟨_,rfl,iV ((eK.new fj).new fL),?_⟩⟩⟩;exact rest (eK.new fj) fL af (ko.new fL)
 ·obtain ⟨eK,r1⟩:=xT ak hw;clear ak hw;refine ⟨iV eK,λb AZ ak hw=>?_⟩;obtain ⟨fj,ko⟩:=xT ak hw;clear ak hw;refine ⟨iV (eK.new fj),H4 (eK.new fj) ko mw λv1 n4 fL af=>a0.bd v1 ⟨rfl,iV ((eK.new fj).new fL),lb ⟨_,rfl,iV ((eK.new fj).new fL),?_⟩⟩⟩;exact rest (eK.new fj) fL af ((r1.new fj).new fL)
end
section
def Fv (j:c8) (seq:Int) (W:List a6) (L:bR):Bool:=kK L j.lines && M_ (seq,W) (jf L j.lines)
def Ql (j:c8) (seq:Int) (W:List a6) (bj:List bR) (i:Nat):List bn:=if Fv j seq W (bj.getD i [])=true then [] else RF j seq W (j.v.mem.getD i qD)
def yX (j:c8) (seq:Int) (W:List a6) (bj:List bR) (n:Nat):List bn:=((List.range n).map (Ql j seq W bj)).flatten
def ms (j:c8) (seq:Int) (W:List a6) (bj:List bR) (G:List (List a_)):dM:=cE G (yX j seq W bj j.v.mem.length)
theorem XH (j:c8) (seq:Int) (W:List a6) (bj:List bR) (n:Nat):yX j seq W bj (n+1)=yX j seq W bj n++Ql j seq W bj n:=by unfold yX;rw [rK];simp
theorem Mz {w w':av} {a:ax} {W:List a6} (h:jd w a n W) {M:bB} (J:ay M w w') (c1:∀ k,a7 a k->¬ M k):jd w' a n W:=⟨h.rd.aO J (mK h.rd c1),h.len,h.hH,h.u64⟩
abbrev afJ (R:dW) (N:aH->aV) (Q:Exit->aH->aV):Exit->aH->aV:=a8 1 (bk (λenv w=>Go.b8.W prog (sub (b6 o') [1,1,1,0,1,0,0,1,1,1]) env (cw prog o' R (bk N Q)) w) (cw prog o' R (bk N Q)))
abbrev afI (R:dW) (N:aH->aV) (Q:Exit->aH->aV):Exit->aH->aV:=cw prog o' R (bk (λenv w=>Go.b8.W prog (sub (b6 o') [1,1,1,0,1,0,0,1,1,0,0,1,1]) env (afJ R N Q) w) (afJ R N Q))
theorem akp {A:bB} {T:kb} (ab:fy w0 u a2 tb r m j V (0,0)) (bq:h2 A w0 u tb T G) (c7:kl T) (au:s4 w0 u a2 tb V bj) (DR:bj.length=j.v.mem.length) {W:List a6} (dH:jd u q.hO q.gO W) (uX:jD q.Seq W 256=0) (rj:∀ x ∈ je q.Seq W,dp x) :
  bK 247 [ptr a2,q.val] u (tR A w0 u a2 tb r m j V (ms j q.Seq W bj G)):=by
 refine bO Tryz.func247 ?_;rw [ptr,avY];generalize ap_:tR A w0 u a2 tb r m j V (ms j q.Seq W bj G)=l9;obtain ⟨⟨ep,wg,pV,UT,yv⟩,pU⟩:=au;have tv:=ab.an.lt;have yD:=bq.an.lt;have sh:=ab.du.mem;have D':=ab.cH.lines;obtain ⟨_,pr,_⟩:=pM uX;obtain ⟨zw,kX⟩:=ab.cH.view;have hlen:=kX.len;rintro b1 w1 bA br;obtain ⟨bm,a1⟩:=b4 bA br;have bm:aF w1 b1 q.cells ho:=bm;clear br;have fI:=a1.size;have eC:=ab.ck a1;refine ⟨_,bm.cell (i:=0) rfl,?_⟩;refine aR (RZ w1 ⟨pr.1,pr.2.1⟩) ?_;rintro v aS ⟨rfl,rfl⟩;refine ⟨_,_,rfl,_,_,_,eC.an.cell (i:=4) rfl,?_⟩;refine e2 mix (λk env z=>∃ (i n:Nat) (pa:ax) (pc:Nat) (aT:aH),k=j.v.mem.length - i/\i<=j.v.mem.length/\n<=3 * i/\env=Jb ⟨a2,0,none⟩ ⟨b1,0,none⟩ (j7 q.Seq) pa n pc r.View.h1 r.View.h6 r.View.iJ r.View.h6 i aT/\ai aS z/\cy aS z pa n pc (yX j q.Seq W bj i)) j.v.mem.length
  ⟨0,0,none,0,_,by omega,by omega,by omega,rfl,ay.refl _ _,cy.nil _ _⟩ ?_
 rintro k env z ⟨i,n,pa,pc,aT,rfl,aD,Ky,rfl,da,d'⟩;have hP:=eC.ck da;have og:=hP.new;refine mb (fn:=o') (R:=l9) (λ_ _=>rfl) ?_;rw [aum,hlen];refine bL (λaK=>?_) (λhQ=>?_)
 ·obtain ⟨bV,hm⟩:∃ bV,j.v.mem[i]?=some bV:=⟨_,cp (by omega)⟩;obtain ⟨s,aX⟩:∃ s,ep[i]?=some s:=⟨_,cp (by omega)⟩;obtain ⟨L,bE⟩:∃ L,bj[i]?=some L:=⟨_,cp (by omega)⟩;have oM:=yv i s L aX bE;have tp:=ab.du.hd bV (dn hm);have Jr:bj.getD i []=L:=by rw [gd,bE];rfl
  have em:j.v.mem.getD i qD=bV:=by rw [gd,hm];rfl
  refine hq (cells:=bp.cells) bp.len (by omega) (kX.rd.new og) hm rfl rfl λb gk gD _=>bp.bd bV ⟨gD,?_⟩
  refine g0 (vs:=bV.cells) rfl (bp.single _) λbT e' ej cx bf=>?_
  obtain ⟨bF,f_⟩:∃ bF:aH->aV,∀ env w,bF env w=(∃ cW,cW<j.v.mem.length - i/\∃ (kJ n:Nat) (pa:ax) (pc:Nat) (aT:aH),cW=j.v.mem.length - kJ/\kJ<=j.v.mem.length/\n<=3 * kJ/\env=Jb ⟨a2,0,none⟩ ⟨b1,0,none⟩ (j7 q.Seq) pa n pc r.View.h1 r.View.h6 r.View.iJ r.View.h6 kJ aT/\ai aS w/\cy aS w pa n pc (yX j q.Seq W bj kJ)):=⟨_,λ_ _=>rfl⟩;have Lj:∀ {cZ:av} {p1:ax} {n' wK:Nat} (aT:aH),n'<=3 * (i+1)->ai aS cZ->cy aS cZ p1 n' wK (yX j q.Seq W bj (i+1))->∀ {N:aH->aV} {pF:Exit->aH->aV},(∀ env w,bF env w->N env w)->
    Go.b8.W prog (sub (b6 o') [1,1,1,0,1,0,0,1,1,1]) (uu ⟨a2,0,none⟩ ⟨b1,0,none⟩ (j7 q.Seq) p1 n' wK r.View.h1 j.v.mem.length r.View.iJ (j.v.mem.length:Nat) i aT) (cw prog o' l9 (bk N pF)) cZ:=by
   intro cZ p1 n' wK aT ly asm atE N pF kE;rw [lm,cn (x:=(i:Int)+1) (by omega) (by omega)];exact ia (kE _ _ ((f_ _ _).mpr ⟨j.v.mem.length - (i+1),by omega,i+1,n',p1,wK,_,rfl,by omega,ly,by rw [hlen];rfl,asm,atE⟩))
  rw [aun];refine mb (fn:=o') (R:=l9) (λ_ _=>rfl) ?_;rw [avc];rintro dq cG;have a5:ai e' dq:=by rw [cG];exact eh _
  clear cG;have gI:=da.new (bf.new a5);have gC:=eC.ck gI;refine ⟨λy=>ai dq y,ay.refl _ _,_,_,_,λy az=>(ai.an az gC.an).cell (i:=13) rfl,?_⟩;refine pw (cells:=wG) (sz:=1) (λ_=>rfl) (by decide) (wg.new (a1.new gI)) aX rfl pV λb' gk dG=>⟨s.a,s.n,s.c,λy az=>by simpa using dG y az 0 _ rfl,r.mB,λy az=>(ai.an az gC.an).cell (i:=2) rfl,?_⟩
  rw [D'];have adp:yX j q.Seq W bj (i+1)=yX j q.Seq W bj i++(if Fv j q.Seq W L=true then [] else RF j q.Seq W bV):=by rw [XH];unfold Ql;rw [Jr,em]
  have f4:∀ {y:av} (t:Bool),t=Fv j q.Seq W L->ai dq y->∀ (aT:aH) {N:aH->aV} {pF:Exit->aH->aV},(∀ env w,bF env w->N env w)->(∀ env w,pF .ret env w=ga prog o' l9 .ret env w)->
    Go.b8.W prog (sub (b6 o') [1,1,1,0,1,0,0,1,1,0,0,1,0,1,1]) (NK ⟨a2,0,none⟩ ⟨b1,0,none⟩ (j7 q.Seq) pa n pc ⟨bT,0,none⟩ r.View.h1 j.v.mem.length r.View.iJ (j.v.mem.length:Nat) i t aT) (afI l9 N pF) y:=by
   intro y t aZ kG aT N pF kE S_;rw [ave];have Kz:=gI.new kG;refine kk (λak=>?_) (λak=>?_)
   ·refine CP (Cq (ia (Lj _ (by omega) (da.new ((bf.new a5).new kG)) ?_ kE)));rw [adp,if_pos (by rw [<-aZ,ak]),qd];exact d'.new ((bf.new a5).new kG)
   ·refine ia (mb (fn:=o') (R:=l9) (λ_ _=>rfl) ?_);have B2:=(bf.new a5).new kG;refine aiL (hP.ck B2) (ai.an (da.new B2) bm) (ai.an (a5.new kG) cx) (by unfold gF;omega) ((dH.new a1).new (da.new B2)) uX rj (Rx _) (da.new B2) (d'.new B2) (by omega) _ _ _ _ _ _ λcZ ap bU nU d_ ly=>?_
    refine Cp (ia (Lj _ (by omega) ly ?_ kE));rw [adp,if_neg (by rw [<-aZ,ak];simp)];exact d_
  have f3:∀ {y:av} {ec:Nat} {pb:ax} {bo:Nat},aF y ec (c0.cells ⟨(jf L j.lines).1,pb,(jf L j.lines).2.length,bo⟩) ho->ai dq y->jd y pb (jf L j.lines).2.length (jf L j.lines).2->∀ (aT:aH) {N:aH->aV} {pF:Exit->aH->aV},(∀ env w,bF env w->N env w)->(∀ env w,pF .ret env w=ga prog o' l9 .ret env w)->
    Go.b8.W prog (sub (b6 o') [1,1,1,0,1,0,0,1,1,0,0,1,0,1]) (NJ ⟨a2,0,none⟩ ⟨b1,0,none⟩ (j7 q.Seq) pa n pc ⟨bT,0,none⟩ ⟨ec,0,none⟩ (kK L j.lines) r.View.h1 j.v.mem.length r.View.iJ (j.v.mem.length:Nat) i aT) (afI l9 N pF) y:=by
   intro y ec pb bo dk kG asM aT N pF kE S_;rw [auo];refine mb (fn:=o') (R:=l9) (λ_ _=>rfl) ?_;rw [li];have B2:=da.new ((bf.new a5).new kG);refine kk (λak=>?_) (λak=>?_)
   ·refine c0.bd q ⟨cD (ai.an B2 bm) rfl,c0.bd _ ⟨cD dk rfl,?_⟩⟩;refine aR (anN ((dH.new a1).new B2) asM) ?_;rintro v AZ ⟨rfl,bH⟩;refine ⟨_,rfl,ia (f4 _ ?_ (kG.new bH) _ kE S_)⟩;unfold Fv;rw [ak];rfl
   ·refine ia (f4 _ ?_ kG _ kE S_);unfold Fv;rw [ak];rfl
  refine ⟨?_,?_⟩
  ·refine aR (VZ j.lines (oM.new gC.new)) ?_;rintro v hh ⟨pb,bo,rfl,bz,UE,ac3⟩;refine c0.bd ⟨(jf L j.lines).1,pb,(jf L j.lines).2.length,bo⟩ ⟨_,rfl,bz,?_⟩;rintro ec gK iO eO;obtain ⟨dL,bH⟩:=b4 iO eO;have dL:aF gK ec o1.cells ho:=dL;clear eO;refine ⟨bz.new bH,gL (vs:=c0.cells ⟨(jf L j.lines).1,pb,(jf L j.lines).2.length,bo⟩) dL rfl (c0.single _) λjq e4 eu=>?_⟩;have pq:=bz.size;exact f3 e4 ((bz.new bH).trans eu λk aK e=>by omega) (UE.new (bH.trans eu λk aK e=>by omega)) _ (λenv w h=>by rw [f_,hlen] at h;exact h) λ_ _=>rfl
  ·rintro ec gK iO eO;obtain ⟨dL,bH⟩:=b4 iO eO;have dL:aF gK ec o1.cells ho:=dL;clear eO;refine ⟨bH,aR (VZ j.lines (oM.new (gC.ck bH).new)) ?_⟩;rintro v hh ⟨pb,bo,rfl,bz,UE,ac3⟩;have nQ:=bH.size;have ih:=dL.lt;refine c0.bd ⟨(jf L j.lines).1,pb,(jf L j.lines).2.length,bo⟩ ⟨_,rfl,bH.new bz,gL (vs:=c0.cells ⟨(jf L j.lines).1,pb,(jf L j.lines).2.length,bo⟩) (ai.an bz dL) rfl (c0.single _) λjq e4 eu=>?_⟩;exact f3 e4 ((bH.new bz).trans eu λk aK e=>by omega) (Mz UE eu λk J e=>by have:=ac3 k J;omega) _ (λenv w h=>by rw [f_,hlen] at h;exact h) λ_ _=>rfl
 ·have g2:i=j.v.mem.length:=by omega
  subst g2;refine CP (Cq (ia ?_));refine mb (fn:=o') (R:=l9) (λ_ _=>rfl) ?_;rw [avd];refine aR (yN hP (bq.new (a1.new da)) c7 eC.new (by omega) (by omega) d' (by rw [<-d'.len];omega)) ?_;rintro v ff ⟨f8,dc,raw,rfl,iw,_⟩;rw [<-ap_];exact ⟨_,_,_,_,rfl,rfl,iw.of (a1.new da) fI⟩
end
section
noncomputable abbrev Gv:Func:=f227
def Lu (j:c8) (seq:Int) (bV:bp):bn:=u3 j bV (32+j.dead) [seq]
def xO (j:c8) (seq:Int) (l:List a6) (bV:bp):List bn:=l.map (yO j bV)++[Lu j seq bV]
def IA (j:c8) (seq:Int) (l:List a6):List bn:=(j.v.mem.tail.map (xO j seq l)).flatten
def M8 (j:c8) (m:bp) (seq:Int) (l:List a6):List bn:=Lu j seq m::l.map (yO j m)
def DL (j:c8) (m:bp) (seq:Int) (l:List a6) (B:dM):dM:=if B.ok=false then B else cE B.bD (M8 j m seq l)
def Bx (j:c8) (m:bp) (seq:Int) (W:List a6) (P:dM):dM:=
 if P.ok=false then P else if (k1 j W P.done P.done.length).length=0 then P else DL j m seq (k1 j W P.done P.done.length) (cE P.bD (IA j seq (k1 j W P.done P.done.length)))
def CH (j:c8) (m:bp) (seq:Int) (W:List a6) (bj:List bR) (G:List (List a_)):dM:=
 if (ms j seq W bj G).ok=false then ms j seq W bj G else Bx j m seq W (jv j m W (ms j seq W bj G).bD)
theorem ajM {W:List a6} {ds:List a_} (h:n<=W.length):∀ p ∈ k1 j W ds n,p ∈ W:=by
 intro p ar;unfold k1 at ar;obtain ⟨l,au,gw⟩:=A4.1 ar;obtain ⟨i,aD,rfl⟩:=eQ.1 au;have aD:=jT.1 aD;unfold CS at gw;split at gw
 ·simp at gw;subst gw;rw [cp (show i<W.length by omega)];exact qS _
 ·simp at gw
theorem anV (G:List (List a_)) (vs:List bn):(cE G vs).done.length<=vs.length:=by
 unfold cE dz;split
 ·simp
 split
 ·simp
 ·exact EK
theorem ajV {W:List a6}:(jv j m W G).done.length<=W.length:=by have:=anV G (W.map (C9 j m));rwa [jS] at this
structure De (l:List a6):Prop where
 wr:Gd l
 uB:∀ p ∈ l,∀ x ∈ mZ p,dp x
theorem De.sub {W l:List a6} (h:De W) (hm:∀ p ∈ l,p ∈ W) (au:l.length<=W.length):De l:=⟨⟨by have:=h.wr.hH;omega,λp ar=>h.wr.ok p (hm p ar)⟩,λp ar=>h.uB p (hm p ar)⟩
section
variable {A:bB} {w0 u:av} {a2 tb:Nat} {r:fT} {m:bp} {j:c8} {V:kv} {T:kb} {G:List (List a_)}
theorem ajW (ab:fy w0 u a2 tb r m j V (0,0)) (bq:h2 A w0 u tb T G) (c7:kl T) {w1:av} (br:ai w0 w1) (ats:tb<w1.heap.size) (as3:a2<w1.heap.size) (apI:ai w1 u) (d':cy w1 u pa n pc vs) (m6:vs.length<=1000) (dH:jd u la l.length l) (fH:∀ k,a7 la k->k≠tb/\k≠a2) (au:De l) (pr:dp seq) (aT:aH)
  (cC:∀ S v b_,S=DL j m seq l (cE G vs)->v=.bool S.ok->hM A w0 u a2 tb w1.heap.size r m j V S b_->R v b_) :
  Go.b8.W prog (sub (b6 Gv) [1,1,1,1,1,1,1,1]) (SJ ⟨a2,0,none⟩ la l.length lc (32+j.dead) seq pa n pc aT) (ga prog Gv R) u:=by
 rw [avj];have J3:=ab.hd;refine aR (yN ab bq c7 br ats as3 d' (by omega)) ?_;rintro v ct ⟨f8,dc,raw,rfl,ar,_⟩;have ar:hM A w0 u a2 tb w1.heap.size r m j V (cE G vs) ct:=ar;refine ⟨_,_,_,_,rfl,ht (λaJ=>?_) (λaZ=>?_)⟩
 ·have aJ:(cE G vs).ok=false:=aJ;exact cC (cE G vs) _ _ (if_pos aJ).symm (by rw [aJ]) ar
 have aZ:(cE G vs).ok=true:=aZ;obtain ⟨aq,J,kZ⟩:=Ap aZ;have gl:DL j m seq l (cE G vs)=cE (cE G vs).bD (M8 j m seq l):=if_neg (by rw [aZ];simp);have ju:=ar.hK;rw [aq] at ju;obtain ⟨aoN,oJ,G',zT⟩:=ar.j9;rw [J] at zT;rw [kZ] at G';have asI:jd ct la l.length l:=Mz dH ar.aO λk J e=>by have:=fH k J;exact e.elim this.1 this.2
 rintro z aE;have BX:ai ct z:=by rw [aE];exact eh _
 clear aE;have hP:=ju.ck BX;have abE:=oJ.new BX;have En:=asI.new BX;have cr:=BX.size;have BU:=ar.aO.size;have att:=abE.an.lt;have as5:=hP.an.lt;have G7:=apI.size;have iV:∀ {y:av},ai z y->o7 r tb m j a2 y:=λaj=>⟨_,_,(hP.ck aj).an⟩
 refine ⟨o7 r tb m j a2,iV (ay.refl _ _),bp.bd m ⟨λy az=>by obtain ⟨iK,gk,az⟩:=az;exact cD az rfl,bp.bd m ⟨λy az=>by obtain ⟨iK,gk,az⟩:=az;exact cD az rfl,?_⟩⟩⟩;rintro b1 aY bA dY;obtain ⟨eK,r1⟩:=xT bA dY;clear dY;refine ⟨iV eK,?_⟩;refine aR (Qy (hP.ck eK) J3 (32+j.dead) r1 rfl (eJ 1) (λe=>by cases e) (λx ao=>by simp at ao;rw [ao];exact pr) (show 1<=1000000 by decide)) ?_;rintro v bZ ⟨bX,rfl,d_,fj⟩;have Am:=eK.new fj;have fI:=eK.size;have d_:ei (λk=>k<aY.heap.size) bZ bX (Lu j seq m):=d_;have last:∀ {y:av} {ap:ax} {ac nn:Nat},ai z y->nn=1+l.length->cy z y ap nn ac (M8 j m seq l)->Calls prog 221 #[ptr a2,.slice ap nn ac] y λe e6=>∃ (s:ax) (sl sc:Nat) (b:Bool),e=.returned (.tuple #[.slice s sl sc,.bool b])/\o7 r tb m j a2 e6/\R (.bool b) e6:=by intro y ap ac nn kG rb Et;have ar5:=au.wr.hH;refine aR (yN (hP.ck kG) (abE.new kG) ⟨zT,G'⟩ hP.new att as5 Et (by rw [<-Et.len];omega)) ?_;rintro v iy ⟨f8,dc,raw,rfl,G5,_⟩;refine ⟨_,_,_,_,rfl,⟨_,_,G5.hK.an⟩,cC _ _ _ gl.symm rfl ?_⟩;exact hM.seq ar.aO (BX.new kG) G5 (by omega)
 have p2:∀ {y:av} {K:Ending->aV},ai z y->(∀ (a:ax) (c:Nat) jo,ai y jo->cy y jo a l.length c (l.map (yO j m))->K (.returned (.slice a l.length c)) jo)->Calls prog 249 #[ptr a2,m.val,.slice la l.length lc] y K:=by intro y K kG f';refine aR (XG (hP.ck kG) J3 (En.new kG) au.wr au.uB) ?_;rintro v jo ⟨a,c,rfl,ly,d_⟩;exact f' a c jo ly d_
 refine a0.bd bX ⟨rfl,iV Am,?_,?_⟩
 ·rintro aP cK cv eO;obtain ⟨pY,fL⟩:=cy.box Am (d_.mono λk J=>by omega) cv eO;have Ld:=Am.new fL;refine ⟨iV Ld,p2 Ld λa c dh g5 Er=>⟨_,_,_,rfl,iV (Ld.new g5),?_⟩⟩;refine cy.I7 (pY.new g5) (Ld.new g5) Er (λk J=>by obtain ⟨dD,aq,_⟩:=pY.ex;exact aq.lt J) Ld.size (by have:=au.wr.hH;omega) λap bU cR i' eD dg=>⟨iV dg,last dg rfl i'⟩
 ·refine p2 Am λa c hD fL wj=>⟨_,_,_,rfl,iV (Am.new fL),?_⟩
  rintro bT hZ ej yH;obtain ⟨wk,g5⟩:=cy.box (Am.new fL) ((d_.aO (ay.db fL) λ_ _ e=>e).mono λk J=>by omega) ej yH;have UQ:=Am.size;have fP:rP (λk=>k<z.heap.size\/a7 (some ⟨bT,0,none⟩) k) hZ a l.length (l.map (yO j m)):=(wj.np (M:=λk=>k<z.heap.size) λk _ e=>by omega).wide g5 λk aK e=>by
   rcases e with e | ⟨o,aq⟩
   ·exact e
   ·exfalso;have:bT=k/\0=o:=q3 aq;omega
  refine ⟨iV ((Am.new fL).new g5),cy.aaO wk ((Am.new fL).new g5) fP (by have:=au.wr.hH;omega) λap bU kq DN tn nN=>⟨iV nN,last nN rfl DN⟩⟩
theorem ajX (ab:fy w0 u a2 tb r m j V (0,0)) (bq:h2 A w0 u tb T G) (c7:kl T) {lP:ax} {iZ:Nat} (vU:bW u lP (kL j.v.mem.tail).flatten) (dH:jd u la l.length l) (fH:∀ k,a7 la k->k≠tb/\k≠a2) (au:De l) (pr:dp seq) (aT:aH)
  (cC:∀ S v b_,S=DL j m seq l (cE G (IA j seq l))->v=.bool S.ok->hM A w0 u a2 tb u.heap.size r m j V S b_->R v b_) :
  dT prog (.loop (sub (b6 Gv) [1,1,1,1,1,1,1,0,1,0,0])) (Jc ⟨a2,0,none⟩ la l.length lc (32+j.dead) seq none 0 0 lP (j.v.mem.length - 1) iZ ((j.v.mem.length - 1:Nat):Int) 0 aT)
   (a8 0 (bk (λenv w=>Go.b8.W prog (sub (b6 Gv) [1,1,1,1,1,1,1,1]) env (ga prog Gv R) w) (ga prog Gv R))) u:=by
 have sh:=ab.du.mem;have ar5:=au.wr.hH;have tv:=ab.an.lt;have yD:=bq.an.lt;have lY:j.v.mem.tail.length=j.v.mem.length - 1:=FD;have ar2:∀ i,((j.v.mem.tail.take i).map (xO j seq l)).flatten.length<=60+5:=by
  intro i;have af:=Rz (b:=l.length+1) ((j.v.mem.tail.take i).map (xO j seq l)) λx ao=>by obtain ⟨m,_,rfl⟩:=eQ.1 ao;unfold xO;simp
  rw [jS,o2] at af;have al:min i j.v.mem.tail.length * (l.length+1)<=5 * 13:=CW (by omega) (by omega);omega
 refine e2 mix (λq env z=>∃ (i n:Nat) (pa:ax) (pc:Nat) (aT:aH),q=j.v.mem.tail.length - i/\i<=j.v.mem.tail.length/\env=Jc ⟨a2,0,none⟩ la l.length lc (32+j.dead) seq pa n pc lP (j.v.mem.length - 1) iZ ((j.v.mem.length - 1:Nat):Int) i aT/\ai u z/\cy u z pa n pc (((j.v.mem.tail.take i).map (xO j seq l)).flatten)) j.v.mem.tail.length
  ⟨0,0,none,0,_,rfl,by omega,rfl,ay.refl _ _,cy.nil _ _⟩ ?_
 rintro q env z ⟨i,n,pa,pc,aT,rfl,aD,rfl,da,d'⟩;rw [aup];have hP:=ab.ck da;have cr:=da.size;have Cc:=d'.len;have OO:=ar2 i;refine bL (λaK=>?_) (λhQ=>?_)
 ·obtain ⟨bV,hm⟩:∃ bV,j.v.mem.tail[i]?=some bV:=⟨_,cp (by omega)⟩;have tp:=ab.du.hd bV (Il (dn hm));have fb:gF bV.dJ:=by unfold gF;omega
  have N1:((j.v.mem.tail.take (i+1)).map (xO j seq l)).flatten=((j.v.mem.tail.take i).map (xO j seq l)).flatten++xO j seq l bV:=by rw [iW,hm];simp
  refine hq (cells:=bp.cells) bp.len (by omega) (vU.new da) hm rfl (by omega) λb o gD _=>bp.bd bV ⟨gD,?_⟩
  refine g0 (vs:=bV.cells) rfl (bp.single _) λbT dq ej cx bf=>bp.bd bV ⟨cD cx rfl,?_⟩
  have j2:=bf.size;rw [cn (x:=(i:Int)+1) (by omega) (by omega)];refine aR (XG (hP.ck bf) fb ((dH.new da).new bf) au.wr au.uB) ?_;rintro v hh ⟨lv,gc,rfl,bz,U1⟩;refine ⟨_,_,_,rfl,?_⟩;have UB:∀ k,a7 pa k->k<dq.heap.size:=λk J=>by obtain ⟨dD,aq,_⟩:=d'.ex;have:=aq.lt J;omega
  refine cy.I7 ((d'.new bf).new bz) ((da.new bf).new bz) U1 UB (by omega) (by omega) λap bU gK c9 g_ bH=>?_
  have TD:=ab.ck bH;have Vf:aF gK bT bV.cells hN:=g_.an (ai.an bz cx) λe=>by obtain ⟨dD,aq,_⟩:=d'.ex;have:=aq.lt e;omega
  refine bp.bd bV ⟨cD Vf rfl,?_⟩;rintro fJ jq me kY;obtain ⟨cg,Ay⟩:=xT me kY;clear kY;refine aR (Qy (TD.ck cg) fb (32+j.dead) Ay rfl (eJ 1) (λe=>by cases e) (λx ao=>by simp at ao;rw [ao];exact pr) (show 1<=1000000 by decide)) ?_;rintro v nw ⟨bX,rfl,d_,dg⟩;have d_:ei (λk=>k<jq.heap.size) nw bX (Lu j seq bV):=d_;refine a0.bd bX ⟨rfl,?_⟩;rintro ec o0 iO gN;refine cy.u9 (c9.new cg) (bH.new cg) dg d_ (by omega) iO gN λDr mF y9 h4 fK gJ=>?_
  have rZ:((j.v.mem.tail.take i).map (xO j seq l)).flatten++l.map (yO j bV)++[Lu j seq bV]=((j.v.mem.tail.take (i+1)).map (xO j seq l)).flatten:=by rw [N1];unfold xO;rw [ue]
  rw [rZ] at h4;exact ⟨j.v.mem.tail.length - (i+1),by omega,i+1,_,Dr,mF,_,rfl,by omega,rfl,gJ,h4⟩
 ·have g2:i=j.v.mem.tail.length:=by omega
  subst g2;rw [nx] at d' Cc OO;refine ajW hP (bq.new da) c7 ab.new yD tv da d' (by omega) (dH.new da) fH au pr _ λS v b_ gl aw ar=>cC S v b_ gl aw ?_
  exact ar.of da (eJ _)
theorem aiN (ab:fy w0 u a2 tb r m j V (0,0)) (bq:h2 A w0 u tb T G) (c7:kl T) (pk:s4 w0 u a2 tb V bj) (DR:bj.length=j.v.mem.length) {W:List a6} (dH:jd u q.hO q.gO W) (fH:∀ k,a7 q.hO k->k≠tb/\k≠a2) (uX:jD q.Seq W 256=0) (rj:∀ x ∈ je q.Seq W,dp x) (au:De W) :
  bK 227 [ptr a2,q.val] u (tR A w0 u a2 tb r m j V (CH j m q.Seq W bj G)):=by
 refine bO Tryz.func227 ?_;rw [ptr,av0];have tv:=ab.an.lt;have yD:=bq.an.lt;have hz:=ab.du.dead;have aC:=ab.cH.dead;obtain ⟨_,pr,_⟩:=pM uX;rintro b1 w1 bA br;obtain ⟨bm,a1⟩:=b4 bA br;have bm:aF w1 b1 q.cells ho:=bm;clear br;have fI:=a1.size;refine c0.bd q ⟨cD bm rfl,?_⟩;refine aR (akp (ab.ck a1) (bq.new a1) c7 (pk.new a1) DR (dH.new a1) uX rj) ?_;rintro v aS ⟨rfl,mI⟩;have B5:=mI.of (B':=u.heap.size) a1 fI;refine ⟨_,rfl,ht (λaJ=>?_) (λaZ=>?_)⟩
 ·have e:CH j m q.Seq W bj G=ms j q.Seq W bj G:=if_pos aJ;exact ⟨by rw [e,aJ],by rw [e];exact B5⟩
 have bY:CH j m q.Seq W bj G=Bx j m q.Seq W (jv j m W (ms j q.Seq W bj G).bD):=if_neg (by rw [aZ];simp);obtain ⟨aq,J,kZ⟩:=Ap aZ;have ju:=mI.hK;rw [show (ms j q.Seq W bj G).out=(0,0) from aq] at ju;obtain ⟨aoO,r8,adG,JG⟩:=mI.j9;rw [show (ms j q.Seq W bj G).ask=none from J] at JG;rw [show (ms j q.Seq W bj G).gb=false from kZ] at adG;have BG:b1≠tb/\b1≠a2:=by constructor<;>omega
 have gM:=mI.aO.an bm λe=>e.elim BG.1 BG.2
 have v9:=Mz (dH.new a1) mI.aO λk J e=>e.elim (fH k J).1 (fH k J).2
 refine c0.bd q ⟨cD gM rfl,?_⟩;refine aR (ahP ju r8 ⟨JG,adG⟩ v9 fH au.wr) ?_;rintro v aY ⟨pa,pc,rfl,g',dw,iQ⟩;have gw:=ajV (j:=j) (m:=m) (W:=W) (G:=(ms j q.Seq W bj G).bD);generalize aDs:(ms j q.Seq W bj G).bD=iY at g' dw bY gw;have Ac:hM A w0 u a2 tb u.heap.size r m j V (jv j m W iY) aY:=hM.seq B5.aO (ay.refl _ _) g' (B5.aO.size);refine ⟨_,_,_,_,rfl,ht (λaJ=>?_) (λqy=>?_)⟩
 ·have e:Bx j m q.Seq W (jv j m W iY)=jv j m W iY:=if_pos aJ;exact ⟨by rw [bY,e,aJ],by rw [bY,e];exact Ac⟩
 have bg:Bx j m q.Seq W (jv j m W iY)=if (k1 j W (jv j m W iY).done (jv j m W iY).done.length).length=0 then jv j m W iY else DL j m q.Seq (k1 j W (jv j m W iY).done (jv j m W iY).done.length) (cE (jv j m W iY).bD (IA j q.Seq (k1 j W (jv j m W iY).done (jv j m W iY).done.length))):=if_neg (by rw [qy];simp);have P8:=Ap qy;have yy:(jv j m W iY).out=(0,0):=P8.1;have ek:(jv j m W iY).ask=none:=P8.2.1;have Pn:(jv j m W iY).gb=false:=P8.2.2;clear P8;have j0:(jv j m W iY).done.length<=W.length:=gw;generalize jv j m W iY=P at g' Ac dw bY bg yy ek Pn j0 qy;have mj:=g'.hK;rw [show P.out=(0,0) from yy] at mj;obtain ⟨aaE,Gz,Hb,JH⟩:=g'.j9;rw [show P.ask=none from ek] at JH;rw [show P.gb=false from Pn] at Hb;have kH:=ajM (j:=j) (ds:=P.done) j0;have ac6:=WL j W P.done P.done.length;generalize k1 j W P.done P.done.length=l at dw bg kH ac6;rw [bY,bg];refine gX (λaN=>?_) (λaN=>?_)
 ·rw [if_pos (by omega)];exact ⟨by rw [show P.ok=true from qy],Ac⟩
 rw [if_neg (by omega)];have u1:=g'.aO.an gM λe=>e.elim BG.1 BG.2
 rintro bZ eE;have bz:ai aY bZ:=by rw [eE];exact eh _
 clear eE;have m4:=mj.ck bz;have oQ:=ai.an bz u1;refine ⟨λy=>ai bZ y,ay.refl _ _,r.iq,λy az=>(ai.an az m4.an).cell (i:=5) rfl,q.Seq,λy az=>(ai.an az oQ).cell (i:=0) rfl,?_⟩;dsimp only;rw [aC,rJ (x:=q.Seq) (by omega) (by omega)];refine aR (MH bZ hz) ?_;rintro v cK ⟨rfl,bH⟩;have mH:=m4.ck bH;obtain ⟨zw,kX⟩:=ab.cH.view;refine ⟨_,rfl,bH,e3.bd r.View ⟨cD mH.an rfl,?_⟩⟩;refine aR (XV (kX.new mH.new) ab.du.mem.1) ?_;rintro v dh ⟨lP,iZ,rfl,cg,vU⟩;refine ⟨_,_,_,rfl,?_⟩;have v3:=(bz.new bH).new cg;have T8:=au.sub kH (by omega);have gw:jd dh pa l.length l:=⟨dw.new v3,rfl,by have:=T8.wr.hH;omega,λp ar=>(T8.wr.ok p ar).2.2.2.2⟩;have eN:=B5.aO.size;have aDT:=Ac.aO.size;have aEl:=v3.size;refine ajX (mH.ck cg) (Gz.new v3) ⟨JH,Hb⟩ vU gw (λk J=>?_) T8 (seq:=q.Seq) ⟨by omega,by omega⟩ _ λS v b_ gl aw ar=>?_
 ·have:=iQ k J;constructor<;>omega
 ·rw [<-gl];exact ⟨aw,hM.seq Ac.aO v3 ar (by omega)⟩
end
end
end Go.Proofs.YtmkljjbioomepaaGreat
