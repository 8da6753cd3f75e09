import Derived.Test.YtmkljjbioomepaaGreatd02
import Derived.Test.YtmkljjbioomepaaGreatProg
set_option linter.all false
set_option maxHeartbeats 4000000
set_option maxRecDepth 100000
namespace Go.Proofs.YtmkljjbioomepaaGreat
open Go.Proofs.Tryz Go.bs
variable {a:an} {c i:Nat} {w:ak}
section
structure bT where
 Code:Int
 Words:an
 cQ:Nat
 cJ:Nat
def bT.cells (r:bT):ax:=[.int .i64 r.Code,.slice r.Words r.cQ r.cJ]
def bT.val (r:bT):a4:=.agg r.cells.toArray
def bT.ex (K:bT->Prop):Prop:=∃ (d:Int) (c:an) (b:Nat) (a:Nat),K ⟨d,c,b,a⟩
theorem bT.aT {K:bT->Prop} (r:bT) (h:K r):bT.ex K:=⟨_,_,_,_,h⟩
theorem bT.len (r:bT):r.cells.length=2:=rfl
theorem bT.single (r:bT):∀ u ∈ r.cells,single u=true:=by intro u hu;simp only [bT.cells,eU,lD,or_false] at hu;rcases hu with rfl | rfl<;>rfl
structure aG where
 Kind:Int
 Node:Int
 bZ:Int
 N:Int
 Old:Int
 ai:Int
 Words:an
 cQ:Nat
 cJ:Nat
 Key:Int
 cq:Int
def aG.cells (r:aG):ax:=[.int .i64 r.Kind,.int .i64 r.Node,.int .i64 r.bZ,.int .i64 r.N,.int .u64 r.Old,.int .u64 r.ai,.slice r.Words r.cQ r.cJ,.int .u64 r.Key,.int .i64 r.cq]
def aG.val (r:aG):a4:=.agg r.cells.toArray
def aG.ex (K:aG->Prop):Prop:=∃ (e:Int) (f:Int) (j:Int) (k:Int) (i:Int) (h:Int) (c:an) (b:Nat) (a:Nat) (g:Int) (d:Int),K ⟨e,f,j,k,i,h,c,b,a,g,d⟩
theorem aG.aT {K:aG->Prop} (r:aG) (h:K r):aG.ex K:=⟨_,_,_,_,_,_,_,_,_,_,_,h⟩
theorem aG.len (r:aG):r.cells.length=9:=rfl
theorem aG.single (r:aG):∀ u ∈ r.cells,single u=true:=by intro u hu;simp only [aG.cells,eU,lD,or_false] at hu;rcases hu with rfl | rfl | rfl | rfl | rfl | rfl | rfl | rfl | rfl<;>rfl
structure oB where
 tZ:Int
def oB.cells (r:oB):ax:=[.int .i64 r.tZ]
def oB.val (r:oB):a4:=.agg r.cells.toArray
def oB.ex (K:oB->Prop):Prop:=∃ (a:Int),K ⟨a⟩
structure oD where
 tZ:Int
 Number:Int
 Client:Int
 Round:Int
 se:Int
def oD.cells (r:oD):ax:=[.int .i64 r.tZ,.int .i64 r.Number,.int .i64 r.Client,.int .i64 r.Round,.int .u64 r.se]
def oD.val (r:oD):a4:=.agg r.cells.toArray
def oD.ex (K:oD->Prop):Prop:=∃ (c:Int) (b:Int) (a:Int) (d:Int) (e:Int),K ⟨c,b,a,d,e⟩
structure c2 where
 Number:Int
 fh:an
 eW:Nat
 fQ:Nat
def c2.cells (r:c2):ax:=[.int .i64 r.Number,.slice r.fh r.eW r.fQ]
def c2.val (r:c2):a4:=.agg r.cells.toArray
def c2.ex (K:c2->Prop):Prop:=∃ (d:Int) (c:an) (b:Nat) (a:Nat),K ⟨d,c,b,a⟩
theorem c2.aT {K:c2->Prop} (r:c2) (h:K r):c2.ex K:=⟨_,_,_,_,h⟩
theorem c2.single (r:c2):∀ u ∈ r.cells,single u=true:=by intro u hu;simp only [c2.cells,eU,lD,or_false] at hu;rcases hu with rfl | rfl<;>rfl
structure dt where
 Client:Int
 Seq:Int
 hs:Int
 View:c2
 Reads:an
 k3:Nat
 pg:Nat
 eH:an
 dT:Nat
 hv:Nat
def dt.cells (r:dt):ax:=[.int .i64 r.Client,.int .i64 r.Seq,.int .i64 r.hs,.int .i64 r.View.Number,.slice r.View.fh r.View.eW r.View.fQ,.slice r.Reads r.k3 r.pg,.slice r.eH r.dT r.hv]
def dt.val (r:dt):a4:=.agg r.cells.toArray
def dt.ex (K:dt->Prop):Prop:=∃ (i:Int) (n:Int) (k:Int) (d:Int) (c:an) (b:Nat) (a:Nat) (l:an) (h:Nat) (g:Nat) (j:an) (f:Nat) (e:Nat),K ⟨i,n,k,⟨d,c,b,a⟩,l,h,g,j,f,e⟩
theorem dt.aT {K:dt->Prop} (r:dt) (h:K r):dt.ex K:=⟨_,_,_,_,_,_,_,_,_,_,_,_,_,h⟩
theorem dt.single (r:dt):∀ u ∈ r.cells,single u=true:=by intro u hu;simp only [dt.cells,eU,lD,or_false] at hu;rcases hu with rfl | rfl | rfl | rfl | rfl | rfl | rfl<;>rfl
structure dE where
 Client:Int
 ir:Int
 hs:Int
 View:c2
 eV:Int
 f0:Int
 hK:Int
def dE.cells (r:dE):ax:=[.int .i64 r.Client,.int .i64 r.ir,.int .i64 r.hs,.int .i64 r.View.Number,.slice r.View.fh r.View.eW r.View.fQ,.int .i64 r.eV,.int .i64 r.f0,.int .u64 r.hK]
def dE.val (r:dE):a4:=.agg r.cells.toArray
def dE.ex (K:dE->Prop):Prop:=∃ (e:Int) (j:Int) (f:Int) (d:Int) (c:an) (b:Nat) (a:Nat) (g:Int) (h:Int) (i:Int),K ⟨e,j,f,⟨d,c,b,a⟩,g,h,i⟩
theorem dE.aT {K:dE->Prop} (r:dE) (h:K r):dE.ex K:=⟨_,_,_,_,_,_,_,_,_,_,h⟩
structure cb where
 Kind:Int
 Client:Int
 Jc:oB
 t':oD
 i':dt
 Recover:dE
 tO:an
 r':Nat
 zx:Nat
 nr:Bool
 n8:Bool
 Code:Int
 View:c2
 Status:Int
 Doors:an
 zb:Nat
 tI:Nat
 se:Int
 qo:Int
 k4:Int
 Seq:Int
 k2:Int
def cb.cells (r:cb):ax:=[.int .i64 r.Kind,.int .i64 r.Client,.int .i64 r.Jc.tZ,.int .i64 r.t'.tZ,.int .i64 r.t'.Number,.int .i64 r.t'.Client,.int .i64 r.t'.Round,.int .u64 r.t'.se,.int .i64 r.i'.Client,.int .i64 r.i'.Seq,.int .i64 r.i'.hs,.int .i64 r.i'.View.Number,.slice r.i'.View.fh r.i'.View.eW r.i'.View.fQ,.slice r.i'.Reads r.i'.k3 r.i'.pg,.slice r.i'.eH r.i'.dT r.i'.hv,.int .i64 r.Recover.Client,.int .i64 r.Recover.ir,.int .i64 r.Recover.hs,.int .i64 r.Recover.View.Number,.slice r.Recover.View.fh r.Recover.View.eW r.Recover.View.fQ,.int .i64 r.Recover.eV,.int .i64 r.Recover.f0,.int .u64 r.Recover.hK,.slice r.tO r.r' r.zx,.bool r.nr,.bool r.n8,.int .i64 r.Code,.int .i64 r.View.Number,.slice r.View.fh r.View.eW r.View.fQ,.int .i64 r.Status,.slice r.Doors r.zb r.tI,.int .u64 r.se,.int .i64 r.qo,.int .i64 r.k4,.int .i64 r.Seq,.int .i64 r.k2]
def cb.val (r:cb):a4:=.agg r.cells.toArray
def cb.ex (K:cb->Prop):Prop:=∃ (V:Int) (O:Int) (n:Int) (D:Int) (y:Int) (x:Int) (E:Int) (I:Int) (r:Int) (H:Int) (u:Int) (h:Int) (f:an) (d:Nat) (c:Nat) (w:an) (l:Nat) (k:Nat) (s:an) (j:Nat) (i:Nat) (o:Int) (F:Int) (t:Int) (g:Int) (e:an) (b:Nat) (a:Nat) (z:Int) (A:Int) (B:Int) (Y:an) (S:Nat) (R:Nat) (W:Bool) (X:Bool) (T:Int) (G:Int) (C:an) (q:Nat) (p:Nat) (P:Int) (Q:an) (L:Nat) (J:Nat) (Xv:Int) (U:Int) (N:Int) (Z:Int) (M:Int),K ⟨V,O,⟨n⟩,⟨D,y,x,E,I⟩,⟨r,H,u,⟨h,f,d,c⟩,w,l,k,s,j,i⟩,⟨o,F,t,⟨g,e,b,a⟩,z,A,B⟩,Y,S,R,W,X,T,⟨G,C,q,p⟩,P,Q,L,J,Xv,U,N,Z,M⟩
theorem cb.aT {K:cb->Prop} (r:cb) (h:K r):cb.ex K:=⟨_,_,_,_,_,_,_,_,_,_,_,_,_,_,_,_,_,_,_,_,_,_,_,_,_,_,_,_,_,_,_,_,_,_,_,_,_,_,_,_,_,_,_,_,_,_,_,_,_,_,h⟩
theorem cb.len (r:cb):r.cells.length=36:=rfl
theorem cb.single (r:cb):∀ u ∈ r.cells,single u=true:=by intro u hu;simp only [cb.cells,eU,lD,or_false] at hu;rcases hu with rfl | rfl | rfl | rfl | rfl | rfl | rfl | rfl | rfl | rfl | rfl | rfl | rfl | rfl | rfl | rfl | rfl | rfl | rfl | rfl | rfl | rfl | rfl | rfl | rfl | rfl | rfl | rfl | rfl | rfl | rfl | rfl | rfl | rfl | rfl | rfl<;>rfl
structure aK where
 bm:Int
 Head:Int
 v3:Int
 CG:Int
 CH:Int
 CI:Int
 CJ:Int
 CK:Int
 CL:Int
def aK.cells (r:aK):ax:=[.int .i64 r.bm,.int .u64 r.Head,.int .u64 r.v3,.int .u64 r.CG,.int .u64 r.CH,.int .u64 r.CI,.int .u64 r.CJ,.int .u64 r.CK,.int .u64 r.CL]
def aK.val (r:aK):a4:=.agg r.cells.toArray
def aK.ex (K:aK->Prop):Prop:=∃ (i:Int) (h:Int) (a:Int) (b:Int) (c:Int) (d:Int) (e:Int) (f:Int) (g:Int),K ⟨i,h,a,b,c,d,e,f,g⟩
theorem aK.aT {K:aK->Prop} (r:aK) (h:K r):aK.ex K:=⟨_,_,_,_,_,_,_,_,_,h⟩
theorem aK.len (r:aK):r.cells.length=9:=rfl
theorem aK.single (r:aK):∀ u ∈ r.cells,single u=true:=by intro u hu;simp only [aK.cells,eU,lD,or_false] at hu;rcases hu with rfl | rfl | rfl | rfl | rfl | rfl | rfl | rfl | rfl<;>rfl
structure ps where
 bZ:Int
 Kind:Int
 A:Int
def ps.cells (r:ps):ax:=[.int .i64 r.bZ,.int .i64 r.Kind,.int .i64 r.A]
def ps.val (r:ps):a4:=.agg r.cells.toArray
def ps.ex (K:ps->Prop):Prop:=∃ (b:Int) (a:Int) (c:Int),K ⟨b,a,c⟩
structure a0 where
 Node:Int
 cq:Int
 Full:Bool
def a0.cells (r:a0):ax:=[.int .i64 r.Node,.int .i64 r.cq,.bool r.Full]
def a0.val (r:a0):a4:=.agg r.cells.toArray
def a0.ex (K:a0->Prop):Prop:=∃ (c:Int) (a:Int) (b:Bool),K ⟨c,a,b⟩
theorem a0.aT {K:a0->Prop} (r:a0) (h:K r):a0.ex K:=⟨_,_,_,h⟩
theorem a0.len (r:a0):r.cells.length=3:=rfl
theorem a0.single (r:a0):∀ u ∈ r.cells,single u=true:=by intro u hu;simp only [a0.cells,eU,lD,or_false] at hu;rcases hu with rfl | rfl | rfl<;>rfl
structure qK where
 Code:Int
 Number:Int
 View:c2
 Status:Int
 Pc:Bool
 Hint:Int
 Ix:an
 Iz:Nat
 Iy:Nat
 Keys:an
 MA:Nat
 Mz:Nat
 Doors:an
 zb:Nat
 tI:Nat
def qK.cells (r:qK):ax:=[.int .i64 r.Code,.int .i64 r.Number,.int .i64 r.View.Number,.slice r.View.fh r.View.eW r.View.fQ,.int .i64 r.Status,.bool r.Pc,.int .u64 r.Hint,.slice r.Ix r.Iz r.Iy,.slice r.Keys r.MA r.Mz,.slice r.Doors r.zb r.tI]
def qK.val (r:qK):a4:=.agg r.cells.toArray
def qK.ex (K:qK->Prop):Prop:=∃ (q:Int) (k:Int) (d:Int) (c:an) (b:Nat) (a:Nat) (n:Int) (l:Bool) (r:Int) (o:an) (f:Nat) (e:Nat) (s:an) (j:Nat) (i:Nat) (p:an) (h:Nat) (g:Nat),K ⟨q,k,⟨d,c,b,a⟩,n,l,r,o,f,e,s,j,i,p,h,g⟩
structure qQ where
 Code:Int
 se:Int
 Round:Int
def qQ.cells (r:qQ):ax:=[.int .i64 r.Code,.int .u64 r.se,.int .i64 r.Round]
def qQ.val (r:qQ):a4:=.agg r.cells.toArray
def qQ.ex (K:qQ->Prop):Prop:=∃ (b:Int) (c:Int) (a:Int),K ⟨b,c,a⟩
structure bF where
 Code:Int
 qo:Int
def bF.cells (r:bF):ax:=[.int .i64 r.Code,.int .i64 r.qo]
def bF.val (r:bF):a4:=.agg r.cells.toArray
def bF.ex (K:bF->Prop):Prop:=∃ (a:Int) (b:Int),K ⟨a,b⟩
theorem bF.aT {K:bF->Prop} (r:bF) (h:K r):bF.ex K:=⟨_,_,h⟩
theorem bF.single (r:bF):∀ u ∈ r.cells,single u=true:=by intro u hu;simp only [bF.cells,eU,lD,or_false] at hu;rcases hu with rfl | rfl<;>rfl
structure dA where
 Code:Int
 k4:Int
 Seq:Int
 k2:Int
 KJ:Int
def dA.cells (r:dA):ax:=[.int .i64 r.Code,.int .i64 r.k4,.int .i64 r.Seq,.int .i64 r.k2,.int .u64 r.KJ]
def dA.val (r:dA):a4:=.agg r.cells.toArray
def dA.ex (K:dA->Prop):Prop:=∃ (d:Int) (b:Int) (e:Int) (a:Int) (c:Int),K ⟨d,b,e,a,c⟩
theorem dA.aT {K:dA->Prop} (r:dA) (h:K r):dA.ex K:=⟨_,_,_,_,_,h⟩
theorem dA.single (r:dA):∀ u ∈ r.cells,single u=true:=by intro u hu;simp only [dA.cells,eU,lD,or_false] at hu;rcases hu with rfl | rfl | rfl | rfl | rfl<;>rfl
structure iK where
 l:a8
def iK.cells (r:iK):ax:=r.l.map λx=>.int .u64 x
def iK.val (r:iK):a4:=.agg r.cells.toArray
def iK.ex (K:iK->Prop):Prop:=FT 256 λl=>K ⟨l⟩
theorem iK.aT {K:iK->Prop} (r:iK) (a:r.l.length=256) (h:K r):iK.ex K:=E2 256 r.l a h
structure b0 where
 Seq:Int
 eH:an
 dT:Nat
 hv:Nat
def b0.cells (r:b0):ax:=[.int .i64 r.Seq,.slice r.eH r.dT r.hv]
def b0.val (r:b0):a4:=.agg r.cells.toArray
def b0.ex (K:b0->Prop):Prop:=∃ (d:Int) (c:an) (b:Nat) (a:Nat),K ⟨d,c,b,a⟩
theorem b0.aT {K:b0->Prop} (r:b0) (h:K r):b0.ex K:=⟨_,_,_,_,h⟩
theorem b0.single (r:b0):∀ u ∈ r.cells,single u=true:=by intro u hu;simp only [b0.cells,eU,lD,or_false] at hu;rcases hu with rfl | rfl<;>rfl
structure eQ where
 bm:Int
 Head:Int
def eQ.cells (r:eQ):ax:=[.int .i64 r.bm,.int .u64 r.Head]
def eQ.val (r:eQ):a4:=.agg r.cells.toArray
def eQ.ex (K:eQ->Prop):Prop:=∃ (b:Int) (a:Int),K ⟨b,a⟩
theorem eQ.aT {K:eQ->Prop} (r:eQ) (h:K r):eQ.ex K:=⟨_,_,h⟩
theorem eQ.len (r:eQ):r.cells.length=2:=rfl
theorem eQ.single (r:eQ):∀ u ∈ r.cells,single u=true:=by intro u hu;simp only [eQ.cells,eU,lD,or_false] at hu;rcases hu with rfl | rfl<;>rfl
structure de where
 aW:Int
 least:Int
 exact:Bool
def de.cells (r:de):ax:=[.int .i64 r.aW,.int .u64 r.least,.bool r.exact]
def de.val (r:de):a4:=.agg r.cells.toArray
def de.ex (K:de->Prop):Prop:=∃ (a:Int) (c:Int) (b:Bool),K ⟨a,c,b⟩
theorem de.aT {K:de->Prop} (r:de) (h:K r):de.ex K:=⟨_,_,_,h⟩
theorem de.len (r:de):r.cells.length=3:=rfl
theorem de.single (r:de):∀ u ∈ r.cells,single u=true:=by intro u hu;simp only [de.cells,eU,lD,or_false] at hu;rcases hu with rfl | rfl | rfl<;>rfl
abbrev mL (n:Nat) (l:Array a4) (w:ak) (K:an->aF):Prop:=Calls prog n l w λe w1=>∃ (v0:an),e=.returned (.pointer v0)/\K v0 w1
abbrev sM (n:Nat) (l:Array a4) (w:ak) (K:an->Nat->Nat->Int->aF):Prop:=Calls prog n l w λe w1=>∃ (v0:an) (v1:Nat) (v2:Nat) (a:Int),e=.returned (.tuple #[.slice v0 v1 v2,.int .i64 a])/\K v0 v1 v2 a w1
abbrev dX (w:ak) (a:aX) (K:Int->Prop):Prop:=∃ (v0:Int),w.cell? a=some (.int .u64 v0)/\K v0
abbrev AQ (n:Nat) (l:Array a4) (w:ak) (K:an->Int->aF):Prop:=Calls prog n l w λe w1=>∃ (v0:an) (v1:Int),e=.returned (.tuple #[.pointer v0,.int .i64 v1])/\K v0 v1 w1
abbrev ct (n:Nat) (l:Array a4) (w:ak) (K:Int->aF):Prop:=Calls prog n l w λe w1=>∃ (v0:Int),e=.returned (.int .i64 v0)/\K v0 w1
abbrev bX (w:ak) (a:aX) (K:Int->Prop):Prop:=∃ (v0:Int),w.cell? a=some (.int .i64 v0)/\K v0
abbrev dn (n:Nat) (l:Array a4) (w:ak) (K:Bool->aF):Prop:=Calls prog n l w λe w1=>∃ (v0:Bool),e=.returned (.bool v0)/\K v0 w1
abbrev cV (S:aF) (a:aX) (K:Int->Prop):Prop:=∃ (v0:Int),(∀ u,S u->u.cell? a=some (.int .i64 v0))/\K v0
abbrev uX (n:Nat) (l:Array a4) (w:ak) (K:aF):Prop:=Calls prog n l w λe w1=>e=.returned (.tuple #[])/\K  w1
abbrev eZ (n:Nat) (l:Array a4) (w:ak) (K:an->Nat->Nat->aF):Prop:=Calls prog n l w λe w1=>∃ (v0:an) (v1:Nat) (v2:Nat),e=.returned (.slice v0 v1 v2)/\K v0 v1 v2 w1
abbrev GR (w:ak) (a:aX) (K:Int->Int->Int->Prop):Prop:=∃ (v0:Int) (v1:Int) (v2:Int),cf w a 0 [.int .i64 v0,.int .i64 v1,.int .i64 v2]/\K v0 v1 v2
abbrev b_ (w:ak) (a:aX) (K:an->Nat->a6):Prop:=∃ (v0:an) (v1:Nat) (v2:Nat),w.cell? a=some (.slice v0 v1 v2)/\K v0 v1 v2
abbrev e6 (S:aF) (a:aX) (K:an->Nat->a6):Prop:=∃ (v0:an) (v1:Nat) (v2:Nat),(∀ u,S u->u.cell? a=some (.slice v0 v1 v2))/\K v0 v1 v2
abbrev kj (w:ak) (a:aX) (K:Bool->Prop):Prop:=∃ (v0:Bool),w.cell? a=some (.bool v0)/\K v0
abbrev jB (n:Nat) (l:Array a4) (w:ak) (K:Int->aF):Prop:=Calls prog n l w λe w1=>∃ (v0:Int),e=.returned (.int .u64 v0)/\K v0 w1
abbrev uU (w:ak) (a:aX) (K:Int->an->Nat->a6):Prop:=∃ (v0:Int) (v1:an) (v2:Nat) (b:Nat),cf w a 0 [.int .i64 v0,.slice v1 v2 b]/\K v0 v1 v2 b
abbrev jC (w:ak) (a:aX) (K:Int->Int->Int->Int->Int->Int->an->Nat->Nat->Int->Int->Prop):Prop:=∃ (v0:Int) (v1:Int) (v2:Int) (b:Int) (v4:Int) (c:Int) (v6:an) (d:Nat) (e:Nat) (f:Int) (v10:Int),cf w a 0 [.int .i64 v0,.int .i64 v1,.int .i64 v2,.int .i64 b,.int .u64 v4,.int .u64 c,.slice v6 d e,.int .u64 f,.int .i64 v10]/\K v0 v1 v2 b v4 c v6 d e f v10
abbrev mM (S:aF) (a:aX) (K:Int->Int->Int->Int->Int->Int->an->Nat->Nat->Int->Int->Prop):Prop:=∃ (v0:Int) (v1:Int) (v2:Int) (b:Int) (v4:Int) (c:Int) (v6:an) (d:Nat) (e:Nat) (f:Int) (v10:Int),(∀ u,S u->cf u a 0 [.int .i64 v0,.int .i64 v1,.int .i64 v2,.int .i64 b,.int .u64 v4,.int .u64 c,.slice v6 d e,.int .u64 f,.int .i64 v10])/\K v0 v1 v2 b v4 c v6 d e f v10
abbrev Uw (S:aF) (a:aX) (K:Int->Int->Prop):Prop:=∃ (v0:Int) (v1:Int),(∀ u,S u->cf u a 0 [.int .i64 v0,.int .i64 v1])/\K v0 v1
abbrev hH (n:Nat) (l:Array a4) (w:ak) (K:Int->Int->aF):Prop:=Calls prog n l w λe w1=>∃ (v0:Int) (v1:Int),e=.returned (.tuple #[.int .u64 v0,.int .i64 v1])/\K v0 v1 w1
abbrev GS (n:Nat) (l:Array a4) (w:ak) (K:Int->Int->aF):Prop:=Calls prog n l w λe w1=>∃ (v0:Int) (v1:Int),e=.returned (.tuple #[.int .i64 v0,.int .i64 v1])/\K v0 v1 w1
abbrev Ux (n:Nat) (l:Array a4) (w:ak) (K:Int->Int->Int->Int->Int->Int->an->Nat->Nat->Int->Int->aF):Prop:=Calls prog n l w λe w1=>∃ (v0:Int) (v1:Int) (v2:Int) (a:Int) (v4:Int) (b:Int) (v6:an) (c:Nat) (d:Nat) (f:Int) (v10:Int),e=.returned (.agg #[.int .i64 v0,.int .i64 v1,.int .i64 v2,.int .i64 a,.int .u64 v4,.int .u64 b,.slice v6 c d,.int .u64 f,.int .i64 v10])/\K v0 v1 v2 a v4 b v6 c d f v10 w1
abbrev AP (S:aF) (a:aX) (K:Int->an->Nat->a6):Prop:=∃ (v0:Int) (v1:an) (v2:Nat) (b:Nat),(∀ u,S u->cf u a 0 [.int .i64 v0,.slice v1 v2 b])/\K v0 v1 v2 b
abbrev j1 (S:aF) (a:aX) (K:Int->Prop):Prop:=∃ (v0:Int),(∀ u,S u->u.cell? a=some (.int .u64 v0))/\K v0
abbrev jD (n:Nat) (l:Array a4) (w:ak) (K:an->Nat->Nat->Bool->aF):Prop:=Calls prog n l w λe w1=>∃ (v0:an) (v1:Nat) (v2:Nat) (a:Bool),e=.returned (.tuple #[.slice v0 v1 v2,.bool a])/\K v0 v1 v2 a w1
abbrev mN (w:ak) (a:aX) (K:an->Prop):Prop:=∃ (v0:an),w.cell? a=some (.pointer v0)/\K v0
abbrev UD (w:ak) (a:aX) (K:Int->Prop):Prop:=∃ (v0:Int),w.cell? a=some (.int .u8 v0)/\K v0
abbrev GZ (w:ak) (a:aX) (K:an->an->Nat->a6):Prop:=∃ (v0:an) (v1:an) (v2:Nat) (b:Nat),cf w a 0 [.pointer v0,.slice v1 v2 b]/\K v0 v1 v2 b
abbrev sO (S:aF) (a:aX) (K:an->Prop):Prop:=∃ (v0:an),(∀ u,S u->u.cell? a=some (.pointer v0))/\K v0
abbrev UE (w:ak) (a:aX) (K:Bool->Int->an->Nat->Nat->an->Nat->Nat->Int->Int->Int->Prop):Prop:=∃ (v0:Bool) (v1:Int) (v2:an) (b:Nat) (v4:Nat) (c:an) (v6:Nat) (d:Nat) (e:Int) (f:Int) (v10:Int),cf w a 0 [.bool v0,.int .i64 v1,.slice v2 b v4,.slice c v6 d,.int .i64 e,.int .i64 f,.int .i64 v10]/\K v0 v1 v2 b v4 c v6 d e f v10
abbrev AU (n:Nat) (l:Array a4) (w:ak) (K:Int->an->Nat->Nat->Bool->aF):Prop:=Calls prog n l w λe w1=>∃ (v0:Int) (v1:an) (v2:Nat) (a:Nat) (v4:Bool),e=.returned (.tuple #[.agg #[.int .i64 v0,.slice v1 v2 a],.bool v4])/\K v0 v1 v2 a v4 w1
abbrev G0 (n:Nat) (l:Array a4) (w:ak) (K:an->Bool->aF):Prop:=Calls prog n l w λe w1=>∃ (v0:an) (v1:Bool),e=.returned (.tuple #[.pointer v0,.bool v1])/\K v0 v1 w1
abbrev G1 (S:aF) (a:aX) (K:Bool->Prop):Prop:=∃ (v0:Bool),(∀ u,S u->u.cell? a=some (.bool v0))/\K v0
abbrev UF (n:Nat) (l:Array a4) (w:ak) (K:an->Bool->Bool->aF):Prop:=Calls prog n l w λe w1=>∃ (v0:an) (v1:Bool) (v2:Bool),e=.returned (.tuple #[.pointer v0,.bool v1,.bool v2])/\K v0 v1 v2 w1
abbrev UG (n:Nat) (l:Array a4) (w:ak) (K:cz):Prop:=Calls prog n l w λe w1=>∃ (v0:a4),e=.returned v0/\K v0 w1
abbrev AW (n:Nat) (l:Array a4) (w:ak) (K:Int->Int->Bool->aF):Prop:=Calls prog n l w λe w1=>∃ (v0:Int) (v1:Int) (v2:Bool),e=.returned (.tuple #[.int .i64 v0,.int .i64 v1,.bool v2])/\K v0 v1 v2 w1
abbrev UK (n:Nat) (l:Array a4) (w:ak) (K:Int->Bool->aF):Prop:=Calls prog n l w λe w1=>∃ (v0:Int) (v1:Bool),e=.returned (.tuple #[.int .i64 v0,.bool v1])/\K v0 v1 w1
abbrev x1 (n:Nat) (l:Array a4) (w:ak) (K:Int->Bool->aF):Prop:=Calls prog n l w λe w1=>∃ (v0:Int) (v1:Bool),e=.returned (.tuple #[.int .u64 v0,.bool v1])/\K v0 v1 w1
abbrev l4 (w:ak) (a:aX) (K:aG->Prop):Prop:=aG.ex λr=>cf w a 0 r.cells/\K r
abbrev pN (w:ak) (a:aX) (K:bT->Prop):Prop:=bT.ex λr=>cf w a 0 r.cells/\K r
abbrev uV (X:aF) (a:aX) (K:aK->Prop):Prop:=aK.ex λr=>(∀ u,X u->cf u a 0 r.cells)/\K r
abbrev Uy (w:ak) (a:aX) (K:ps->Prop):Prop:=ps.ex λr=>cf w a 0 r.cells/\K r
abbrev eL (w:ak) (a:aX) (K:cb->Prop):Prop:=cb.ex λr=>cf w a 0 r.cells/\K r
abbrev q5 (n:Nat) (l:Array a4) (w:ak) (K:cb->aF):Prop:=Calls prog n l w λe w1=>cb.ex λr=>e=.returned r.val/\K r w1
abbrev Uz (w:ak) (a:aX) (K:oB->Prop):Prop:=oB.ex λr=>cf w a 0 r.cells/\K r
abbrev AR (X:aF) (a:aX) (K:c2->Prop):Prop:=c2.ex λr=>(∀ u,X u->cf u a 0 r.cells)/\K r
abbrev sN (X:aF) (a:aX) (K:cb->Prop):Prop:=cb.ex λr=>(∀ u,X u->cf u a 0 r.cells)/\K r
abbrev UA (w:ak) (a:aX) (K:oD->Prop):Prop:=oD.ex λr=>cf w a 0 r.cells/\K r
abbrev AS (w:ak) (a:aX) (K:dt->Prop):Prop:=dt.ex λr=>cf w a 0 r.cells/\K r
abbrev GU (w:ak) (a:aX) (K:dE->Prop):Prop:=dE.ex λr=>cf w a 0 r.cells/\K r
abbrev hp (X:aF) (a:aX) (K:a0->Prop):Prop:=a0.ex λr=>(∀ u,X u->cf u a 0 r.cells)/\K r
abbrev GV (X:aF) (a:aX) (K:aG->Prop):Prop:=aG.ex λr=>(∀ u,X u->cf u a 0 r.cells)/\K r
abbrev eM (n:Nat) (l:Array a4) (w:ak) (K:aG->aF):Prop:=Calls prog n l w λe w1=>aG.ex λr=>e=.returned r.val/\K r w1
abbrev dY (w:ak) (a:aX) (K:bF->Prop):Prop:=bF.ex λr=>cf w a 0 r.cells/\K r
abbrev hI (w:ak) (a:aX) (K:aK->Prop):Prop:=aK.ex λr=>cf w a 0 r.cells/\K r
abbrev iC (w:ak) (a:aX) (K:a0->Prop):Prop:=a0.ex λr=>cf w a 0 r.cells/\K r
abbrev uW (X:aF) (a:aX) (K:dt->Prop):Prop:=dt.ex λr=>(∀ u,X u->cf u a 0 r.cells)/\K r
abbrev GW (n:Nat) (l:Array a4) (w:ak) (K:b0->aF):Prop:=Calls prog n l w λe w1=>b0.ex λr=>e=.returned r.val/\K r w1
abbrev l5 (w:ak) (a:aX) (K:c2->Prop):Prop:=c2.ex λr=>cf w a 0 r.cells/\K r
abbrev AT (w:ak) (a:aX) (K:eQ->Prop):Prop:=eQ.ex λr=>cf w a 0 r.cells/\K r
abbrev xZ (X:aF) (a:aX) (K:bT->Prop):Prop:=bT.ex λr=>(∀ u,X u->cf u a 0 r.cells)/\K r
abbrev UB (n:Nat) (l:Array a4) (w:ak) (K:bF->aF):Prop:=Calls prog n l w λe w1=>bF.ex λr=>e=.returned r.val/\K r w1
abbrev GX (X:aF) (a:aX) (K:bF->Prop):Prop:=bF.ex λr=>(∀ u,X u->cf u a 0 r.cells)/\K r
abbrev hW (w:ak) (a:aX) (K:b0->Prop):Prop:=b0.ex λr=>cf w a 0 r.cells/\K r
abbrev UC (n:Nat) (l:Array a4) (w:ak) (K:iK->aF):Prop:=Calls prog n l w λe w1=>iK.ex λr=>e=.returned r.val/\K r w1
abbrev GY (w:ak) (a:aX) (K:iK->Prop):Prop:=iK.ex λr=>cf w a 0 r.cells/\K r
abbrev AV (n:Nat) (l:Array a4) (w:ak) (K:c2->aF):Prop:=Calls prog n l w λe w1=>c2.ex λr=>e=.returned r.val/\K r w1
abbrev UH (n:Nat) (l:Array a4) (w:ak) (K:aK->aF):Prop:=Calls prog n l w λe w1=>aK.ex λr=>e=.returned r.val/\K r w1
abbrev sP (X:aF) (a:aX) (K:b0->Prop):Prop:=b0.ex λr=>(∀ u,X u->cf u a 0 r.cells)/\K r
abbrev G2 (w:ak) (a:aX) (K:de->Prop):Prop:=de.ex λr=>cf w a 0 r.cells/\K r
abbrev G3 (X:aF) (a:aX) (K:de->Prop):Prop:=de.ex λr=>(∀ u,X u->cf u a 0 r.cells)/\K r
abbrev x0 (w:ak) (a:aX) (K:dA->Prop):Prop:=dA.ex λr=>cf w a 0 r.cells/\K r
abbrev UI (X:aF) (a:aX) (K:dE->Prop):Prop:=dE.ex λr=>(∀ u,X u->cf u a 0 r.cells)/\K r
abbrev UJ (X:aF) (a:aX) (K:dA->Prop):Prop:=dA.ex λr=>(∀ u,X u->cf u a 0 r.cells)/\K r
end
section
open IntKind
variable (w:ak) (R:cz) {i k:Int}
theorem Wt:bf prog f12 [ab i,ab k] R w=(cond (k<1) (R (ab 0) w) (IntKind.i64=IntKind.i64/\k≠0/\IntKind.i64=IntKind.i64/\k≠0/\R (ab (Int.tmod (i64.wrap ((Int.tmod i k)+k)) k)) w)):=by kernel_rfl
end
section
theorem tt (w:ak) (x n:Int) (i:-9223372036854775808<=x/\x<9223372036854775808) (g:n<4611686018427387904):bb 12 [.int .i64 x,.int .i64 n] w λv w'=>v=.int .i64 (if n<1 then 0 else x % n)/\w'=w:=by
 refine bd Tryz.func12 ?_;rw [Wt];refine bc (λh=>⟨by rw [if_pos h],rfl⟩) (λh=>⟨rfl,by omega,rfl,by omega,?_,rfl⟩);rw [if_neg h];have b:0<n:=by omega
 have key:∃ t k,Int.tmod x n=t/\-n<t/\t<n/\t+n * k=x:=by
  rcases Int.le_total 0 x with a | a
  ·refine ⟨x % n,x / n,yI a,?_,vG x b,Int.emod_add_mul_ediv x n⟩;have:=vm x (Int.ne_of_gt b);omega
  ·refine ⟨-((-x) % n),-((-x) / n),?_,?_,?_,?_⟩
   ·rw [<-yI (by omega),Int.neg_tmod,Int.neg_neg]
   ·have:=vG (-x) b;omega
   ·have:=vm (-x) (Int.ne_of_gt b);omega
   ·have:=Int.emod_add_mul_ediv (-x) n;rw [Int.mul_neg];omega
 obtain ⟨t,k,d,e,f,c⟩:=key;rw [d,bH (by omega) (by omega)];congr 1;rw [yI (by omega),Int.add_emod_right,<-c,Int.add_mul_emod_self_left]
end
section
open IntKind
variable (w:ak) (R:cz) {i k l:Int} {A:aX} {s:an} {a b:Nat} {j:ar} {X:a4} {F:Bool}
theorem W1 (n:c2):bf prog f125 [n.val] R w=(aS w n.cells.toArray 35 λm o=>aS o #[ab 0,ab 0,ad false] 116 λl e=>b_ e (af m 1) λa b c=>cond ((b:Int) == 0) (a_ e (af l 0) 0 [ab 0,ab 0,ad false] λk=>iC k (af l 0) λh=>k=k/\R (.tuple #[h.val,ad false]) k) (b_ e (af m 1) λd f g=>bA d f 0 3 λp=>iC e p λr=>a_ e (af l 0) 0 r.cells λj=>iC j (af l 0) λi=>j=j/\R (.tuple #[i.val,ad true]) j)):=by kernel_rfl
def uG (s1:Int) (s2:aX) (a:an) (b c:Nat) (d f:Int) (j:ar):ar:=ag j 0 1 (ab s1::.pointer (some s2)::ag j 1 25 (ae a b c::ab d::ab f::ag j 26 50 []))
def Hm (a:aX) (j:ar):ar:=ag j 0 2 (.pointer (some a)::ag j 2 78 [])
def xJ (s2:aX) (a:an) (b c:Nat) (d f:Int) (j:ar):ar:=ag j 0 2 (.pointer (some s2)::ag j 2 59 (ae a b c::ab d::ab f::ag j 61 16 []))
def Hn (a:aX) (j:ar):ar:=ag j 0 2 (.pointer (some a)::ag j 2 78 [])
theorem Io (m:c2):bf prog f166 [m.val,ab i] R w=(aS w m.cells.toArray 35 λl n=>dn 200 #[ab i] n λa j=>cond (!a) (R (ab 1) j) (bX j (af l 0) λb=>cond (b<0) (R (ab 2) j) (bX j (af l 0) λc=>cond (c>=16) (R (ab 2) j) (b_ j (af l 1) λd f g=>cond ((f:Int) == 0) (R (ab 1) j) (b_ j (af l 1) λh e k=>cG prog (c7 f166 [1,1,0,1,0,0]) (uG i (af l 0) h e k (e:Nat) 0 (m.val::undef::ab 0::bD 4 (ad (!a)::ab i::ad a::ad (!a)::ad (c>=16)::jp (af l 0)::ab b::ad (b<0)::ad false::jp (af l 0)::ab c::ad (c>=16)::ad (c>=16)::ad ((f:Int) == 0)::jp (af l 1)::ae d f g::eo f::ad ((f:Int) == 0)::jp (af l 1)::bD 50 []))) (aP 1 (aU f166 [1,1,1] R)) j))))):=by kernel_rfl
theorem VA (q:ar->aF):W prog (sb f166 [1,1,0,1,0,0]) (uG i A s a b k l j) (aZ q (aP 1 (aU f166 [1,1,1] R))) w=(cond (l<k) (bA s a l 3 λu=>iC w u λr=>aS w #[ab 0,ab 0,ad false] 116 λe x=>a_ x (af e 0) 0 r.cells λv=>cw v λf p=>cV p (af e 0) λg=>cond (g<0) (R (ab 1) f) (cV p (af e 0) λh=>cond (h>=i) (R (ab 1) f) (cond (l>0) (cV p (af e 0) λc=>e6 p (bY A 1) λt d m=>bA t d (i64.wrap (l - 1)) 3 λo=>cV p o λn=>cond (c<=n) (R (ab 1) f) (q (uG i A s a b k (i64.wrap (l+1)) (aO j 0::aO j 1::aO j 2::ab l::jp (af e 0)::ag j 5 21 (ad (l<k)::ab l::jp u::r.val::jp (af e 0)::ab g::ad (g<0)::ad false::jp (af e 0)::ab h::ab i::ad (h>=i)::ad (h>=i)::ad false::ab l::ad (l>0)::ad true::jp (af e 0)::ab c::bL A 1::ae t d m::ab l::ab (i64.wrap (l - 1))::jp o::jp o::ab n::ad (c<=n)::ad (c<=n)::ad (c<=n)::ab (i64.wrap (l+1))::ag j 56 20 []))) f)) (q (uG i A s a b k (i64.wrap (l+1)) (aO j 0::aO j 1::aO j 2::ab l::jp (af e 0)::ag j 5 21 (ad (l<k)::ab l::jp u::r.val::jp (af e 0)::ab g::ad (g<0)::ad false::jp (af e 0)::ab h::ab i::ad (h>=i)::ad (h>=i)::ad false::ab l::ad (l>0)::ad false::bD 10 (ad false::ad false::ab (i64.wrap (l+1))::ag j 56 20 [])))) f)))) (W prog (sb f166 [1,1,1]) (Hm A (aO j 0::ab i::ag j 1 25 (ae s a b::ab k::ab l::ad (l<k)::ag j 27 49 []))) (b7 f166 R) w)):=by kernel_rfl
theorem V8:W prog (sb f166 [1,1,1]) (Hm A j) (b7 f166 R) w=(b_ w (bY A 1) λb c d=>cG prog (c7 f166 [1,1,1,0,1,0,0]) (xJ A b c d (c:Nat) 0 (ag j 0 60 (bL A 1::ag j 64 16 []))) (aP 3 (aU f166 [1,1,1,1] R)) w):=by kernel_rfl
theorem VB (e:ar->aF):W prog (sb f166 [1,1,1,0,1,0,0]) (xJ A s a b i k j) (aZ e (aP 3 (aU f166 [1,1,1,1] R))) w=(cond (k<i) (bA s a k 3 λf=>iC w f λr=>aS w #[ab 0,ab 0,ad false] 116 λc l=>a_ l (af c 0) 0 r.cells λd=>bX d (af c 1) λg=>cond (g<1) (R (ab 2) d) (bX d (af c 1) λh=>cond (h>31) (R (ab 2) d) (e (xJ A s a b i (i64.wrap (k+1)) (ag j 0 7 (jp (af c 0)::ag j 8 53 (ad (k<i)::jp f::r.val::jp (af c 1)::ab g::ad (g<1)::ad false::jp (af c 1)::ab h::ad (h>31)::ad (h>31)::ab (i64.wrap (k+1))::ag j 73 4 [])))) d))) (W prog (sb f166 [1,1,1,1]) (Hn A (ag j 0 61 (ae s a b::ab i::ab k::ad (k<i)::ag j 62 15 []))) (b7 f166 R) w)):=by kernel_rfl
theorem V9:W prog (sb f166 [1,1,1,1]) (Hn A j) (b7 f166 R) w=(b_ w (bY A 1) λb c d=>dn 201 #[ae b c d,.func (.func 202) #[] #[]] w λf a=>cond (!f) (R (ab 13) a) (R (ab 0) a)):=by kernel_rfl
theorem W2:bf prog f200 [ab i] R w=(cond (i>=1) (R (ad (i<=5)) w) (R (ad false) w)):=by kernel_rfl
theorem RG:bf prog f201 [ae s a b,X] R w=(ct 234 #[ae s a b,X] w λc d=>R (ad (c>=0)) d):=by kernel_rfl
theorem Xc (c:a0):bf prog f202 [c.val] R w=(aS w c.cells.toArray 116 λd b=>kj b (af d 2) λa=>R (ad a) b):=by kernel_rfl
theorem W3 (j:c2):bf prog f216 [j.val] R w=(aS w j.cells.toArray 35 λl e=>b_ e (af l 1) λa b c=>cond ((b:Int) == 0) (R (a5) e) (b_ e (af l 1) λd f g=>hY d f g 1 (f:Nat) (g:Nat) 3 λn o m=>eZ 243 #[ae n o m] e λh i k p=>R (ae h i k) p)):=by kernel_rfl
def wR (c:an) (a b:Nat) (s1:a4) (d s8:Int) (j:ar):ar:=ae c a b::s1::ag j 0 5 (ab d::ab s8::ag j 5 10 [])
def FO  (j:ar):ar:=ag j 0 19 []
theorem RB:bf prog f234 [ae s a b,X] R w=(cG prog (c7 f234 [1,0,1,0,0]) (wR s a b X (a:Nat) 0 (bD 2 (ab 0::undef::ae s a b::bD 10 []))) (aP 0 (aU f234 [1,1] R)) w):=by kernel_rfl
theorem Ry (d:ar->aF):W prog (sb f234 [1,0,1,0,0]) (wR s a b X i k j) (aZ d (aP 0 (aU f234 [1,1] R))) w=(cond (k<i) (bA s a k 3 λg=>iC w g λr=>jk prog X #[r.val] w λe f=>∃ c,e=.returned (ad c)/\cond c (R (ab k) f) (d (wR s a b X i (i64.wrap (k+1)) [aO j 0,aO j 1,aO j 2,ab k,aO j 4,ad (k<i),ab k,X,ae s a b,ab k,jp g,r.val,ad c,aO j 13,ab (i64.wrap (k+1))]) f)) (W prog (sb f234 [1,1]) (FO  (ae s a b::X::ag j 0 5 (ab i::ab k::ad (k<i)::ag j 6 9 []))) (b7 f234 R) w)):=by kernel_rfl
theorem RA:W prog (sb f234 [1,1]) (FO  j) (b7 f234 R) w=(R (ab (-1)) w):=by kernel_rfl
theorem W4 (u:c2) (x:a0) (s:aG):bf prog f241 [u.val,x.val,ad F,s.val] R w=(aS w u.cells.toArray 35 λG C=>aS C x.cells.toArray 116 λt B=>aS B s.cells.toArray 158 λe a'=>aS a' #[ab 0,ab 0,ab 0,ab 0,ah 0,ah 0,a5,ah 0,ab 0] 158 λy H=>cw H λD j=>cV j (af t 0) λa=>cV j (af t 1) λb=>cP D (af e 1) (ab a) λA=>j A/\cP A (af e 8) (ab b) λz=>bX z (af G 0) λc=>hH 103 #[ab c,ad F] z λd f E=>cP E (af e 7) (ah d) λv=>b_ v (af e 6) λg h i=>eZ 73 #[ae g h i] v λk l m n=>cP n (af e 6) (ae k l m) λo=>l4 o (af e 0) λr=>a_ o (af y 0) 0 r.cells λp=>l4 p (af y 0) λq=>p=p/\R q.val p):=by kernel_rfl
end
section
abbrev eG:TypeId:=116
abbrev nu:TypeId:=35
abbrev z7:TypeId:=33
def gw (l:List a0):List ax:=l.map a0.cells
theorem JA (l:List a0) (m:a0):(gw (l++[m])).flatten=(gw l).flatten++m.cells:=by simp [gw]
structure jt where
 number:Int
 mem:List a0
def jW:a0:=⟨0,0,false⟩
def kk (n:Int) (l:List a0) (i:Nat):Bool:=
 decide (0<=(l.getD i jW).Node/\(l.getD i jW).Node<n) && (decide (i=0) || decide ((l.getD (i - 1) jW).Node<(l.getD i jW).Node))
def mS (m:a0):Bool:=decide (1<=m.cq/\m.cq<=31)
def jt.valid (v:jt) (n:Int):Int:=
 if ¬ (1<=n/\n<=5) then 1 else if v.number<0\/16<=v.number then 2 else if v.mem.length=0 then 1
 else if (List.range v.mem.length).all (kk n v.mem)=false then 1 else if v.mem.all mS=false then 2 else if v.mem.any a0.Full=false then 13 else 0
structure gp (M:a6) (w:ak) (r:c2) (v:jt):Prop where
 num:r.Number=v.number
 len:r.eW=v.mem.length
 cap:r.eW<=r.fQ
 rd:bk w r.fh (gw v.mem).flatten
 off:(gw v.mem).flatten=[]\/gA M r.fh
 small:v.mem.length<=1000000
theorem gp.new {M:a6} {w w':ak} {r:c2} {v:jt} (h:gp M w r v) (a:ai w w'):gp M w' r v:=⟨h.num,h.len,h.cap,h.rd.new a,h.off,h.small⟩
theorem KF (w:ak) (n:Int):bb 200 [.int .i64 n] w λv w'=>v=.bool (decide (1<=n/\n<=5))/\w'=w:=by
 refine bd Tryz.func200 ?_;rw [W2];refine bc (λh=>⟨?_,rfl⟩) (λh=>⟨?_,rfl⟩)
 ·congr 1;simp;omega
 ·congr 1;simp;omega
theorem L0 (w:ak) (m:a0):bb 202 [m.val] w λv w'=>v=.bool m.Full/\ai w w':=by refine bd Tryz.func202 ?_;rw [Xc];rintro b1 w1 a b;obtain ⟨au,c⟩:=bl a b;exact ⟨_,au.cell rfl,rfl,c⟩
theorem Pd:iA prog 202=true:=by kernel_rfl
section
attribute [local irreducible] iA jk m0
theorem I8 {l:List a0} (h:bk w a (gw l).flatten) (t:l.length<=1000000) :
  bb 234 [.slice a l.length c,.func (.func 202) #[] #[]] w λv w'=>∃ z:Int,v=.int .i64 z/\(decide (z>=0)=l.any a0.Full)/\ai w w':=by
 refine bd Tryz.func234 ?_;rw [RB];refine c8 mix (λm env u=>∃ (i:Nat) (n:ax),m=l.length - i/\i<=l.length/\env=wR a l.length c (.func (.func 202) #[] #[]) l.length i n/\ai w u/\(l.take i).any a0.Full=false) l.length
  ⟨0,_,by omega,by omega,rfl,ao.refl _ _,rfl⟩ ?_
 rintro m env u ⟨i,n,rfl,s,rfl,g,d⟩;rw [Ry];refine bc (λr=>?_) (λr=>?_)
 ·have e:i<l.length:=by omega
  have k:l[i]?=some l[i]:=bE e;refine eI (cells:=a0.cells) a0.len (by omega) (h.new g) k rfl rfl λb o q _=>a0.aT l[i] ⟨q,?_⟩
  refine q4 Pd (xs:=#[l[i].val]) (by simp) ?_;refine aD (L0 _ l[i]) ?_;rintro v bG ⟨rfl,f⟩;refine ⟨_,rfl,f' (λj=>⟨i,rfl,?_,g.new f⟩) (λj=>?_)⟩
  ·have p:l.any a0.Full=true:=qa.2 ⟨l[i],kY e,j⟩;rw [p];simp
  ·rw [bH (by omega) (by omega)];refine ⟨l.length - (i+1),by omega,i+1,_,rfl,by omega,rfl,g.new f,?_⟩;rw [ff,k,List.any_append,d];simpa using j
 ·rw [RA];have:l.take i=l:=h1 (by omega);rw [this] at d;exact ⟨-1,rfl,by rw [d];decide,g⟩
end
theorem Xd {l:List a0} (h:bk w a (gw l).flatten) (b:l.length<=1000000) :
  bb 201 [.slice a l.length c,.func (.func 202) #[] #[]] w λv w'=>v=.bool (l.any a0.Full)/\ai w w':=by
 refine bd Tryz.func201 ?_;rw [RG];refine aD (I8 h b) ?_;rintro v w1 ⟨z,rfl,au,d⟩;exact ⟨_,rfl,by rw [au],d⟩
theorem xV {p:Nat->Bool} {n:Nat} (a:i<n) (h:p i=false):(List.range n).all p=false:=by rw [yJ];exact ⟨i,fs.2 a,by simp [h]⟩
theorem oL {α:Type} {l:List α} {x d:α} (h:l[i]?=some x):l.getD i d=x:=by rw [dq,h];rfl
theorem Di {M:a6} {r:c2} {v:jt} (h:gp M w r v) (n:Int):bb 166 [r.val,.int .i64 n] w λx w'=>x=.int .i64 (v.valid n)/\ai w w':=by
 refine bd Tryz.func166 ?_;rw [Io];rintro b1 w1 T P;obtain ⟨au,g⟩:=bl T P;have au:av w1 b1 r.cells nu:=au;clear P;have Xw:=h.small;have hlen:=h.len;have Xy:=h.num;unfold jt.valid;refine aD (KF _ n) ?_;rintro x XA ⟨rfl,rfl⟩;refine ⟨_,rfl,ev (λS=>?_) (λS=>?_)⟩
 ·rw [if_pos (by simpa using S)];exact ⟨rfl,g⟩
 have N:1<=n/\n<=5:=by simpa using S
 rw [if_neg (λe=>e N)];refine ⟨_,au.cell rfl,bc (λXC=>?_) (λXC=>⟨_,au.cell rfl,bc (λY=>?_) (λY=>?_)⟩)⟩
 ·rw [if_pos (by omega)];exact ⟨rfl,g⟩
 ·rw [if_pos (by omega)];exact ⟨rfl,g⟩
 rw [if_neg (by omega)];refine ⟨_,_,_,au.cell rfl,d' (λXB=>?_) (λXB=>⟨_,_,_,au.cell rfl,?_⟩)⟩
 ·rw [if_pos (by omega)];exact ⟨rfl,g⟩
 rw [if_neg (by omega)];refine c8 mix (λm env u=>∃ (i:Nat) (Q:ax),m=v.mem.length - i/\i<=v.mem.length/\env=uG n ⟨b1,0,none⟩ r.fh r.eW r.fQ r.eW i Q/\ai XA u/\∀ k,k<i->kk n v.mem k=true) v.mem.length
  ⟨0,_,by omega,by omega,rfl,ao.refl _ _,λk t=>by omega⟩ ?_
 rintro m env u ⟨i,Q,rfl,Xx,rfl,a,f⟩;rw [VA];refine bc (λR=>?_) (λR=>?_)
 ·have p:i<v.mem.length:=by omega
  have K:v.mem[i]?=some v.mem[i]:=bE p;have l:=oL (d:=jW) K;have j:kk n v.mem i=false->(List.range v.mem.length).all (kk n v.mem)=false:=xV p;refine eI (cells:=a0.cells) a0.len (by omega) ((h.rd.new g).new a) K rfl hlen λb o V _=>a0.aT v.mem[i] ⟨V,?_⟩
  refine ec (vs:=v.mem[i].cells) rfl (a0.single _) λaB Xz U B E=>?_
  rintro bq O;have q:ai Xz bq:=by rw [O];exact cK _
  clear O;have I:=ai.aj q B;have c:=(a.new E).new q;refine ⟨λy=>ai bq y,ao.refl _ _,_,λy A=>(ai.aj A I).cell (i:=0) rfl,bc (λF=>?_) (λF=>⟨_,λy A=>(ai.aj A I).cell (i:=0) rfl,bc (λG=>?_) (λG=>bc (λZ=>?_) (λZ=>?_))⟩)⟩
  ·rw [if_pos (j (by unfold kk;rw [l];simp;omega))];exact ⟨rfl,g.new c⟩
  ·rw [if_pos (j (by unfold kk;rw [l];simp;omega))];exact ⟨rfl,g.new c⟩
  ·have L:v.mem[i - 1]?=some v.mem[i - 1]:=bE (by omega);have D:=oL (d:=jW) L;refine ⟨_,λy A=>(ai.aj A I).cell (i:=0) rfl,_,_,_,λy A=>(ai.aj (c.new A) au).cell (i:=1) rfl,?_⟩;refine jj (cells:=a0.cells) a0.len (by omega) ((h.rd.new g).new c) L (by rw [bH (by omega) (by omega)];omega) hlen λb' XD W=>⟨_,λy A=>W y A 0 _ rfl,bc (λXv=>?_) (λXv=>?_)⟩
   ·rw [if_pos (j (by unfold kk;rw [l,D];simp;omega))];exact ⟨rfl,g.new c⟩
   ·rw [bH (by omega) (by omega)];refine ⟨v.mem.length - (i+1),by omega,i+1,_,rfl,by omega,rfl,c,λk t=>?_⟩;rcases p9.1 t with t | rfl
    ·exact f k t
    ·unfold kk;rw [l,D];simp;omega
  ·rw [bH (by omega) (by omega)];refine ⟨v.mem.length - (i+1),by omega,i+1,_,rfl,by omega,rfl,c,λk t=>?_⟩;rcases p9.1 t with t | rfl
   ·exact f k t
   ·unfold kk;rw [l];simp;omega
 have J:(List.range v.mem.length).all (kk n v.mem)=true:=by rw [fE];intro k t;exact f k (by have:=fs.1 t;omega)
 rw [if_neg (by rw [J];simp)];rw [V8];have C:=ai.aj a au;refine ⟨_,_,_,C.cell (i:=1) rfl,?_⟩;refine c8 mix (λm env z=>∃ (i:Nat) (Q:ax),m=v.mem.length - i/\i<=v.mem.length/\env=xJ ⟨b1,0,none⟩ r.fh r.eW r.fQ r.eW i Q/\ai XA z/\(v.mem.take i).all mS=true) v.mem.length
  ⟨0,_,by omega,by omega,rfl,a,rfl⟩ ?_
 clear C a f Xx R;rintro m env u ⟨i,Q,rfl,Xx,rfl,a,f⟩;rw [VB];refine bc (λR=>?_) (λR=>?_)
 ·have p:i<v.mem.length:=by omega
  have K:v.mem[i]?=some v.mem[i]:=bE p;have j:mS v.mem[i]=false->v.mem.all mS=false:=λe=>by rw [yJ];exact ⟨v.mem[i],kY p,by simp [e]⟩
  refine eI (cells:=a0.cells) a0.len (by omega) ((h.rd.new g).new a) K rfl hlen λb o V _=>a0.aT v.mem[i] ⟨V,?_⟩
  refine ec (vs:=v.mem[i].cells) rfl (a0.single _) λaB Xz U B E=>?_
  have s:=a.new E;refine ⟨_,B.cell (i:=1) rfl,bc (λF=>?_) (λF=>⟨_,B.cell (i:=1) rfl,bc (λG=>?_) (λG=>?_)⟩)⟩
  ·rw [if_pos (j (by unfold mS;simp;omega))];exact ⟨rfl,g.new s⟩
  ·rw [if_pos (j (by unfold mS;simp;omega))];exact ⟨rfl,g.new s⟩
  ·rw [bH (by omega) (by omega)];refine ⟨v.mem.length - (i+1),by omega,i+1,_,rfl,by omega,rfl,s,?_⟩;rw [ff,K,List.all_append,f];simp [mS];omega
 have H:v.mem.take i=v.mem:=h1 (by omega);rw [H] at f;rw [if_neg (by rw [f];simp)];rw [V9];have C:=ai.aj a au;refine ⟨_,_,_,C.cell (i:=1) rfl,?_⟩;rw [hlen];refine aD (Xd ((h.rd.new g).new a) Xw) ?_;rintro x bq ⟨rfl,q⟩;refine ⟨_,rfl,ev (λX=>?_) (λX=>?_)⟩
 ·rw [if_pos X];exact ⟨rfl,g.new (a.new q)⟩
 ·rw [if_neg (by rw [X];simp)];exact ⟨rfl,g.new (a.new q)⟩
end
end Go.Proofs.YtmkljjbioomepaaGreat
