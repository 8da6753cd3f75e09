import Derived.Test.YtmkljjbioomepaaGreatb02
import Derived.Test.YtmkljjbioomepaaGreatProg
set_option linter.all false
namespace Go.Proofs.YtmkljjbioomepaaGreat
open Go.Proofs.Tryz Go.bu
section
structure bO where
 Code:Int
 Words:an
 cK:Nat
 cD:Nat
def bO.cells (r:bO):ax:=[.int .i64 r.Code,.slice r.Words r.cK r.cD]
def bO.val (r:bO):a2:=.agg r.cells.toArray
def bO.ex (K:bO->Prop):Prop:=∃ (d:Int) (c:an) (b:Nat) (a:Nat),K ⟨d,c,b,a⟩
theorem bO.aR {K:bO->Prop} (r:bO) (h:K r):bO.ex K:=⟨_,_,_,_,h⟩
theorem bO.len (r:bO):r.cells.length=2:=rfl
theorem bO.single (r:bO):∀ u ∈ r.cells,single u=true:=by intro u hu;simp only [bO.cells,e6,lp,or_false] at hu;rcases hu with rfl | rfl<;>rfl
structure aG where
 Kind:Int
 Node:Int
 bX:Int
 N:Int
 Old:Int
 ai:Int
 Words:an
 cK:Nat
 cD:Nat
 Key:Int
 cn:Int
def aG.cells (r:aG):ax:=[.int .i64 r.Kind,.int .i64 r.Node,.int .i64 r.bX,.int .i64 r.N,.int .u64 r.Old,.int .u64 r.ai,.slice r.Words r.cK r.cD,.int .u64 r.Key,.int .i64 r.cn]
def aG.val (r:aG):a2:=.agg r.cells.toArray
def aG.ex (K:aG->Prop):Prop:=∃ (e:Int) (f:Int) (j:Int) (k:Int) (i:Int) (h:Int) (c:an) (b:Nat) (a:Nat) (g:Int) (d:Int),K ⟨e,f,j,k,i,h,c,b,a,g,d⟩
theorem aG.aR {K:aG->Prop} (r:aG) (h:K r):aG.ex K:=⟨_,_,_,_,_,_,_,_,_,_,_,h⟩
theorem aG.len (r:aG):r.cells.length=9:=rfl
theorem aG.single (r:aG):∀ u ∈ r.cells,single u=true:=by intro u hu;simp only [aG.cells,e6,lp,or_false] at hu;rcases hu with rfl | rfl | rfl | rfl | rfl | rfl | rfl | rfl | rfl<;>rfl
structure ox where
 oa:Int
def ox.cells (r:ox):ax:=[.int .i64 r.oa]
def ox.val (r:ox):a2:=.agg r.cells.toArray
def ox.ex (K:ox->Prop):Prop:=∃ (a:Int),K ⟨a⟩
structure oz where
 oa:Int
 Number:Int
 Client:Int
 Round:Int
 nf:Int
def oz.cells (r:oz):ax:=[.int .i64 r.oa,.int .i64 r.Number,.int .i64 r.Client,.int .i64 r.Round,.int .u64 r.nf]
def oz.val (r:oz):a2:=.agg r.cells.toArray
def oz.ex (K:oz->Prop):Prop:=∃ (c:Int) (b:Int) (a:Int) (d:Int) (e:Int),K ⟨c,b,a,d,e⟩
structure c3 where
 Number:Int
 ed:an
 ei:Nat
 eA:Nat
def c3.cells (r:c3):ax:=[.int .i64 r.Number,.slice r.ed r.ei r.eA]
def c3.val (r:c3):a2:=.agg r.cells.toArray
def c3.ex (K:c3->Prop):Prop:=∃ (d:Int) (c:an) (b:Nat) (a:Nat),K ⟨d,c,b,a⟩
theorem c3.aR {K:c3->Prop} (r:c3) (h:K r):c3.ex K:=⟨_,_,_,_,h⟩
theorem c3.single (r:c3):∀ u ∈ r.cells,single u=true:=by intro u hu;simp only [c3.cells,e6,lp,or_false] at hu;rcases hu with rfl | rfl<;>rfl
structure dv where
 Client:Int
 Seq:Int
 gw:Int
 View:c3
 Reads:an
 jX:Nat
 m8:Nat
 eu:an
 dO:Nat
 gX:Nat
def dv.cells (r:dv):ax:=[.int .i64 r.Client,.int .i64 r.Seq,.int .i64 r.gw,.int .i64 r.View.Number,.slice r.View.ed r.View.ei r.View.eA,.slice r.Reads r.jX r.m8,.slice r.eu r.dO r.gX]
def dv.val (r:dv):a2:=.agg r.cells.toArray
def dv.ex (K:dv->Prop):Prop:=∃ (i:Int) (n:Int) (k:Int) (d:Int) (c:an) (b:Nat) (a:Nat) (l:an) (h:Nat) (g:Nat) (j:an) (f:Nat) (e:Nat),K ⟨i,n,k,⟨d,c,b,a⟩,l,h,g,j,f,e⟩
theorem dv.aR {K:dv->Prop} (r:dv) (h:K r):dv.ex K:=⟨_,_,_,_,_,_,_,_,_,_,_,_,_,h⟩
theorem dv.single (r:dv):∀ u ∈ r.cells,single u=true:=by intro u hu;simp only [dv.cells,e6,lp,or_false] at hu;rcases hu with rfl | rfl | rfl | rfl | rfl | rfl | rfl<;>rfl
structure dt where
 Client:Int
 hy:Int
 gw:Int
 View:c3
 eO:Int
 fv:Int
 g8:Int
def dt.cells (r:dt):ax:=[.int .i64 r.Client,.int .i64 r.hy,.int .i64 r.gw,.int .i64 r.View.Number,.slice r.View.ed r.View.ei r.View.eA,.int .i64 r.eO,.int .i64 r.fv,.int .u64 r.g8]
def dt.val (r:dt):a2:=.agg r.cells.toArray
def dt.ex (K:dt->Prop):Prop:=∃ (e:Int) (j:Int) (f:Int) (d:Int) (c:an) (b:Nat) (a:Nat) (g:Int) (h:Int) (i:Int),K ⟨e,j,f,⟨d,c,b,a⟩,g,h,i⟩
theorem dt.aR {K:dt->Prop} (r:dt) (h:K r):dt.ex K:=⟨_,_,_,_,_,_,_,_,_,_,h⟩
structure cj where
 Kind:Int
 Client:Int
 yZ:ox
 jW:oz
 en:dv
 Recover:dt
 ql:an
 o8:Nat
 tJ:Nat
 kT:Bool
 lB:Bool
 Code:Int
 View:c3
 Status:Int
 Doors:an
 tG:Nat
 qg:Nat
 nf:Int
 n7:Int
 jZ:Int
 Seq:Int
 jV:Int
def cj.cells (r:cj):ax:=[.int .i64 r.Kind,.int .i64 r.Client,.int .i64 r.yZ.oa,.int .i64 r.jW.oa,.int .i64 r.jW.Number,.int .i64 r.jW.Client,.int .i64 r.jW.Round,.int .u64 r.jW.nf,.int .i64 r.en.Client,.int .i64 r.en.Seq,.int .i64 r.en.gw,.int .i64 r.en.View.Number,.slice r.en.View.ed r.en.View.ei r.en.View.eA,.slice r.en.Reads r.en.jX r.en.m8,.slice r.en.eu r.en.dO r.en.gX,.int .i64 r.Recover.Client,.int .i64 r.Recover.hy,.int .i64 r.Recover.gw,.int .i64 r.Recover.View.Number,.slice r.Recover.View.ed r.Recover.View.ei r.Recover.View.eA,.int .i64 r.Recover.eO,.int .i64 r.Recover.fv,.int .u64 r.Recover.g8,.slice r.ql r.o8 r.tJ,.bool r.kT,.bool r.lB,.int .i64 r.Code,.int .i64 r.View.Number,.slice r.View.ed r.View.ei r.View.eA,.int .i64 r.Status,.slice r.Doors r.tG r.qg,.int .u64 r.nf,.int .i64 r.n7,.int .i64 r.jZ,.int .i64 r.Seq,.int .i64 r.jV]
def cj.val (r:cj):a2:=.agg r.cells.toArray
def cj.ex (K:cj->Prop):Prop:=∃ (V:Int) (O:Int) (n:Int) (D:Int) (y:Int) (x:Int) (E:Int) (I:Int) (r:Int) (H:Int) (u:Int) (h:Int) (f:an) (d:Nat) (c:Nat) (w:an) (l:Nat) (k:Nat) (s:an) (j:Nat) (i:Nat) (o:Int) (F:Int) (t:Int) (g:Int) (e:an) (b:Nat) (a:Nat) (z:Int) (A:Int) (B:Int) (Y:an) (S:Nat) (R:Nat) (W:Bool) (X:Bool) (T:Int) (G:Int) (C:an) (q:Nat) (p:Nat) (P:Int) (Q:an) (L:Nat) (J:Nat) (V2:Int) (U:Int) (N:Int) (Z:Int) (M:Int),K ⟨V,O,⟨n⟩,⟨D,y,x,E,I⟩,⟨r,H,u,⟨h,f,d,c⟩,w,l,k,s,j,i⟩,⟨o,F,t,⟨g,e,b,a⟩,z,A,B⟩,Y,S,R,W,X,T,⟨G,C,q,p⟩,P,Q,L,J,V2,U,N,Z,M⟩
theorem cj.aR {K:cj->Prop} (r:cj) (h:K r):cj.ex K:=⟨_,_,_,_,_,_,_,_,_,_,_,_,_,_,_,_,_,_,_,_,_,_,_,_,_,_,_,_,_,_,_,_,_,_,_,_,_,_,_,_,_,_,_,_,_,_,_,_,_,_,h⟩
theorem cj.len (r:cj):r.cells.length=36:=rfl
theorem cj.single (r:cj):∀ u ∈ r.cells,single u=true:=by intro u hu;simp only [cj.cells,e6,lp,or_false] at hu;rcases hu with rfl | rfl | rfl | rfl | rfl | rfl | rfl | rfl | rfl | rfl | rfl | rfl | rfl | rfl | rfl | rfl | rfl | rfl | rfl | rfl | rfl | rfl | rfl | rfl | rfl | rfl | rfl | rfl | rfl | rfl | rfl | rfl | rfl | rfl | rfl | rfl<;>rfl
structure aK where
 bo:Int
 Head:Int
 vJ:Int
 Ci:Int
 Cj:Int
 Ck:Int
 Cl:Int
 Cm:Int
 Cn:Int
def aK.cells (r:aK):ax:=[.int .i64 r.bo,.int .u64 r.Head,.int .u64 r.vJ,.int .u64 r.Ci,.int .u64 r.Cj,.int .u64 r.Ck,.int .u64 r.Cl,.int .u64 r.Cm,.int .u64 r.Cn]
def aK.val (r:aK):a2:=.agg r.cells.toArray
def aK.ex (K:aK->Prop):Prop:=∃ (i:Int) (h:Int) (a:Int) (b:Int) (c:Int) (d:Int) (e:Int) (f:Int) (g:Int),K ⟨i,h,a,b,c,d,e,f,g⟩
theorem aK.aR {K:aK->Prop} (r:aK) (h:K r):aK.ex K:=⟨_,_,_,_,_,_,_,_,_,h⟩
theorem aK.len (r:aK):r.cells.length=9:=rfl
theorem aK.single (r:aK):∀ u ∈ r.cells,single u=true:=by intro u hu;simp only [aK.cells,e6,lp,or_false] at hu;rcases hu with rfl | rfl | rfl | rfl | rfl | rfl | rfl | rfl | rfl<;>rfl
structure pn where
 bX:Int
 Kind:Int
 A:Int
def pn.cells (r:pn):ax:=[.int .i64 r.bX,.int .i64 r.Kind,.int .i64 r.A]
def pn.val (r:pn):a2:=.agg r.cells.toArray
def pn.ex (K:pn->Prop):Prop:=∃ (b:Int) (a:Int) (c:Int),K ⟨b,a,c⟩
structure iy where
 OP:Int
 Client:Int
 Node:Int
def iy.cells (r:iy):ax:=[.int .i64 r.OP,.int .i64 r.Client,.int .i64 r.Node]
def iy.val (r:iy):a2:=.agg r.cells.toArray
def iy.ex (K:iy->Prop):Prop:=∃ (b:Int) (a:Int) (c:Int),K ⟨b,a,c⟩
theorem iy.aR {K:iy->Prop} (r:iy) (h:K r):iy.ex K:=⟨_,_,_,h⟩
theorem iy.len (r:iy):r.cells.length=3:=rfl
structure aY where
 Node:Int
 cn:Int
 Full:Bool
def aY.cells (r:aY):ax:=[.int .i64 r.Node,.int .i64 r.cn,.bool r.Full]
def aY.val (r:aY):a2:=.agg r.cells.toArray
def aY.ex (K:aY->Prop):Prop:=∃ (c:Int) (a:Int) (b:Bool),K ⟨c,a,b⟩
theorem aY.aR {K:aY->Prop} (r:aY) (h:K r):aY.ex K:=⟨_,_,_,h⟩
theorem aY.len (r:aY):r.cells.length=3:=rfl
theorem aY.single (r:aY):∀ u ∈ r.cells,single u=true:=by intro u hu;simp only [aY.cells,e6,lp,or_false] at hu;rcases hu with rfl | rfl | rfl<;>rfl
structure qF where
 Code:Int
 Number:Int
 View:c3
 Status:Int
 ON:Bool
 Hint:Int
 H3:an
 H5:Nat
 H4:Nat
 Keys:an
 LZ:Nat
 LY:Nat
 Doors:an
 tG:Nat
 qg:Nat
def qF.cells (r:qF):ax:=[.int .i64 r.Code,.int .i64 r.Number,.int .i64 r.View.Number,.slice r.View.ed r.View.ei r.View.eA,.int .i64 r.Status,.bool r.ON,.int .u64 r.Hint,.slice r.H3 r.H5 r.H4,.slice r.Keys r.LZ r.LY,.slice r.Doors r.tG r.qg]
def qF.val (r:qF):a2:=.agg r.cells.toArray
def qF.ex (K:qF->Prop):Prop:=∃ (q:Int) (k:Int) (d:Int) (c:an) (b:Nat) (a:Nat) (n:Int) (l:Bool) (r:Int) (o:an) (f:Nat) (e:Nat) (s:an) (j:Nat) (i:Nat) (p:an) (h:Nat) (g:Nat),K ⟨q,k,⟨d,c,b,a⟩,n,l,r,o,f,e,s,j,i,p,h,g⟩
structure qN where
 Code:Int
 nf:Int
 Round:Int
def qN.cells (r:qN):ax:=[.int .i64 r.Code,.int .u64 r.nf,.int .i64 r.Round]
def qN.val (r:qN):a2:=.agg r.cells.toArray
def qN.ex (K:qN->Prop):Prop:=∃ (b:Int) (c:Int) (a:Int),K ⟨b,c,a⟩
structure bA where
 Code:Int
 n7:Int
def bA.cells (r:bA):ax:=[.int .i64 r.Code,.int .i64 r.n7]
def bA.val (r:bA):a2:=.agg r.cells.toArray
def bA.ex (K:bA->Prop):Prop:=∃ (a:Int) (b:Int),K ⟨a,b⟩
theorem bA.aR {K:bA->Prop} (r:bA) (h:K r):bA.ex K:=⟨_,_,h⟩
theorem bA.single (r:bA):∀ u ∈ r.cells,single u=true:=by intro u hu;simp only [bA.cells,e6,lp,or_false] at hu;rcases hu with rfl | rfl<;>rfl
structure dA where
 Code:Int
 jZ:Int
 Seq:Int
 jV:Int
 Kc:Int
def dA.cells (r:dA):ax:=[.int .i64 r.Code,.int .i64 r.jZ,.int .i64 r.Seq,.int .i64 r.jV,.int .u64 r.Kc]
def dA.val (r:dA):a2:=.agg r.cells.toArray
def dA.ex (K:dA->Prop):Prop:=∃ (d:Int) (b:Int) (e:Int) (a:Int) (c:Int),K ⟨d,b,e,a,c⟩
theorem dA.aR {K:dA->Prop} (r:dA) (h:K r):dA.ex K:=⟨_,_,_,_,_,h⟩
theorem dA.single (r:dA):∀ u ∈ r.cells,single u=true:=by intro u hu;simp only [dA.cells,e6,lp,or_false] at hu;rcases hu with rfl | rfl | rfl | rfl | rfl<;>rfl
structure iz where
 l:bd
def iz.cells (r:iz):ax:=r.l.map λx=>.int .u64 x
def iz.val (r:iz):a2:=.agg r.cells.toArray
def iz.ex (K:iz->Prop):Prop:=Fi 256 λl=>K ⟨l⟩
theorem iz.aR {K:iz->Prop} (r:iz) (a:r.l.length=256) (h:K r):iz.ex K:=Ea 256 r.l a h
structure bY where
 Seq:Int
 eu:an
 dO:Nat
 gX:Nat
def bY.cells (r:bY):ax:=[.int .i64 r.Seq,.slice r.eu r.dO r.gX]
def bY.val (r:bY):a2:=.agg r.cells.toArray
def bY.ex (K:bY->Prop):Prop:=∃ (d:Int) (c:an) (b:Nat) (a:Nat),K ⟨d,c,b,a⟩
theorem bY.aR {K:bY->Prop} (r:bY) (h:K r):bY.ex K:=⟨_,_,_,_,h⟩
theorem bY.single (r:bY):∀ u ∈ r.cells,single u=true:=by intro u hu;simp only [bY.cells,e6,lp,or_false] at hu;rcases hu with rfl | rfl<;>rfl
structure eQ where
 bo:Int
 Head:Int
def eQ.cells (r:eQ):ax:=[.int .i64 r.bo,.int .u64 r.Head]
def eQ.val (r:eQ):a2:=.agg r.cells.toArray
def eQ.ex (K:eQ->Prop):Prop:=∃ (b:Int) (a:Int),K ⟨b,a⟩
theorem eQ.aR {K:eQ->Prop} (r:eQ) (h:K r):eQ.ex K:=⟨_,_,h⟩
theorem eQ.len (r:eQ):r.cells.length=2:=rfl
theorem eQ.single (r:eQ):∀ u ∈ r.cells,single u=true:=by intro u hu;simp only [eQ.cells,e6,lp,or_false] at hu;rcases hu with rfl | rfl<;>rfl
structure da where
 a1:Int
 least:Int
 exact:Bool
def da.cells (r:da):ax:=[.int .i64 r.a1,.int .u64 r.least,.bool r.exact]
def da.val (r:da):a2:=.agg r.cells.toArray
def da.ex (K:da->Prop):Prop:=∃ (a:Int) (c:Int) (b:Bool),K ⟨a,c,b⟩
theorem da.aR {K:da->Prop} (r:da) (h:K r):da.ex K:=⟨_,_,_,h⟩
theorem da.len (r:da):r.cells.length=3:=rfl
theorem da.single (r:da):∀ u ∈ r.cells,single u=true:=by intro u hu;simp only [da.cells,e6,lp,or_false] at hu;rcases hu with rfl | rfl | rfl<;>rfl
abbrev mB (n:Nat) (l:Array a2) (w:ak) (K:an->aE):Prop:=Calls prog n l w λe w1=>∃ (v0:an),e=.returned (.pointer v0)/\K v0 w1
abbrev sE (n:Nat) (l:Array a2) (w:ak) (K:an->Nat->Nat->Int->aE):Prop:=Calls prog n l w λe w1=>∃ (v0:an) (v1:Nat) (v2:Nat) (a:Int),e=.returned (.tuple #[.slice v0 v1 v2,.int .i64 a])/\K v0 v1 v2 a w1
abbrev dr (w:ak) (a:aS) (K:Int->Prop):Prop:=∃ (v0:Int),w.cell? a=some (.int .u64 v0)/\K v0
abbrev Ar (n:Nat) (l:Array a2) (w:ak) (K:an->Int->aE):Prop:=Calls prog n l w λe w1=>∃ (v0:an) (v1:Int),e=.returned (.tuple #[.pointer v0,.int .i64 v1])/\K v0 v1 w1
abbrev cm (n:Nat) (l:Array a2) (w:ak) (K:Int->aE):Prop:=Calls prog n l w λe w1=>∃ (v0:Int),e=.returned (.int .i64 v0)/\K v0 w1
abbrev bS (w:ak) (a:aS) (K:Int->Prop):Prop:=∃ (v0:Int),w.cell? a=some (.int .i64 v0)/\K v0
abbrev de (n:Nat) (l:Array a2) (w:ak) (K:Bool->aE):Prop:=Calls prog n l w λe w1=>∃ (v0:Bool),e=.returned (.bool v0)/\K v0 w1
abbrev cN (S:aE) (a:aS) (K:Int->Prop):Prop:=∃ (v0:Int),(∀ u,S u->u.cell? a=some (.int .i64 v0))/\K v0
abbrev uO (n:Nat) (l:Array a2) (w:ak) (K:aE):Prop:=Calls prog n l w λe w1=>e=.returned (.tuple #[])/\K  w1
abbrev eE (n:Nat) (l:Array a2) (w:ak) (K:an->Nat->Nat->aE):Prop:=Calls prog n l w λe w1=>∃ (v0:an) (v1:Nat) (v2:Nat),e=.returned (.slice v0 v1 v2)/\K v0 v1 v2 w1
abbrev Gn (w:ak) (a:aS) (K:Int->Int->Int->Prop):Prop:=∃ (v0:Int) (v1:Int) (v2:Int),b6 w a 0 [.int .i64 v0,.int .i64 v1,.int .i64 v2]/\K v0 v1 v2
abbrev b5 (w:ak) (a:aS) (K:an->Nat->a3):Prop:=∃ (v0:an) (v1:Nat) (v2:Nat),w.cell? a=some (.slice v0 v1 v2)/\K v0 v1 v2
abbrev e5 (S:aE) (a:aS) (K:an->Nat->a3):Prop:=∃ (v0:an) (v1:Nat) (v2:Nat),(∀ u,S u->u.cell? a=some (.slice v0 v1 v2))/\K v0 v1 v2
abbrev jo (w:ak) (a:aS) (K:Bool->Prop):Prop:=∃ (v0:Bool),w.cell? a=some (.bool v0)/\K v0
abbrev jq (n:Nat) (l:Array a2) (w:ak) (K:Int->aE):Prop:=Calls prog n l w λe w1=>∃ (v0:Int),e=.returned (.int .u64 v0)/\K v0 w1
abbrev uL (w:ak) (a:aS) (K:Int->an->Nat->a3):Prop:=∃ (v0:Int) (v1:an) (v2:Nat) (b:Nat),b6 w a 0 [.int .i64 v0,.slice v1 v2 b]/\K v0 v1 v2 b
abbrev jr (w:ak) (a:aS) (K:Int->Int->Int->Int->Int->Int->an->Nat->Nat->Int->Int->Prop):Prop:=∃ (v0:Int) (v1:Int) (v2:Int) (b:Int) (v4:Int) (c:Int) (v6:an) (d:Nat) (e:Nat) (f:Int) (v10:Int),b6 w a 0 [.int .i64 v0,.int .i64 v1,.int .i64 v2,.int .i64 b,.int .u64 v4,.int .u64 c,.slice v6 d e,.int .u64 f,.int .i64 v10]/\K v0 v1 v2 b v4 c v6 d e f v10
abbrev mC (S:aE) (a:aS) (K:Int->Int->Int->Int->Int->Int->an->Nat->Nat->Int->Int->Prop):Prop:=∃ (v0:Int) (v1:Int) (v2:Int) (b:Int) (v4:Int) (c:Int) (v6:an) (d:Nat) (e:Nat) (f:Int) (v10:Int),(∀ u,S u->b6 u a 0 [.int .i64 v0,.int .i64 v1,.int .i64 v2,.int .i64 b,.int .u64 v4,.int .u64 c,.slice v6 d e,.int .u64 f,.int .i64 v10])/\K v0 v1 v2 b v4 c v6 d e f v10
abbrev SX (S:aE) (a:aS) (K:Int->Int->Prop):Prop:=∃ (v0:Int) (v1:Int),(∀ u,S u->b6 u a 0 [.int .i64 v0,.int .i64 v1])/\K v0 v1
abbrev ht (n:Nat) (l:Array a2) (w:ak) (K:Int->Int->aE):Prop:=Calls prog n l w λe w1=>∃ (v0:Int) (v1:Int),e=.returned (.tuple #[.int .u64 v0,.int .i64 v1])/\K v0 v1 w1
abbrev Gp (n:Nat) (l:Array a2) (w:ak) (K:Int->Int->aE):Prop:=Calls prog n l w λe w1=>∃ (v0:Int) (v1:Int),e=.returned (.tuple #[.int .i64 v0,.int .i64 v1])/\K v0 v1 w1
abbrev SY (n:Nat) (l:Array a2) (w:ak) (K:Int->Int->Int->Int->Int->Int->an->Nat->Nat->Int->Int->aE):Prop:=Calls prog n l w λe w1=>∃ (v0:Int) (v1:Int) (v2:Int) (a:Int) (v4:Int) (b:Int) (v6:an) (c:Nat) (d:Nat) (f:Int) (v10:Int),e=.returned (.agg #[.int .i64 v0,.int .i64 v1,.int .i64 v2,.int .i64 a,.int .u64 v4,.int .u64 b,.slice v6 c d,.int .u64 f,.int .i64 v10])/\K v0 v1 v2 a v4 b v6 c d f v10 w1
abbrev Aq (S:aE) (a:aS) (K:Int->an->Nat->a3):Prop:=∃ (v0:Int) (v1:an) (v2:Nat) (b:Nat),(∀ u,S u->b6 u a 0 [.int .i64 v0,.slice v1 v2 b])/\K v0 v1 v2 b
abbrev jM (S:aE) (a:aS) (K:Int->Prop):Prop:=∃ (v0:Int),(∀ u,S u->u.cell? a=some (.int .u64 v0))/\K v0
abbrev js (n:Nat) (l:Array a2) (w:ak) (K:an->Nat->Nat->Bool->aE):Prop:=Calls prog n l w λe w1=>∃ (v0:an) (v1:Nat) (v2:Nat) (a:Bool),e=.returned (.tuple #[.slice v0 v1 v2,.bool a])/\K v0 v1 v2 a w1
abbrev mD (w:ak) (a:aS) (K:an->Prop):Prop:=∃ (v0:an),w.cell? a=some (.pointer v0)/\K v0
abbrev S4 (w:ak) (a:aS) (K:Int->Prop):Prop:=∃ (v0:Int),w.cell? a=some (.int .u8 v0)/\K v0
abbrev Gv (w:ak) (a:aS) (K:an->an->Nat->a3):Prop:=∃ (v0:an) (v1:an) (v2:Nat) (b:Nat),b6 w a 0 [.pointer v0,.slice v1 v2 b]/\K v0 v1 v2 b
abbrev sH (S:aE) (a:aS) (K:an->Prop):Prop:=∃ (v0:an),(∀ u,S u->u.cell? a=some (.pointer v0))/\K v0
abbrev S5 (w:ak) (a:aS) (K:Bool->Int->an->Nat->Nat->an->Nat->Nat->Int->Int->Int->Prop):Prop:=∃ (v0:Bool) (v1:Int) (v2:an) (b:Nat) (v4:Nat) (c:an) (v6:Nat) (d:Nat) (e:Int) (f:Int) (v10:Int),b6 w a 0 [.bool v0,.int .i64 v1,.slice v2 b v4,.slice c v6 d,.int .i64 e,.int .i64 f,.int .i64 v10]/\K v0 v1 v2 b v4 c v6 d e f v10
abbrev Av (n:Nat) (l:Array a2) (w:ak) (K:Int->an->Nat->Nat->Bool->aE):Prop:=Calls prog n l w λe w1=>∃ (v0:Int) (v1:an) (v2:Nat) (a:Nat) (v4:Bool),e=.returned (.tuple #[.agg #[.int .i64 v0,.slice v1 v2 a],.bool v4])/\K v0 v1 v2 a v4 w1
abbrev Gw (n:Nat) (l:Array a2) (w:ak) (K:an->Bool->aE):Prop:=Calls prog n l w λe w1=>∃ (v0:an) (v1:Bool),e=.returned (.tuple #[.pointer v0,.bool v1])/\K v0 v1 w1
abbrev Gx (S:aE) (a:aS) (K:Bool->Prop):Prop:=∃ (v0:Bool),(∀ u,S u->u.cell? a=some (.bool v0))/\K v0
abbrev S6 (n:Nat) (l:Array a2) (w:ak) (K:an->Bool->Bool->aE):Prop:=Calls prog n l w λe w1=>∃ (v0:an) (v1:Bool) (v2:Bool),e=.returned (.tuple #[.pointer v0,.bool v1,.bool v2])/\K v0 v1 v2 w1
abbrev S7 (n:Nat) (l:Array a2) (w:ak) (K:Bool->Bool->Bool->aE):Prop:=Calls prog n l w λe w1=>∃ (v0:Bool) (v1:Bool) (v2:Bool),e=.returned (.tuple #[.bool v0,.bool v1,.bool v2])/\K v0 v1 v2 w1
abbrev S8 (n:Nat) (l:Array a2) (w:ak) (K:cB):Prop:=Calls prog n l w λe w1=>∃ (v0:a2),e=.returned v0/\K v0 w1
abbrev Ax (n:Nat) (l:Array a2) (w:ak) (K:Int->Int->Bool->aE):Prop:=Calls prog n l w λe w1=>∃ (v0:Int) (v1:Int) (v2:Bool),e=.returned (.tuple #[.int .i64 v0,.int .i64 v1,.bool v2])/\K v0 v1 v2 w1
abbrev Ta (n:Nat) (l:Array a2) (w:ak) (K:Int->Bool->aE):Prop:=Calls prog n l w λe w1=>∃ (v0:Int) (v1:Bool),e=.returned (.tuple #[.int .i64 v0,.bool v1])/\K v0 v1 w1
abbrev xI (n:Nat) (l:Array a2) (w:ak) (K:Int->Bool->aE):Prop:=Calls prog n l w λe w1=>∃ (v0:Int) (v1:Bool),e=.returned (.tuple #[.int .u64 v0,.bool v1])/\K v0 v1 w1
abbrev lR (w:ak) (a:aS) (K:aG->Prop):Prop:=aG.ex λr=>b6 w a 0 r.cells/\K r
abbrev pI (w:ak) (a:aS) (K:bO->Prop):Prop:=bO.ex λr=>b6 w a 0 r.cells/\K r
abbrev uM (X:aE) (a:aS) (K:aK->Prop):Prop:=aK.ex λr=>(∀ u,X u->b6 u a 0 r.cells)/\K r
abbrev SZ (w:ak) (a:aS) (K:pn->Prop):Prop:=pn.ex λr=>b6 w a 0 r.cells/\K r
abbrev eR (w:ak) (a:aS) (K:cj->Prop):Prop:=cj.ex λr=>b6 w a 0 r.cells/\K r
abbrev sF (n:Nat) (l:Array a2) (w:ak) (K:cj->aE):Prop:=Calls prog n l w λe w1=>cj.ex λr=>e=.returned r.val/\K r w1
abbrev S0 (w:ak) (a:aS) (K:ox->Prop):Prop:=ox.ex λr=>b6 w a 0 r.cells/\K r
abbrev As (X:aE) (a:aS) (K:c3->Prop):Prop:=c3.ex λr=>(∀ u,X u->b6 u a 0 r.cells)/\K r
abbrev sG (X:aE) (a:aS) (K:cj->Prop):Prop:=cj.ex λr=>(∀ u,X u->b6 u a 0 r.cells)/\K r
abbrev S1 (w:ak) (a:aS) (K:oz->Prop):Prop:=oz.ex λr=>b6 w a 0 r.cells/\K r
abbrev At (w:ak) (a:aS) (K:dv->Prop):Prop:=dv.ex λr=>b6 w a 0 r.cells/\K r
abbrev Gq (w:ak) (a:aS) (K:dt->Prop):Prop:=dt.ex λr=>b6 w a 0 r.cells/\K r
abbrev hc (X:aE) (a:aS) (K:aY->Prop):Prop:=aY.ex λr=>(∀ u,X u->b6 u a 0 r.cells)/\K r
abbrev Gr (X:aE) (a:aS) (K:aG->Prop):Prop:=aG.ex λr=>(∀ u,X u->b6 u a 0 r.cells)/\K r
abbrev eL (n:Nat) (l:Array a2) (w:ak) (K:aG->aE):Prop:=Calls prog n l w λe w1=>aG.ex λr=>e=.returned r.val/\K r w1
abbrev dV (w:ak) (a:aS) (K:bA->Prop):Prop:=bA.ex λr=>b6 w a 0 r.cells/\K r
abbrev hv (w:ak) (a:aS) (K:aK->Prop):Prop:=aK.ex λr=>b6 w a 0 r.cells/\K r
abbrev im (w:ak) (a:aS) (K:aY->Prop):Prop:=aY.ex λr=>b6 w a 0 r.cells/\K r
abbrev uN (X:aE) (a:aS) (K:dv->Prop):Prop:=dv.ex λr=>(∀ u,X u->b6 u a 0 r.cells)/\K r
abbrev Gs (n:Nat) (l:Array a2) (w:ak) (K:bY->aE):Prop:=Calls prog n l w λe w1=>bY.ex λr=>e=.returned r.val/\K r w1
abbrev lS (w:ak) (a:aS) (K:c3->Prop):Prop:=c3.ex λr=>b6 w a 0 r.cells/\K r
abbrev Au (w:ak) (a:aS) (K:eQ->Prop):Prop:=eQ.ex λr=>b6 w a 0 r.cells/\K r
abbrev xG (X:aE) (a:aS) (K:bO->Prop):Prop:=bO.ex λr=>(∀ u,X u->b6 u a 0 r.cells)/\K r
abbrev S2 (n:Nat) (l:Array a2) (w:ak) (K:bA->aE):Prop:=Calls prog n l w λe w1=>bA.ex λr=>e=.returned r.val/\K r w1
abbrev Gt (X:aE) (a:aS) (K:bA->Prop):Prop:=bA.ex λr=>(∀ u,X u->b6 u a 0 r.cells)/\K r
abbrev hN (w:ak) (a:aS) (K:bY->Prop):Prop:=bY.ex λr=>b6 w a 0 r.cells/\K r
abbrev S3 (n:Nat) (l:Array a2) (w:ak) (K:iz->aE):Prop:=Calls prog n l w λe w1=>iz.ex λr=>e=.returned r.val/\K r w1
abbrev Gu (w:ak) (a:aS) (K:iz->Prop):Prop:=iz.ex λr=>b6 w a 0 r.cells/\K r
abbrev Aw (n:Nat) (l:Array a2) (w:ak) (K:c3->aE):Prop:=Calls prog n l w λe w1=>c3.ex λr=>e=.returned r.val/\K r w1
abbrev Gy (w:ak) (a:aS) (K:iy->Prop):Prop:=iy.ex λr=>b6 w a 0 r.cells/\K r
abbrev S9 (n:Nat) (l:Array a2) (w:ak) (K:aK->aE):Prop:=Calls prog n l w λe w1=>aK.ex λr=>e=.returned r.val/\K r w1
abbrev sI (X:aE) (a:aS) (K:bY->Prop):Prop:=bY.ex λr=>(∀ u,X u->b6 u a 0 r.cells)/\K r
abbrev Gz (w:ak) (a:aS) (K:da->Prop):Prop:=da.ex λr=>b6 w a 0 r.cells/\K r
abbrev GA (X:aE) (a:aS) (K:da->Prop):Prop:=da.ex λr=>(∀ u,X u->b6 u a 0 r.cells)/\K r
abbrev xH (w:ak) (a:aS) (K:dA->Prop):Prop:=dA.ex λr=>b6 w a 0 r.cells/\K r
abbrev S_ (X:aE) (a:aS) (K:dt->Prop):Prop:=dt.ex λr=>(∀ u,X u->b6 u a 0 r.cells)/\K r
abbrev S' (X:aE) (a:aS) (K:dA->Prop):Prop:=dA.ex λr=>(∀ u,X u->b6 u a 0 r.cells)/\K r
end
section
open IntKind
variable (w:ak) (R:cB) {i k:Int}
theorem UU:bf prog f12 [ab i,ab k] R w=(cond (k<1) (R (ab 0) w) (IntKind.i64=IntKind.i64/\k≠0/\IntKind.i64=IntKind.i64/\k≠0/\R (ab (Int.tmod (i64.wrap ((Int.tmod i k)+k)) k)) w)):=by kernel_rfl
end
section
theorem rM (w:ak) (x n:Int) (i:-9223372036854775808<=x/\x<9223372036854775808) (g:n<4611686018427387904):a9 12 [.int .i64 x,.int .i64 n] w λv w'=>v=.int .i64 (if n<1 then 0 else x % n)/\w'=w:=by
 refine bc Tryz.func12 ?_;rw [UU];refine a8 (λh=>⟨by rw [if_pos h],rfl⟩) (λh=>⟨rfl,by omega,rfl,by omega,?_,rfl⟩);rw [if_neg h];have b:0<n:=by omega
 have key:∃ t k,Int.tmod x n=t/\-n<t/\t<n/\t+n * k=x:=by
  rcases Int.le_total 0 x with a | a
  ·refine ⟨x % n,x / n,yq a,?_,vn x b,Int.emod_add_mul_ediv x n⟩;have:=u_ x (Int.ne_of_gt b);omega
  ·refine ⟨-((-x) % n),-((-x) / n),?_,?_,?_,?_⟩
   ·rw [<-yq (by omega),Int.neg_tmod,Int.neg_neg]
   ·have:=vn (-x) b;omega
   ·have:=u_ (-x) (Int.ne_of_gt b);omega
   ·have:=Int.emod_add_mul_ediv (-x) n;rw [Int.mul_neg];omega
 obtain ⟨t,k,d,e,f,c⟩:=key;rw [d,bC (by omega) (by omega)];congr 1;rw [yq (by omega),Int.add_emod_right,<-c,Int.add_mul_emod_self_left]
end
section
open IntKind
variable (w:ak) (R:cB) {i k l:Int} {A:aS} {s:an} {a b:Nat} {j:aq} {X:a2} {F:Bool}
theorem VC (m:c3):bf prog f125 [m.val] R w=(aQ w m.cells.toArray 35 λn o=>aQ o #[ab 0,ab 0,ad false] 116 λj e=>b5 e (af n 1) λa b c=>cond ((b:Int) == 0) (a' e (af j 0) 0 [ab 0,ab 0,ad false] λl=>im l (af j 0) λh=>l=l/\R (.tuple #[h.val,ad false]) l) (b5 e (af n 1) λd f g=>bm d f 0 3 λp=>im e p λr=>a' e (af j 0) 0 r.cells λk=>im k (af j 0) λi=>k=k/\R (.tuple #[i.val,ad true]) k)):=by kernel_rfl
def uy (s1:Int) (s2:aS) (a:an) (b c:Nat) (d f:Int) (j:aq):aq:=ag j 0 1 (ab s1::.pointer (some s2)::ag j 1 25 (ae a b c::ab d::ab f::ag j 26 50 []))
def GV (a:aS) (j:aq):aq:=ag j 0 2 (.pointer (some a)::ag j 2 78 [])
def xn (s2:aS) (a:an) (b c:Nat) (d f:Int) (j:aq):aq:=ag j 0 2 (.pointer (some s2)::ag j 2 59 (ae a b c::ab d::ab f::ag j 61 16 []))
def GW (a:aS) (j:aq):aq:=ag j 0 2 (.pointer (some a)::ag j 2 78 [])
theorem HD (m:c3):bf prog f166 [m.val,ab i] R w=(aQ w m.cells.toArray 35 λl n=>de 200 #[ab i] n λa j=>cond (!a) (R (ab 1) j) (bS j (af l 0) λb=>cond (b<0) (R (ab 2) j) (bS j (af l 0) λc=>cond (c>=16) (R (ab 2) j) (b5 j (af l 1) λd f g=>cond ((f:Int) == 0) (R (ab 1) j) (b5 j (af l 1) λh e k=>cv prog (c0 f166 [1,1,0,1,0,0]) (uy i (af l 0) h e k (e:Nat) 0 (m.val::undef::ab 0::bb 4 (ad (!a)::ab i::ad a::ad (!a)::ad (c>=16)::jp (af l 0)::ab b::ad (b<0)::ad false::jp (af l 0)::ab c::ad (c>=16)::ad (c>=16)::ad ((f:Int) == 0)::jp (af l 1)::ae d f g::cX f::ad ((f:Int) == 0)::jp (af l 1)::bb 50 []))) (aM 1 (aP f166 [1,1,1] R)) j))))):=by kernel_rfl
theorem Ua (q:aq->aE):W prog (sb f166 [1,1,0,1,0,0]) (uy i A s a b k l j) (aU q (aM 1 (aP f166 [1,1,1] R))) w=(cond (l<k) (bm s a l 3 λt=>im w t λr=>aQ w #[ab 0,ab 0,ad false] 116 λe v=>a' v (af e 0) 0 r.cells λx=>ct x λf p=>cN p (af e 0) λg=>cond (g<0) (R (ab 1) f) (cN p (af e 0) λh=>cond (h>=i) (R (ab 1) f) (cond (l>0) (cN p (af e 0) λc=>e5 p (bT A 1) λu d m=>bm u d (i64.wrap (l - 1)) 3 λo=>cN p o λn=>cond (c<=n) (R (ab 1) f) (q (uy i A s a b k (i64.wrap (l+1)) (aF j 0::aF j 1::aF j 2::ab l::jp (af e 0)::ag j 5 21 (ad (l<k)::ab l::jp t::r.val::jp (af e 0)::ab g::ad (g<0)::ad false::jp (af e 0)::ab h::ab i::ad (h>=i)::ad (h>=i)::ad false::ab l::ad (l>0)::ad true::jp (af e 0)::ab c::bq A 1::ae u d m::ab l::ab (i64.wrap (l - 1))::jp o::jp o::ab n::ad (c<=n)::ad (c<=n)::ad (c<=n)::ab (i64.wrap (l+1))::ag j 56 20 []))) f)) (q (uy i A s a b k (i64.wrap (l+1)) (aF j 0::aF j 1::aF j 2::ab l::jp (af e 0)::ag j 5 21 (ad (l<k)::ab l::jp t::r.val::jp (af e 0)::ab g::ad (g<0)::ad false::jp (af e 0)::ab h::ab i::ad (h>=i)::ad (h>=i)::ad false::ab l::ad (l>0)::ad false::bb 10 (ad false::ad false::ab (i64.wrap (l+1))::ag j 56 20 [])))) f)))) (W prog (sb f166 [1,1,1]) (GV A (aF j 0::ab i::ag j 1 25 (ae s a b::ab k::ab l::ad (l<k)::ag j 27 49 []))) (bZ f166 R) w)):=by kernel_rfl
theorem UV:W prog (sb f166 [1,1,1]) (GV A j) (bZ f166 R) w=(b5 w (bT A 1) λb c d=>cv prog (c0 f166 [1,1,1,0,1,0,0]) (xn A b c d (c:Nat) 0 (ag j 0 60 (bq A 1::ag j 64 16 []))) (aM 3 (aP f166 [1,1,1,1] R)) w):=by kernel_rfl
theorem Ub (e:aq->aE):W prog (sb f166 [1,1,1,0,1,0,0]) (xn A s a b i k j) (aU e (aM 3 (aP f166 [1,1,1,1] R))) w=(cond (k<i) (bm s a k 3 λf=>im w f λr=>aQ w #[ab 0,ab 0,ad false] 116 λc l=>a' l (af c 0) 0 r.cells λd=>bS d (af c 1) λg=>cond (g<1) (R (ab 2) d) (bS d (af c 1) λh=>cond (h>31) (R (ab 2) d) (e (xn A s a b i (i64.wrap (k+1)) (ag j 0 7 (jp (af c 0)::ag j 8 53 (ad (k<i)::jp f::r.val::jp (af c 1)::ab g::ad (g<1)::ad false::jp (af c 1)::ab h::ad (h>31)::ad (h>31)::ab (i64.wrap (k+1))::ag j 73 4 [])))) d))) (W prog (sb f166 [1,1,1,1]) (GW A (ag j 0 61 (ae s a b::ab i::ab k::ad (k<i)::ag j 62 15 []))) (bZ f166 R) w)):=by kernel_rfl
theorem UW:W prog (sb f166 [1,1,1,1]) (GW A j) (bZ f166 R) w=(b5 w (bT A 1) λb c d=>de 201 #[ae b c d,.func (.func 202) #[] #[]] w λf a=>cond (!f) (R (ab 13) a) (R (ab 0) a)):=by kernel_rfl
theorem Vs:bf prog f200 [ab i] R w=(cond (i>=1) (R (ad (i<=5)) w) (R (ad false) w)):=by kernel_rfl
theorem P6:bf prog f201 [ae s a b,X] R w=(cm 234 #[ae s a b,X] w λc d=>R (ad (c>=0)) d):=by kernel_rfl
theorem VE (c:aY):bf prog f202 [c.val] R w=(aQ w c.cells.toArray 116 λd b=>jo b (af d 2) λa=>R (ad a) b):=by kernel_rfl
theorem Vt (j:c3):bf prog f216 [j.val] R w=(aQ w j.cells.toArray 35 λl e=>b5 e (af l 1) λa b c=>cond ((b:Int) == 0) (R (a5) e) (b5 e (af l 1) λd f g=>hP d f g 1 (f:Nat) (g:Nat) 3 λo m p=>eE 243 #[ae o m p] e λh i k n=>R (ae h i k) n)):=by kernel_rfl
def wz (c:an) (a b:Nat) (s1:a2) (d s8:Int) (j:aq):aq:=ae c a b::s1::ag j 0 5 (ab d::ab s8::ag j 5 10 [])
def Ff  (j:aq):aq:=ag j 0 19 []
theorem P2:bf prog f234 [ae s a b,X] R w=(cv prog (c0 f234 [1,0,1,0,0]) (wz s a b X (a:Nat) 0 (bb 2 (ab 0::undef::ae s a b::bb 10 []))) (aM 0 (aP f234 [1,1] R)) w):=by kernel_rfl
theorem PZ (d:aq->aE):W prog (sb f234 [1,0,1,0,0]) (wz s a b X i k j) (aU d (aM 0 (aP f234 [1,1] R))) w=(cond (k<i) (bm s a k 3 λg=>im w g λr=>iX prog X #[r.val] w λe f=>∃ c,e=.returned (ad c)/\cond c (R (ab k) f) (d (wz s a b X i (i64.wrap (k+1)) [aF j 0,aF j 1,aF j 2,ab k,aF j 4,ad (k<i),ab k,X,ae s a b,ab k,jp g,r.val,ad c,aF j 13,ab (i64.wrap (k+1))]) f)) (W prog (sb f234 [1,1]) (Ff  (ae s a b::X::ag j 0 5 (ab i::ab k::ad (k<i)::ag j 6 9 []))) (bZ f234 R) w)):=by kernel_rfl
theorem PY:W prog (sb f234 [1,1]) (Ff  j) (bZ f234 R) w=(R (ab (-1)) w):=by kernel_rfl
theorem Vu (v:c3) (u:aY) (A:aG):bf prog f241 [v.val,u.val,ad F,A.val] R w=(aQ w v.cells.toArray 35 λH B=>aQ B u.cells.toArray 116 λs E=>aQ E A.cells.toArray 158 λe a7=>aQ a7 #[ab 0,ab 0,ab 0,ab 0,ah 0,ah 0,a5,ah 0,ab 0] 158 λt G=>ct G λD j=>cN j (af s 0) λa=>cN j (af s 1) λb=>cI D (af e 1) (ab a) λz=>j z/\cI z (af e 8) (ab b) λy=>bS y (af H 0) λc=>ht 103 #[ab c,ad F] y λd f C=>cI C (af e 7) (ah d) λx=>b5 x (af e 6) λg h i=>eE 73 #[ae g h i] x λk l m n=>cI n (af e 6) (ae k l m) λo=>lR o (af e 0) λr=>a' o (af t 0) 0 r.cells λp=>lR p (af t 0) λq=>p=p/\R q.val p):=by kernel_rfl
end
end Go.Proofs.YtmkljjbioomepaaGreat
