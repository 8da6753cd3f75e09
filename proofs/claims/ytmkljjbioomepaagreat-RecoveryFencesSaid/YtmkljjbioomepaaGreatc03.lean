import Derived.Test.YtmkljjbioomepaaGreatc02
import Derived.Test.YtmkljjbioomepaaGreatProg
set_option linter.all false
namespace Go.Proofs.YtmkljjbioomepaaGreat
open Go.Proofs.Tryz Go.br
section
structure bR where
 Code:Int
 Words:al
 cI:Nat
 cC:Nat
def bR.cells (r:bR):ax:=[.int .i64 r.Code,.slice r.Words r.cI r.cC]
def bR.val (r:bR):a4:=.agg r.cells.toArray
def bR.ex (K:bR->Prop):Prop:=∃ (d:Int) (c:al) (b:Nat) (a:Nat),K ⟨d,c,b,a⟩
theorem bR.aS {K:bR->Prop} (r:bR) (h:K r):bR.ex K:=⟨_,_,_,_,h⟩
theorem bR.len (r:bR):r.cells.length=2:=rfl
theorem bR.single (r:bR):∀ u ∈ r.cells,single u=true:=by intro u hu;simp only [bR.cells,e9,lk,or_false] at hu;rcases hu with rfl | rfl<;>rfl
structure aG where
 Kind:Int
 Node:Int
 bW:Int
 N:Int
 Old:Int
 ai:Int
 Words:al
 cI:Nat
 cC:Nat
 Key:Int
 ck:Int
def aG.cells (r:aG):ax:=[.int .i64 r.Kind,.int .i64 r.Node,.int .i64 r.bW,.int .i64 r.N,.int .u64 r.Old,.int .u64 r.ai,.slice r.Words r.cI r.cC,.int .u64 r.Key,.int .i64 r.ck]
def aG.val (r:aG):a4:=.agg r.cells.toArray
def aG.ex (K:aG->Prop):Prop:=∃ (e:Int) (f:Int) (j:Int) (k:Int) (i:Int) (h:Int) (c:al) (b:Nat) (a:Nat) (g:Int) (d:Int),K ⟨e,f,j,k,i,h,c,b,a,g,d⟩
theorem aG.aS {K:aG->Prop} (r:aG) (h:K r):aG.ex K:=⟨_,_,_,_,_,_,_,_,_,_,_,h⟩
theorem aG.len (r:aG):r.cells.length=9:=rfl
theorem aG.single (r:aG):∀ u ∈ r.cells,single u=true:=by intro u hu;simp only [aG.cells,e9,lk,or_false] at hu;rcases hu with rfl | rfl | rfl | rfl | rfl | rfl | rfl | rfl | rfl<;>rfl
structure oh where
 kN:Int
def oh.cells (r:oh):ax:=[.int .i64 r.kN]
def oh.val (r:oh):a4:=.agg r.cells.toArray
def oh.ex (K:oh->Prop):Prop:=∃ (a:Int),K ⟨a⟩
structure om where
 kN:Int
 Number:Int
 Client:Int
 Round:Int
 kg:Int
def om.cells (r:om):ax:=[.int .i64 r.kN,.int .i64 r.Number,.int .i64 r.Client,.int .i64 r.Round,.int .u64 r.kg]
def om.val (r:om):a4:=.agg r.cells.toArray
def om.ex (K:om->Prop):Prop:=∃ (c:Int) (b:Int) (a:Int) (d:Int) (e:Int),K ⟨c,b,a,d,e⟩
structure cX where
 Number:Int
 dL:al
 dN:Nat
 dW:Nat
def cX.cells (r:cX):ax:=[.int .i64 r.Number,.slice r.dL r.dN r.dW]
def cX.val (r:cX):a4:=.agg r.cells.toArray
def cX.ex (K:cX->Prop):Prop:=∃ (d:Int) (c:al) (b:Nat) (a:Nat),K ⟨d,c,b,a⟩
theorem cX.aS {K:cX->Prop} (r:cX) (h:K r):cX.ex K:=⟨_,_,_,_,h⟩
theorem cX.single (r:cX):∀ u ∈ r.cells,single u=true:=by intro u hu;simp only [cX.cells,e9,lk,or_false] at hu;rcases hu with rfl | rfl<;>rfl
structure dv where
 Client:Int
 Seq:Int
 fF:Int
 View:cX
 Reads:al
 ja:Nat
 lv:Nat
 ei:al
 dI:Nat
 gq:Nat
def dv.cells (r:dv):ax:=[.int .i64 r.Client,.int .i64 r.Seq,.int .i64 r.fF,.int .i64 r.View.Number,.slice r.View.dL r.View.dN r.View.dW,.slice r.Reads r.ja r.lv,.slice r.ei r.dI r.gq]
def dv.val (r:dv):a4:=.agg r.cells.toArray
def dv.ex (K:dv->Prop):Prop:=∃ (i:Int) (n:Int) (k:Int) (d:Int) (c:al) (b:Nat) (a:Nat) (l:al) (h:Nat) (g:Nat) (j:al) (f:Nat) (e:Nat),K ⟨i,n,k,⟨d,c,b,a⟩,l,h,g,j,f,e⟩
theorem dv.aS {K:dv->Prop} (r:dv) (h:K r):dv.ex K:=⟨_,_,_,_,_,_,_,_,_,_,_,_,_,h⟩
theorem dv.single (r:dv):∀ u ∈ r.cells,single u=true:=by intro u hu;simp only [dv.cells,e9,lk,or_false] at hu;rcases hu with rfl | rfl | rfl | rfl | rfl | rfl | rfl<;>rfl
structure dr where
 Client:Int
 g5:Int
 fF:Int
 View:cX
 ew:Int
 fi:Int
 gD:Int
def dr.cells (r:dr):ax:=[.int .i64 r.Client,.int .i64 r.g5,.int .i64 r.fF,.int .i64 r.View.Number,.slice r.View.dL r.View.dN r.View.dW,.int .i64 r.ew,.int .i64 r.fi,.int .u64 r.gD]
def dr.val (r:dr):a4:=.agg r.cells.toArray
def dr.ex (K:dr->Prop):Prop:=∃ (e:Int) (j:Int) (f:Int) (d:Int) (c:al) (b:Nat) (a:Nat) (g:Int) (h:Int) (i:Int),K ⟨e,j,f,⟨d,c,b,a⟩,g,h,i⟩
theorem dr.aS {K:dr->Prop} (r:dr) (h:K r):dr.ex K:=⟨_,_,_,_,_,_,_,_,_,_,h⟩
structure ca where
 Kind:Int
 Client:Int
 tn:oh
 gT:om
 cZ:dv
 Recover:dr
 qe:al
 o3:Nat
 qf:Nat
 kd:Bool
 oS:Bool
 Code:Int
 View:cX
 Status:Int
 Doors:al
 qd:Nat
 nY:Nat
 kg:Int
 iJ:Int
 jc:Int
 Seq:Int
 i_:Int
def ca.cells (r:ca):ax:=[.int .i64 r.Kind,.int .i64 r.Client,.int .i64 r.tn.kN,.int .i64 r.gT.kN,.int .i64 r.gT.Number,.int .i64 r.gT.Client,.int .i64 r.gT.Round,.int .u64 r.gT.kg,.int .i64 r.cZ.Client,.int .i64 r.cZ.Seq,.int .i64 r.cZ.fF,.int .i64 r.cZ.View.Number,.slice r.cZ.View.dL r.cZ.View.dN r.cZ.View.dW,.slice r.cZ.Reads r.cZ.ja r.cZ.lv,.slice r.cZ.ei r.cZ.dI r.cZ.gq,.int .i64 r.Recover.Client,.int .i64 r.Recover.g5,.int .i64 r.Recover.fF,.int .i64 r.Recover.View.Number,.slice r.Recover.View.dL r.Recover.View.dN r.Recover.View.dW,.int .i64 r.Recover.ew,.int .i64 r.Recover.fi,.int .u64 r.Recover.gD,.slice r.qe r.o3 r.qf,.bool r.kd,.bool r.oS,.int .i64 r.Code,.int .i64 r.View.Number,.slice r.View.dL r.View.dN r.View.dW,.int .i64 r.Status,.slice r.Doors r.qd r.nY,.int .u64 r.kg,.int .i64 r.iJ,.int .i64 r.jc,.int .i64 r.Seq,.int .i64 r.i_]
def ca.val (r:ca):a4:=.agg r.cells.toArray
def ca.ex (K:ca->Prop):Prop:=∃ (V:Int) (O:Int) (n:Int) (D:Int) (y:Int) (x:Int) (E:Int) (I:Int) (r:Int) (H:Int) (u:Int) (h:Int) (f:al) (d:Nat) (c:Nat) (w:al) (l:Nat) (k:Nat) (s:al) (j:Nat) (i:Nat) (o:Int) (F:Int) (t:Int) (g:Int) (e:al) (b:Nat) (a:Nat) (z:Int) (A:Int) (B:Int) (Y:al) (S:Nat) (R:Nat) (W:Bool) (X:Bool) (T:Int) (G:Int) (C:al) (q:Nat) (p:Nat) (P:Int) (Q:al) (L:Nat) (J:Nat) (Vr:Int) (U:Int) (N:Int) (Z:Int) (M:Int),K ⟨V,O,⟨n⟩,⟨D,y,x,E,I⟩,⟨r,H,u,⟨h,f,d,c⟩,w,l,k,s,j,i⟩,⟨o,F,t,⟨g,e,b,a⟩,z,A,B⟩,Y,S,R,W,X,T,⟨G,C,q,p⟩,P,Q,L,J,Vr,U,N,Z,M⟩
theorem ca.aS {K:ca->Prop} (r:ca) (h:K r):ca.ex K:=⟨_,_,_,_,_,_,_,_,_,_,_,_,_,_,_,_,_,_,_,_,_,_,_,_,_,_,_,_,_,_,_,_,_,_,_,_,_,_,_,_,_,_,_,_,_,_,_,_,_,_,h⟩
theorem ca.len (r:ca):r.cells.length=36:=rfl
theorem ca.single (r:ca):∀ u ∈ r.cells,single u=true:=by intro u hu;simp only [ca.cells,e9,lk,or_false] at hu;rcases hu with rfl | rfl | rfl | rfl | rfl | rfl | rfl | rfl | rfl | rfl | rfl | rfl | rfl | rfl | rfl | rfl | rfl | rfl | rfl | rfl | rfl | rfl | rfl | rfl | rfl | rfl | rfl | rfl | rfl | rfl | rfl | rfl | rfl | rfl | rfl | rfl<;>rfl
structure aJ where
 bn:Int
 Head:Int
 vo:Int
 B2:Int
 B3:Int
 B4:Int
 B5:Int
 B6:Int
 B7:Int
def aJ.cells (r:aJ):ax:=[.int .i64 r.bn,.int .u64 r.Head,.int .u64 r.vo,.int .u64 r.B2,.int .u64 r.B3,.int .u64 r.B4,.int .u64 r.B5,.int .u64 r.B6,.int .u64 r.B7]
def aJ.val (r:aJ):a4:=.agg r.cells.toArray
def aJ.ex (K:aJ->Prop):Prop:=∃ (i:Int) (h:Int) (a:Int) (b:Int) (c:Int) (d:Int) (e:Int) (f:Int) (g:Int),K ⟨i,h,a,b,c,d,e,f,g⟩
theorem aJ.aS {K:aJ->Prop} (r:aJ) (h:K r):aJ.ex K:=⟨_,_,_,_,_,_,_,_,_,h⟩
theorem aJ.len (r:aJ):r.cells.length=9:=rfl
theorem aJ.single (r:aJ):∀ u ∈ r.cells,single u=true:=by intro u hu;simp only [aJ.cells,e9,lk,or_false] at hu;rcases hu with rfl | rfl | rfl | rfl | rfl | rfl | rfl | rfl | rfl<;>rfl
structure pg where
 bW:Int
 Kind:Int
 A:Int
def pg.cells (r:pg):ax:=[.int .i64 r.bW,.int .i64 r.Kind,.int .i64 r.A]
def pg.val (r:pg):a4:=.agg r.cells.toArray
def pg.ex (K:pg->Prop):Prop:=∃ (b:Int) (a:Int) (c:Int),K ⟨b,a,c⟩
structure aZ where
 Node:Int
 ck:Int
 Full:Bool
def aZ.cells (r:aZ):ax:=[.int .i64 r.Node,.int .i64 r.ck,.bool r.Full]
def aZ.val (r:aZ):a4:=.agg r.cells.toArray
def aZ.ex (K:aZ->Prop):Prop:=∃ (c:Int) (a:Int) (b:Bool),K ⟨c,a,b⟩
theorem aZ.aS {K:aZ->Prop} (r:aZ) (h:K r):aZ.ex K:=⟨_,_,_,h⟩
theorem aZ.len (r:aZ):r.cells.length=3:=rfl
theorem aZ.single (r:aZ):∀ u ∈ r.cells,single u=true:=by intro u hu;simp only [aZ.cells,e9,lk,or_false] at hu;rcases hu with rfl | rfl | rfl<;>rfl
structure qA where
 Code:Int
 Number:Int
 View:cX
 Status:Int
 OG:Bool
 Hint:Int
 HN:al
 HP:Nat
 HO:Nat
 Keys:al
 Ly:Nat
 Lx:Nat
 Doors:al
 qd:Nat
 nY:Nat
def qA.cells (r:qA):ax:=[.int .i64 r.Code,.int .i64 r.Number,.int .i64 r.View.Number,.slice r.View.dL r.View.dN r.View.dW,.int .i64 r.Status,.bool r.OG,.int .u64 r.Hint,.slice r.HN r.HP r.HO,.slice r.Keys r.Ly r.Lx,.slice r.Doors r.qd r.nY]
def qA.val (r:qA):a4:=.agg r.cells.toArray
def qA.ex (K:qA->Prop):Prop:=∃ (q:Int) (k:Int) (d:Int) (c:al) (b:Nat) (a:Nat) (n:Int) (l:Bool) (r:Int) (o:al) (f:Nat) (e:Nat) (s:al) (j:Nat) (i:Nat) (p:al) (h:Nat) (g:Nat),K ⟨q,k,⟨d,c,b,a⟩,n,l,r,o,f,e,s,j,i,p,h,g⟩
structure it where
 Code:Int
 kg:Int
 Round:Int
def it.cells (r:it):ax:=[.int .i64 r.Code,.int .u64 r.kg,.int .i64 r.Round]
def it.val (r:it):a4:=.agg r.cells.toArray
def it.ex (K:it->Prop):Prop:=∃ (b:Int) (c:Int) (a:Int),K ⟨b,c,a⟩
structure bB where
 Code:Int
 iJ:Int
def bB.cells (r:bB):ax:=[.int .i64 r.Code,.int .i64 r.iJ]
def bB.val (r:bB):a4:=.agg r.cells.toArray
def bB.ex (K:bB->Prop):Prop:=∃ (a:Int) (b:Int),K ⟨a,b⟩
theorem bB.aS {K:bB->Prop} (r:bB) (h:K r):bB.ex K:=⟨_,_,h⟩
theorem bB.single (r:bB):∀ u ∈ r.cells,single u=true:=by intro u hu;simp only [bB.cells,e9,lk,or_false] at hu;rcases hu with rfl | rfl<;>rfl
structure dz where
 Code:Int
 jc:Int
 Seq:Int
 i_:Int
 JV:Int
def dz.cells (r:dz):ax:=[.int .i64 r.Code,.int .i64 r.jc,.int .i64 r.Seq,.int .i64 r.i_,.int .u64 r.JV]
def dz.val (r:dz):a4:=.agg r.cells.toArray
def dz.ex (K:dz->Prop):Prop:=∃ (d:Int) (b:Int) (e:Int) (a:Int) (c:Int),K ⟨d,b,e,a,c⟩
theorem dz.aS {K:dz->Prop} (r:dz) (h:K r):dz.ex K:=⟨_,_,_,_,_,h⟩
theorem dz.single (r:dz):∀ u ∈ r.cells,single u=true:=by intro u hu;simp only [dz.cells,e9,lk,or_false] at hu;rcases hu with rfl | rfl | rfl | rfl | rfl<;>rfl
structure iu where
 l:bb
def iu.cells (r:iu):ax:=r.l.map λx=>.int .u64 x
def iu.val (r:iu):a4:=.agg r.cells.toArray
def iu.ex (K:iu->Prop):Prop:=EV 256 λl=>K ⟨l⟩
theorem iu.aS {K:iu->Prop} (r:iu) (a:r.l.length=256) (h:K r):iu.ex K:=DJ 256 r.l a h
structure bX where
 Seq:Int
 ei:al
 dI:Nat
 gq:Nat
def bX.cells (r:bX):ax:=[.int .i64 r.Seq,.slice r.ei r.dI r.gq]
def bX.val (r:bX):a4:=.agg r.cells.toArray
def bX.ex (K:bX->Prop):Prop:=∃ (d:Int) (c:al) (b:Nat) (a:Nat),K ⟨d,c,b,a⟩
theorem bX.aS {K:bX->Prop} (r:bX) (h:K r):bX.ex K:=⟨_,_,_,_,h⟩
theorem bX.single (r:bX):∀ u ∈ r.cells,single u=true:=by intro u hu;simp only [bX.cells,e9,lk,or_false] at hu;rcases hu with rfl | rfl<;>rfl
structure eP where
 bn:Int
 Head:Int
def eP.cells (r:eP):ax:=[.int .i64 r.bn,.int .u64 r.Head]
def eP.val (r:eP):a4:=.agg r.cells.toArray
def eP.ex (K:eP->Prop):Prop:=∃ (b:Int) (a:Int),K ⟨b,a⟩
theorem eP.aS {K:eP->Prop} (r:eP) (h:K r):eP.ex K:=⟨_,_,h⟩
theorem eP.len (r:eP):r.cells.length=2:=rfl
theorem eP.single (r:eP):∀ u ∈ r.cells,single u=true:=by intro u hu;simp only [eP.cells,e9,lk,or_false] at hu;rcases hu with rfl | rfl<;>rfl
structure da where
 a3:Int
 least:Int
 exact:Bool
def da.cells (r:da):ax:=[.int .i64 r.a3,.int .u64 r.least,.bool r.exact]
def da.val (r:da):a4:=.agg r.cells.toArray
def da.ex (K:da->Prop):Prop:=∃ (a:Int) (c:Int) (b:Bool),K ⟨a,c,b⟩
theorem da.aS {K:da->Prop} (r:da) (h:K r):da.ex K:=⟨_,_,_,h⟩
theorem da.len (r:da):r.cells.length=3:=rfl
theorem da.single (r:da):∀ u ∈ r.cells,single u=true:=by intro u hu;simp only [da.cells,e9,lk,or_false] at hu;rcases hu with rfl | rfl | rfl<;>rfl
abbrev mx (n:Nat) (l:Array a4) (w:ak) (K:al->aE):Prop:=Calls prog n l w λe w1=>∃ (v0:al),e=.returned (.pointer v0)/\K v0 w1
abbrev si (n:Nat) (l:Array a4) (w:ak) (K:al->Nat->Nat->Int->aE):Prop:=Calls prog n l w λe w1=>∃ (v0:al) (v1:Nat) (v2:Nat) (a:Int),e=.returned (.tuple #[.slice v0 v1 v2,.int .i64 a])/\K v0 v1 v2 a w1
abbrev dp (w:ak) (a:aU) (K:Int->Prop):Prop:=∃ (v0:Int),w.cell? a=some (.int .u64 v0)/\K v0
abbrev z7 (n:Nat) (l:Array a4) (w:ak) (K:al->Int->aE):Prop:=Calls prog n l w λe w1=>∃ (v0:al) (v1:Int),e=.returned (.tuple #[.pointer v0,.int .i64 v1])/\K v0 v1 w1
abbrev cm (n:Nat) (l:Array a4) (w:ak) (K:Int->aE):Prop:=Calls prog n l w λe w1=>∃ (v0:Int),e=.returned (.int .i64 v0)/\K v0 w1
abbrev bt (w:ak) (a:aU) (K:Int->Prop):Prop:=∃ (v0:Int),w.cell? a=some (.int .i64 v0)/\K v0
abbrev du (n:Nat) (l:Array a4) (w:ak) (K:Bool->aE):Prop:=Calls prog n l w λe w1=>∃ (v0:Bool),e=.returned (.bool v0)/\K v0 w1
abbrev cL (S:aE) (a:aU) (K:Int->Prop):Prop:=∃ (v0:Int),(∀ u,S u->u.cell? a=some (.int .i64 v0))/\K v0
abbrev uw (n:Nat) (l:Array a4) (w:ak) (K:aE):Prop:=Calls prog n l w λe w1=>e=.returned (.tuple #[])/\K  w1
abbrev eg (n:Nat) (l:Array a4) (w:ak) (K:al->Nat->Nat->aE):Prop:=Calls prog n l w λe w1=>∃ (v0:al) (v1:Nat) (v2:Nat),e=.returned (.slice v0 v1 v2)/\K v0 v1 v2 w1
abbrev FZ (w:ak) (a:aU) (K:Int->Int->Int->Prop):Prop:=∃ (v0:Int) (v1:Int) (v2:Int),b6 w a 0 [.int .i64 v0,.int .i64 v1,.int .i64 v2]/\K v0 v1 v2
abbrev b4 (w:ak) (a:aU) (K:al->Nat->a5):Prop:=∃ (v0:al) (v1:Nat) (v2:Nat),w.cell? a=some (.slice v0 v1 v2)/\K v0 v1 v2
abbrev fg (S:aE) (a:aU) (K:al->Nat->a5):Prop:=∃ (v0:al) (v1:Nat) (v2:Nat),(∀ u,S u->u.cell? a=some (.slice v0 v1 v2))/\K v0 v1 v2
abbrev g1 (w:ak) (a:aU) (K:Bool->Prop):Prop:=∃ (v0:Bool),w.cell? a=some (.bool v0)/\K v0
abbrev jn (n:Nat) (l:Array a4) (w:ak) (K:Int->aE):Prop:=Calls prog n l w λe w1=>∃ (v0:Int),e=.returned (.int .u64 v0)/\K v0 w1
abbrev ur (w:ak) (a:aU) (K:Int->al->Nat->a5):Prop:=∃ (v0:Int) (v1:al) (v2:Nat) (b:Nat),b6 w a 0 [.int .i64 v0,.slice v1 v2 b]/\K v0 v1 v2 b
abbrev jo (w:ak) (a:aU) (K:Int->Int->Int->Int->Int->Int->al->Nat->Nat->Int->Int->Prop):Prop:=∃ (v0:Int) (v1:Int) (v2:Int) (b:Int) (v4:Int) (c:Int) (v6:al) (d:Nat) (e:Nat) (f:Int) (v10:Int),b6 w a 0 [.int .i64 v0,.int .i64 v1,.int .i64 v2,.int .i64 b,.int .u64 v4,.int .u64 c,.slice v6 d e,.int .u64 f,.int .i64 v10]/\K v0 v1 v2 b v4 c v6 d e f v10
abbrev my (S:aE) (a:aU) (K:Int->Int->Int->Int->Int->Int->al->Nat->Nat->Int->Int->Prop):Prop:=∃ (v0:Int) (v1:Int) (v2:Int) (b:Int) (v4:Int) (c:Int) (v6:al) (d:Nat) (e:Nat) (f:Int) (v10:Int),(∀ u,S u->b6 u a 0 [.int .i64 v0,.int .i64 v1,.int .i64 v2,.int .i64 b,.int .u64 v4,.int .u64 c,.slice v6 d e,.int .u64 f,.int .i64 v10])/\K v0 v1 v2 b v4 c v6 d e f v10
abbrev SC (S:aE) (a:aU) (K:Int->Int->Prop):Prop:=∃ (v0:Int) (v1:Int),(∀ u,S u->b6 u a 0 [.int .i64 v0,.int .i64 v1])/\K v0 v1
abbrev hs (n:Nat) (l:Array a4) (w:ak) (K:Int->Int->aE):Prop:=Calls prog n l w λe w1=>∃ (v0:Int) (v1:Int),e=.returned (.tuple #[.int .u64 v0,.int .i64 v1])/\K v0 v1 w1
abbrev F0 (n:Nat) (l:Array a4) (w:ak) (K:Int->Int->aE):Prop:=Calls prog n l w λe w1=>∃ (v0:Int) (v1:Int),e=.returned (.tuple #[.int .i64 v0,.int .i64 v1])/\K v0 v1 w1
abbrev SD (n:Nat) (l:Array a4) (w:ak) (K:Int->Int->Int->Int->Int->Int->al->Nat->Nat->Int->Int->aE):Prop:=Calls prog n l w λe w1=>∃ (v0:Int) (v1:Int) (v2:Int) (a:Int) (v4:Int) (b:Int) (v6:al) (c:Nat) (d:Nat) (f:Int) (v10:Int),e=.returned (.agg #[.int .i64 v0,.int .i64 v1,.int .i64 v2,.int .i64 a,.int .u64 v4,.int .u64 b,.slice v6 c d,.int .u64 f,.int .i64 v10])/\K v0 v1 v2 a v4 b v6 c d f v10 w1
abbrev z6 (S:aE) (a:aU) (K:Int->al->Nat->a5):Prop:=∃ (v0:Int) (v1:al) (v2:Nat) (b:Nat),(∀ u,S u->b6 u a 0 [.int .i64 v0,.slice v1 v2 b])/\K v0 v1 v2 b
abbrev jF (S:aE) (a:aU) (K:Int->Prop):Prop:=∃ (v0:Int),(∀ u,S u->u.cell? a=some (.int .u64 v0))/\K v0
abbrev jq (n:Nat) (l:Array a4) (w:ak) (K:al->Nat->Nat->Bool->aE):Prop:=Calls prog n l w λe w1=>∃ (v0:al) (v1:Nat) (v2:Nat) (a:Bool),e=.returned (.tuple #[.slice v0 v1 v2,.bool a])/\K v0 v1 v2 a w1
abbrev mz (w:ak) (a:aU) (K:al->Prop):Prop:=∃ (v0:al),w.cell? a=some (.pointer v0)/\K v0
abbrev SJ (w:ak) (a:aU) (K:Int->Prop):Prop:=∃ (v0:Int),w.cell? a=some (.int .u8 v0)/\K v0
abbrev F6 (w:ak) (a:aU) (K:al->al->Nat->a5):Prop:=∃ (v0:al) (v1:al) (v2:Nat) (b:Nat),b6 w a 0 [.pointer v0,.slice v1 v2 b]/\K v0 v1 v2 b
abbrev sk (S:aE) (a:aU) (K:al->Prop):Prop:=∃ (v0:al),(∀ u,S u->u.cell? a=some (.pointer v0))/\K v0
abbrev SK (w:ak) (a:aU) (K:Bool->Int->al->Nat->Nat->al->Nat->Nat->Int->Int->Int->Prop):Prop:=∃ (v0:Bool) (v1:Int) (v2:al) (b:Nat) (v4:Nat) (c:al) (v6:Nat) (d:Nat) (e:Int) (f:Int) (v10:Int),b6 w a 0 [.bool v0,.int .i64 v1,.slice v2 b v4,.slice c v6 d,.int .i64 e,.int .i64 f,.int .i64 v10]/\K v0 v1 v2 b v4 c v6 d e f v10
abbrev z' (n:Nat) (l:Array a4) (w:ak) (K:Int->al->Nat->Nat->Bool->aE):Prop:=Calls prog n l w λe w1=>∃ (v0:Int) (v1:al) (v2:Nat) (a:Nat) (v4:Bool),e=.returned (.tuple #[.agg #[.int .i64 v0,.slice v1 v2 a],.bool v4])/\K v0 v1 v2 a v4 w1
abbrev F7 (n:Nat) (l:Array a4) (w:ak) (K:al->Bool->aE):Prop:=Calls prog n l w λe w1=>∃ (v0:al) (v1:Bool),e=.returned (.tuple #[.pointer v0,.bool v1])/\K v0 v1 w1
abbrev sl (n:Nat) (l:Array a4) (w:ak) (K:Bool->Bool->Bool->aE):Prop:=Calls prog n l w λe w1=>∃ (v0:Bool) (v1:Bool) (v2:Bool),e=.returned (.tuple #[.bool v0,.bool v1,.bool v2])/\K v0 v1 v2 w1
abbrev SL (n:Nat) (l:Array a4) (w:ak) (K:cA):Prop:=Calls prog n l w λe w1=>∃ (v0:a4),e=.returned v0/\K v0 w1
abbrev Ab (n:Nat) (l:Array a4) (w:ak) (K:Int->Int->Bool->aE):Prop:=Calls prog n l w λe w1=>∃ (v0:Int) (v1:Int) (v2:Bool),e=.returned (.tuple #[.int .i64 v0,.int .i64 v1,.bool v2])/\K v0 v1 v2 w1
abbrev SP (n:Nat) (l:Array a4) (w:ak) (K:Int->Bool->aE):Prop:=Calls prog n l w λe w1=>∃ (v0:Int) (v1:Bool),e=.returned (.tuple #[.int .i64 v0,.bool v1])/\K v0 v1 w1
abbrev xl (n:Nat) (l:Array a4) (w:ak) (K:Int->Bool->aE):Prop:=Calls prog n l w λe w1=>∃ (v0:Int) (v1:Bool),e=.returned (.tuple #[.int .u64 v0,.bool v1])/\K v0 v1 w1
abbrev lO (w:ak) (a:aU) (K:aG->Prop):Prop:=aG.ex λr=>b6 w a 0 r.cells/\K r
abbrev pC (w:ak) (a:aU) (K:bR->Prop):Prop:=bR.ex λr=>b6 w a 0 r.cells/\K r
abbrev uu (X:aE) (a:aU) (K:aJ->Prop):Prop:=aJ.ex λr=>(∀ u,X u->b6 u a 0 r.cells)/\K r
abbrev SE (w:ak) (a:aU) (K:pg->Prop):Prop:=pg.ex λr=>b6 w a 0 r.cells/\K r
abbrev eD (w:ak) (a:aU) (K:ca->Prop):Prop:=ca.ex λr=>b6 w a 0 r.cells/\K r
abbrev sj (n:Nat) (l:Array a4) (w:ak) (K:ca->aE):Prop:=Calls prog n l w λe w1=>ca.ex λr=>e=.returned r.val/\K r w1
abbrev SF (w:ak) (a:aU) (K:oh->Prop):Prop:=oh.ex λr=>b6 w a 0 r.cells/\K r
abbrev z8 (X:aE) (a:aU) (K:cX->Prop):Prop:=cX.ex λr=>(∀ u,X u->b6 u a 0 r.cells)/\K r
abbrev pD (X:aE) (a:aU) (K:ca->Prop):Prop:=ca.ex λr=>(∀ u,X u->b6 u a 0 r.cells)/\K r
abbrev SG (w:ak) (a:aU) (K:om->Prop):Prop:=om.ex λr=>b6 w a 0 r.cells/\K r
abbrev z9 (w:ak) (a:aU) (K:dv->Prop):Prop:=dv.ex λr=>b6 w a 0 r.cells/\K r
abbrev F1 (w:ak) (a:aU) (K:dr->Prop):Prop:=dr.ex λr=>b6 w a 0 r.cells/\K r
abbrev hb (X:aE) (a:aU) (K:aZ->Prop):Prop:=aZ.ex λr=>(∀ u,X u->b6 u a 0 r.cells)/\K r
abbrev F2 (X:aE) (a:aU) (K:aG->Prop):Prop:=aG.ex λr=>(∀ u,X u->b6 u a 0 r.cells)/\K r
abbrev eL (n:Nat) (l:Array a4) (w:ak) (K:aG->aE):Prop:=Calls prog n l w λe w1=>aG.ex λr=>e=.returned r.val/\K r w1
abbrev dT (w:ak) (a:aU) (K:bB->Prop):Prop:=bB.ex λr=>b6 w a 0 r.cells/\K r
abbrev ht (w:ak) (a:aU) (K:aJ->Prop):Prop:=aJ.ex λr=>b6 w a 0 r.cells/\K r
abbrev ig (w:ak) (a:aU) (K:aZ->Prop):Prop:=aZ.ex λr=>b6 w a 0 r.cells/\K r
abbrev uv (X:aE) (a:aU) (K:dv->Prop):Prop:=dv.ex λr=>(∀ u,X u->b6 u a 0 r.cells)/\K r
abbrev F3 (n:Nat) (l:Array a4) (w:ak) (K:bX->aE):Prop:=Calls prog n l w λe w1=>bX.ex λr=>e=.returned r.val/\K r w1
abbrev lP (w:ak) (a:aU) (K:cX->Prop):Prop:=cX.ex λr=>b6 w a 0 r.cells/\K r
abbrev z_ (w:ak) (a:aU) (K:eP->Prop):Prop:=eP.ex λr=>b6 w a 0 r.cells/\K r
abbrev xj (X:aE) (a:aU) (K:bR->Prop):Prop:=bR.ex λr=>(∀ u,X u->b6 u a 0 r.cells)/\K r
abbrev SH (n:Nat) (l:Array a4) (w:ak) (K:bB->aE):Prop:=Calls prog n l w λe w1=>bB.ex λr=>e=.returned r.val/\K r w1
abbrev F4 (X:aE) (a:aU) (K:bB->Prop):Prop:=bB.ex λr=>(∀ u,X u->b6 u a 0 r.cells)/\K r
abbrev hK (w:ak) (a:aU) (K:bX->Prop):Prop:=bX.ex λr=>b6 w a 0 r.cells/\K r
abbrev SI (n:Nat) (l:Array a4) (w:ak) (K:iu->aE):Prop:=Calls prog n l w λe w1=>iu.ex λr=>e=.returned r.val/\K r w1
abbrev F5 (w:ak) (a:aU) (K:iu->Prop):Prop:=iu.ex λr=>b6 w a 0 r.cells/\K r
abbrev Aa (n:Nat) (l:Array a4) (w:ak) (K:cX->aE):Prop:=Calls prog n l w λe w1=>cX.ex λr=>e=.returned r.val/\K r w1
abbrev SM (n:Nat) (l:Array a4) (w:ak) (K:aJ->aE):Prop:=Calls prog n l w λe w1=>aJ.ex λr=>e=.returned r.val/\K r w1
abbrev sm (X:aE) (a:aU) (K:bX->Prop):Prop:=bX.ex λr=>(∀ u,X u->b6 u a 0 r.cells)/\K r
abbrev F8 (w:ak) (a:aU) (K:da->Prop):Prop:=da.ex λr=>b6 w a 0 r.cells/\K r
abbrev F9 (X:aE) (a:aU) (K:da->Prop):Prop:=da.ex λr=>(∀ u,X u->b6 u a 0 r.cells)/\K r
abbrev xk (w:ak) (a:aU) (K:dz->Prop):Prop:=dz.ex λr=>b6 w a 0 r.cells/\K r
abbrev SN (X:aE) (a:aU) (K:dr->Prop):Prop:=dr.ex λr=>(∀ u,X u->b6 u a 0 r.cells)/\K r
abbrev SO (X:aE) (a:aU) (K:dz->Prop):Prop:=dz.ex λr=>(∀ u,X u->b6 u a 0 r.cells)/\K r
end
section
open IntKind
variable (w:ak) (R:cA) {i k:Int}
theorem Uf:bf prog f12 [ab i,ab k] R w=(cond (k<1) (R (ab 0) w) (IntKind.i64=IntKind.i64/\k≠0/\IntKind.i64=IntKind.i64/\k≠0/\R (ab (Int.tmod (i64.wrap ((Int.tmod i k)+k)) k)) w)):=by kernel_rfl
end
section
theorem s' (w:ak) (x n:Int) (i:-9223372036854775808<=x/\x<9223372036854775808) (g:n<4611686018427387904):a_ 12 [.int .i64 x,.int .i64 n] w λv w'=>v=.int .i64 (if n<1 then 0 else x % n)/\w'=w:=by
 refine bc Tryz.func12 ?_;rw [Uf];refine a' (λh=>⟨by rw [if_pos h],rfl⟩) (λh=>⟨rfl,by omega,rfl,by omega,?_,rfl⟩);rw [if_neg h];have b:0<n:=by omega
 have key:∃ t k,Int.tmod x n=t/\-n<t/\t<n/\t+n * k=x:=by
  rcases Int.le_total 0 x with a | a
  ·refine ⟨x % n,x / n,x7 a,?_,yd x b,Int.emod_add_mul_ediv x n⟩;have:=x2 x (Int.ne_of_gt b);omega
  ·refine ⟨-((-x) % n),-((-x) / n),?_,?_,?_,?_⟩
   ·rw [<-x7 (by omega),Int.neg_tmod,Int.neg_neg]
   ·have:=yd (-x) b;omega
   ·have:=x2 (-x) (Int.ne_of_gt b);omega
   ·have:=Int.emod_add_mul_ediv (-x) n;rw [Int.mul_neg];omega
 obtain ⟨t,k,d,e,f,c⟩:=key;rw [d,bC (by omega) (by omega)];congr 1;rw [x7 (by omega),Int.add_emod_right,<-c,Int.add_mul_emod_self_left]
end
section
open IntKind
variable (w:ak) (R:cA) {i k l:Int} {A:aU} {s:al} {a b:Nat} {j:aq} {X:a4} {F:Bool}
theorem U0 (n:cX):bf prog f125 [n.val] R w=(aR w n.cells.toArray 35 λm o=>aR o #[ab 0,ab 0,ad false] 116 λl e=>b4 e (af m 1) λa b c=>cond ((b:Int) == 0) (a8 e (af l 0) 0 [ab 0,ab 0,ad false] λj=>ig j (af l 0) λh=>j=j/\R (.tuple #[h.val,ad false]) j) (b4 e (af m 1) λd f g=>bk d f 0 3 λp=>ig e p λr=>a8 e (af l 0) 0 r.cells λk=>ig k (af l 0) λi=>k=k/\R (.tuple #[i.val,ad true]) k)):=by kernel_rfl
def ua (s1:Int) (s2:aU) (a:al) (b c:Nat) (d f:Int) (j:aq):aq:=ag j 0 1 (ab s1::.pointer (some s2)::ag j 1 25 (ae a b c::ab d::ab f::ag j 26 50 []))
def Gs (a:aU) (j:aq):aq:=ag j 0 2 (.pointer (some a)::ag j 2 78 [])
def w5 (s2:aU) (a:al) (b c:Nat) (d f:Int) (j:aq):aq:=ag j 0 2 (.pointer (some s2)::ag j 2 59 (ae a b c::ab d::ab f::ag j 61 16 []))
def Gt (a:aU) (j:aq):aq:=ag j 0 2 (.pointer (some a)::ag j 2 78 [])
theorem Hi (m:cX):bf prog f166 [m.val,ab i] R w=(aR w m.cells.toArray 35 λj n=>du 200 #[ab i] n λa l=>cond (!a) (R (ab 1) l) (bt l (af j 0) λb=>cond (b<0) (R (ab 2) l) (bt l (af j 0) λc=>cond (c>=16) (R (ab 2) l) (b4 l (af j 1) λd f g=>cond ((f:Int) == 0) (R (ab 1) l) (b4 l (af j 1) λh e k=>cu prog (c0 f166 [1,1,0,1,0,0]) (ua i (af j 0) h e k (e:Nat) 0 (m.val::undef::ab 0::bd 4 (ad (!a)::ab i::ad a::ad (!a)::ad (c>=16)::jp (af j 0)::ab b::ad (b<0)::ad false::jp (af j 0)::ab c::ad (c>=16)::ad (c>=16)::ad ((f:Int) == 0)::jp (af j 1)::ae d f g::c9 f::ad ((f:Int) == 0)::jp (af j 1)::bd 50 []))) (aO 1 (aQ f166 [1,1,1] R)) l))))):=by kernel_rfl
theorem Tq (t:aq->aE):W prog (sb f166 [1,1,0,1,0,0]) (ua i A s a b k l j) (aV t (aO 1 (aQ f166 [1,1,1] R))) w=(cond (l<k) (bk s a l 3 λu=>ig w u λr=>aR w #[ab 0,ab 0,ad false] 116 λe v=>a8 v (af e 0) 0 r.cells λx=>cq x λf p=>cL p (af e 0) λg=>cond (g<0) (R (ab 1) f) (cL p (af e 0) λh=>cond (h>=i) (R (ab 1) f) (cond (l>0) (cL p (af e 0) λc=>fg p (bM A 1) λq d m=>bk q d (i64.wrap (l - 1)) 3 λo=>cL p o λn=>cond (c<=n) (R (ab 1) f) (t (ua i A s a b k (i64.wrap (l+1)) (aF j 0::aF j 1::aF j 2::ab l::jp (af e 0)::ag j 5 21 (ad (l<k)::ab l::jp u::r.val::jp (af e 0)::ab g::ad (g<0)::ad false::jp (af e 0)::ab h::ab i::ad (h>=i)::ad (h>=i)::ad false::ab l::ad (l>0)::ad true::jp (af e 0)::ab c::bI A 1::ae q d m::ab l::ab (i64.wrap (l - 1))::jp o::jp o::ab n::ad (c<=n)::ad (c<=n)::ad (c<=n)::ab (i64.wrap (l+1))::ag j 56 20 []))) f)) (t (ua i A s a b k (i64.wrap (l+1)) (aF j 0::aF j 1::aF j 2::ab l::jp (af e 0)::ag j 5 21 (ad (l<k)::ab l::jp u::r.val::jp (af e 0)::ab g::ad (g<0)::ad false::jp (af e 0)::ab h::ab i::ad (h>=i)::ad (h>=i)::ad false::ab l::ad (l>0)::ad false::bd 10 (ad false::ad false::ab (i64.wrap (l+1))::ag j 56 20 [])))) f)))) (W prog (sb f166 [1,1,1]) (Gs A (aF j 0::ab i::ag j 1 25 (ae s a b::ab k::ab l::ad (l<k)::ag j 27 49 []))) (b0 f166 R) w)):=by kernel_rfl
theorem Ug:W prog (sb f166 [1,1,1]) (Gs A j) (b0 f166 R) w=(b4 w (bM A 1) λb c d=>cu prog (c0 f166 [1,1,1,0,1,0,0]) (w5 A b c d (c:Nat) 0 (ag j 0 60 (bI A 1::ag j 64 16 []))) (aO 3 (aQ f166 [1,1,1,1] R)) w):=by kernel_rfl
theorem Tr (e:aq->aE):W prog (sb f166 [1,1,1,0,1,0,0]) (w5 A s a b i k j) (aV e (aO 3 (aQ f166 [1,1,1,1] R))) w=(cond (k<i) (bk s a k 3 λf=>ig w f λr=>aR w #[ab 0,ab 0,ad false] 116 λc l=>a8 l (af c 0) 0 r.cells λd=>bt d (af c 1) λg=>cond (g<1) (R (ab 2) d) (bt d (af c 1) λh=>cond (h>31) (R (ab 2) d) (e (w5 A s a b i (i64.wrap (k+1)) (ag j 0 7 (jp (af c 0)::ag j 8 53 (ad (k<i)::jp f::r.val::jp (af c 1)::ab g::ad (g<1)::ad false::jp (af c 1)::ab h::ad (h>31)::ad (h>31)::ab (i64.wrap (k+1))::ag j 73 4 [])))) d))) (W prog (sb f166 [1,1,1,1]) (Gt A (ag j 0 61 (ae s a b::ab i::ab k::ad (k<i)::ag j 62 15 []))) (b0 f166 R) w)):=by kernel_rfl
theorem Uh:W prog (sb f166 [1,1,1,1]) (Gt A j) (b0 f166 R) w=(b4 w (bM A 1) λb c d=>du 201 #[ae b c d,.func (.func 202) #[] #[]] w λf a=>cond (!f) (R (ab 13) a) (R (ab 0) a)):=by kernel_rfl
theorem U1:bf prog f200 [ab i] R w=(cond (i>=1) (R (ad (i<=5)) w) (R (ad false) w)):=by kernel_rfl
theorem PD:bf prog f201 [ae s a b,X] R w=(cm 234 #[ae s a b,X] w λc d=>R (ad (c>=0)) d):=by kernel_rfl
theorem Vg (c:aZ):bf prog f202 [c.val] R w=(aR w c.cells.toArray 116 λd b=>g1 b (af d 2) λa=>R (ad a) b):=by kernel_rfl
theorem U2 (l:cX):bf prog f216 [l.val] R w=(aR w l.cells.toArray 35 λj e=>b4 e (af j 1) λa b c=>cond ((b:Int) == 0) (R (a6) e) (b4 e (af j 1) λd f g=>hM d f g 1 (f:Nat) (g:Nat) 3 λm n o=>eg 243 #[ae m n o] e λh i k p=>R (ae h i k) p)):=by kernel_rfl
def v8 (c:al) (a b:Nat) (s1:a4) (d s8:Int) (j:aq):aq:=ae c a b::s1::ag j 0 5 (ab d::ab s8::ag j 5 10 [])
def ER  (j:aq):aq:=ag j 0 19 []
theorem Py:bf prog f234 [ae s a b,X] R w=(cu prog (c0 f234 [1,0,1,0,0]) (v8 s a b X (a:Nat) 0 (bd 2 (ab 0::undef::ae s a b::bd 10 []))) (aO 0 (aQ f234 [1,1] R)) w):=by kernel_rfl
theorem Pv (d:aq->aE):W prog (sb f234 [1,0,1,0,0]) (v8 s a b X i k j) (aV d (aO 0 (aQ f234 [1,1] R))) w=(cond (k<i) (bk s a k 3 λg=>ig w g λr=>iS prog X #[r.val] w λe f=>∃ c,e=.returned (ad c)/\cond c (R (ab k) f) (d (v8 s a b X i (i64.wrap (k+1)) [aF j 0,aF j 1,aF j 2,ab k,aF j 4,ad (k<i),ab k,X,ae s a b,ab k,jp g,r.val,ad c,aF j 13,ab (i64.wrap (k+1))]) f)) (W prog (sb f234 [1,1]) (ER  (ae s a b::X::ag j 0 5 (ab i::ab k::ad (k<i)::ag j 6 9 []))) (b0 f234 R) w)):=by kernel_rfl
theorem Px:W prog (sb f234 [1,1]) (ER  j) (b0 f234 R) w=(R (ab (-1)) w):=by kernel_rfl
theorem U3 (z:cX) (v:aZ) (u:aG):bf prog f241 [z.val,v.val,ad F,u.val] R w=(aR w z.cells.toArray 35 λD E=>aR E v.cells.toArray 116 λt G=>aR G u.cells.toArray 158 λe B=>aR B #[ab 0,ab 0,ab 0,ab 0,ah 0,ah 0,a6,ah 0,ab 0] 158 λA C=>cq C λH j=>cL j (af t 0) λa=>cL j (af t 1) λb=>cH H (af e 1) (ab a) λx=>j x/\cH x (af e 8) (ab b) λy=>bt y (af D 0) λc=>hs 103 #[ab c,ad F] y λd f aW=>cH aW (af e 7) (ah d) λs=>b4 s (af e 6) λg h i=>eg 73 #[ae g h i] s λk l m n=>cH n (af e 6) (ae k l m) λo=>lO o (af e 0) λr=>a8 o (af A 0) 0 r.cells λp=>lO p (af A 0) λq=>p=p/\R q.val p):=by kernel_rfl
end
end Go.Proofs.YtmkljjbioomepaaGreat
