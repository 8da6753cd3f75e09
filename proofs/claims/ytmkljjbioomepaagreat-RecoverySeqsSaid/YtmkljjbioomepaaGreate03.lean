import Derived.Test.YtmkljjbioomepaaGreate02
import Derived.Test.YtmkljjbioomepaaGreatProg
set_option linter.all false
namespace Go.Proofs.YtmkljjbioomepaaGreat
open Go.Proofs.Tryz Go.bn
section
structure bF where
 Code:Int
 Words:an
 cG:Nat
 cy:Nat
def bF.cells (r:bF):aw:=[.int .i64 r.Code,.slice r.Words r.cG r.cy]
def bF.val (r:bF):a0:=.agg r.cells.toArray
def bF.ex (K:bF->Prop):Prop:=∃ (d:Int) (c:an) (b:Nat) (a:Nat),K ⟨d,c,b,a⟩
theorem bF.aS {K:bF->Prop} (r:bF) (h:K r):bF.ex K:=⟨_,_,_,_,h⟩
theorem bF.len (r:bF):r.cells.length=2:=rfl
theorem bF.single (r:bF):∀ u ∈ r.cells,single u=true:=by intro u hu;simp only [bF.cells,dy,kt,or_false] at hu;rcases hu with rfl | rfl<;>rfl
structure aF where
 Kind:Int
 Node:Int
 bQ:Int
 N:Int
 Old:Int
 ai:Int
 Words:an
 cG:Nat
 cy:Nat
 Key:Int
 ch:Int
def aF.cells (r:aF):aw:=[.int .i64 r.Kind,.int .i64 r.Node,.int .i64 r.bQ,.int .i64 r.N,.int .u64 r.Old,.int .u64 r.ai,.slice r.Words r.cG r.cy,.int .u64 r.Key,.int .i64 r.ch]
def aF.val (r:aF):a0:=.agg r.cells.toArray
def aF.ex (K:aF->Prop):Prop:=∃ (e:Int) (f:Int) (j:Int) (k:Int) (i:Int) (h:Int) (c:an) (b:Nat) (a:Nat) (g:Int) (d:Int),K ⟨e,f,j,k,i,h,c,b,a,g,d⟩
theorem aF.aS {K:aF->Prop} (r:aF) (h:K r):aF.ex K:=⟨_,_,_,_,_,_,_,_,_,_,_,h⟩
theorem aF.len (r:aF):r.cells.length=9:=rfl
theorem aF.single (r:aF):∀ u ∈ r.cells,single u=true:=by intro u hu;simp only [aF.cells,dy,kt,or_false] at hu;rcases hu with rfl | rfl | rfl | rfl | rfl | rfl | rfl | rfl | rfl<;>rfl
structure nD where
 su:Int
def nD.cells (r:nD):aw:=[.int .i64 r.su]
def nD.val (r:nD):a0:=.agg r.cells.toArray
def nD.ex (K:nD->Prop):Prop:=∃ (a:Int),K ⟨a⟩
structure nF where
 su:Int
 Number:Int
 Client:Int
 Round:Int
 qE:Int
def nF.cells (r:nF):aw:=[.int .i64 r.su,.int .i64 r.Number,.int .i64 r.Client,.int .i64 r.Round,.int .u64 r.qE]
def nF.val (r:nF):a0:=.agg r.cells.toArray
def nF.ex (K:nF->Prop):Prop:=∃ (c:Int) (b:Int) (a:Int) (d:Int) (e:Int),K ⟨c,b,a,d,e⟩
structure cO where
 Number:Int
 e8:an
 eM:Nat
 fv:Nat
def cO.cells (r:cO):aw:=[.int .i64 r.Number,.slice r.e8 r.eM r.fv]
def cO.val (r:cO):a0:=.agg r.cells.toArray
def cO.ex (K:cO->Prop):Prop:=∃ (d:Int) (c:an) (b:Nat) (a:Nat),K ⟨d,c,b,a⟩
theorem cO.aS {K:cO->Prop} (r:cO) (h:K r):cO.ex K:=⟨_,_,_,_,h⟩
theorem cO.single (r:cO):∀ u ∈ r.cells,single u=true:=by intro u hu;simp only [cO.cells,dy,kt,or_false] at hu;rcases hu with rfl | rfl<;>rfl
structure cU where
 Client:Int
 Seq:Int
 gS:Int
 View:cO
 Reads:an
 ky:Nat
 ob:Nat
 ef:an
 dF:Nat
 gT:Nat
def cU.cells (r:cU):aw:=[.int .i64 r.Client,.int .i64 r.Seq,.int .i64 r.gS,.int .i64 r.View.Number,.slice r.View.e8 r.View.eM r.View.fv,.slice r.Reads r.ky r.ob,.slice r.ef r.dF r.gT]
def cU.val (r:cU):a0:=.agg r.cells.toArray
def cU.ex (K:cU->Prop):Prop:=∃ (i:Int) (n:Int) (k:Int) (d:Int) (c:an) (b:Nat) (a:Nat) (l:an) (h:Nat) (g:Nat) (j:an) (f:Nat) (e:Nat),K ⟨i,n,k,⟨d,c,b,a⟩,l,h,g,j,f,e⟩
theorem cU.aS {K:cU->Prop} (r:cU) (h:K r):cU.ex K:=⟨_,_,_,_,_,_,_,_,_,_,_,_,_,h⟩
theorem cU.single (r:cU):∀ u ∈ r.cells,single u=true:=by intro u hu;simp only [cU.cells,dy,kt,or_false] at hu;rcases hu with rfl | rfl | rfl | rfl | rfl | rfl | rfl<;>rfl
structure cN where
 Client:Int
 hL:Int
 gS:Int
 View:cO
 ez:Int
 fu:Int
 hb:Int
def cN.cells (r:cN):aw:=[.int .i64 r.Client,.int .i64 r.hL,.int .i64 r.gS,.int .i64 r.View.Number,.slice r.View.e8 r.View.eM r.View.fv,.int .i64 r.ez,.int .i64 r.fu,.int .u64 r.hb]
def cN.val (r:cN):a0:=.agg r.cells.toArray
def cN.ex (K:cN->Prop):Prop:=∃ (e:Int) (j:Int) (f:Int) (d:Int) (c:an) (b:Nat) (a:Nat) (g:Int) (h:Int) (i:Int),K ⟨e,j,f,⟨d,c,b,a⟩,g,h,i⟩
theorem cN.aS {K:cN->Prop} (r:cN) (h:K r):cN.ex K:=⟨_,_,_,_,_,_,_,_,_,_,h⟩
structure cf where
 Kind:Int
 Client:Int
 Hw:nD
 sw:nF
 ie:cU
 Recover:cN
 xN:an
 uI:Nat
 xP:Nat
 mq:Bool
 um:Bool
 Code:Int
 View:cO
 Status:Int
 Doors:an
 xD:Nat
 sj:Nat
 qE:Int
 pg:Int
 iH:Int
 Seq:Int
 j1:Int
def cf.cells (r:cf):aw:=[.int .i64 r.Kind,.int .i64 r.Client,.int .i64 r.Hw.su,.int .i64 r.sw.su,.int .i64 r.sw.Number,.int .i64 r.sw.Client,.int .i64 r.sw.Round,.int .u64 r.sw.qE,.int .i64 r.ie.Client,.int .i64 r.ie.Seq,.int .i64 r.ie.gS,.int .i64 r.ie.View.Number,.slice r.ie.View.e8 r.ie.View.eM r.ie.View.fv,.slice r.ie.Reads r.ie.ky r.ie.ob,.slice r.ie.ef r.ie.dF r.ie.gT,.int .i64 r.Recover.Client,.int .i64 r.Recover.hL,.int .i64 r.Recover.gS,.int .i64 r.Recover.View.Number,.slice r.Recover.View.e8 r.Recover.View.eM r.Recover.View.fv,.int .i64 r.Recover.ez,.int .i64 r.Recover.fu,.int .u64 r.Recover.hb,.slice r.xN r.uI r.xP,.bool r.mq,.bool r.um,.int .i64 r.Code,.int .i64 r.View.Number,.slice r.View.e8 r.View.eM r.View.fv,.int .i64 r.Status,.slice r.Doors r.xD r.sj,.int .u64 r.qE,.int .i64 r.pg,.int .i64 r.iH,.int .i64 r.Seq,.int .i64 r.j1]
def cf.val (r:cf):a0:=.agg r.cells.toArray
def cf.ex (K:cf->Prop):Prop:=∃ (V:Int) (O:Int) (n:Int) (D:Int) (y:Int) (x:Int) (E:Int) (I:Int) (r:Int) (H:Int) (u:Int) (h:Int) (f:an) (d:Nat) (c:Nat) (w:an) (l:Nat) (k:Nat) (s:an) (j:Nat) (i:Nat) (o:Int) (F:Int) (t:Int) (g:Int) (e:an) (b:Nat) (a:Nat) (z:Int) (A:Int) (B:Int) (Y:an) (S:Nat) (R:Nat) (W:Bool) (X:Bool) (T:Int) (G:Int) (C:an) (q:Nat) (p:Nat) (P:Int) (Q:an) (L:Nat) (J:Nat) (Ui:Int) (U:Int) (N:Int) (Z:Int) (M:Int),K ⟨V,O,⟨n⟩,⟨D,y,x,E,I⟩,⟨r,H,u,⟨h,f,d,c⟩,w,l,k,s,j,i⟩,⟨o,F,t,⟨g,e,b,a⟩,z,A,B⟩,Y,S,R,W,X,T,⟨G,C,q,p⟩,P,Q,L,J,Ui,U,N,Z,M⟩
theorem cf.aS {K:cf->Prop} (r:cf) (h:K r):cf.ex K:=⟨_,_,_,_,_,_,_,_,_,_,_,_,_,_,_,_,_,_,_,_,_,_,_,_,_,_,_,_,_,_,_,_,_,_,_,_,_,_,_,_,_,_,_,_,_,_,_,_,_,_,h⟩
theorem cf.len (r:cf):r.cells.length=36:=rfl
theorem cf.single (r:cf):∀ u ∈ r.cells,single u=true:=by intro u hu;simp only [cf.cells,dy,kt,or_false] at hu;rcases hu with rfl | rfl | rfl | rfl | rfl | rfl | rfl | rfl | rfl | rfl | rfl | rfl | rfl | rfl | rfl | rfl | rfl | rfl | rfl | rfl | rfl | rfl | rfl | rfl | rfl | rfl | rfl | rfl | rfl | rfl | rfl | rfl | rfl | rfl | rfl | rfl<;>rfl
structure aR where
 bm:Int
 Head:Int
 uw:Int
 A1:Int
 A2:Int
 A3:Int
 A4:Int
 A5:Int
 A6:Int
def aR.cells (r:aR):aw:=[.int .i64 r.bm,.int .u64 r.Head,.int .u64 r.uw,.int .u64 r.A1,.int .u64 r.A2,.int .u64 r.A3,.int .u64 r.A4,.int .u64 r.A5,.int .u64 r.A6]
def aR.val (r:aR):a0:=.agg r.cells.toArray
def aR.ex (K:aR->Prop):Prop:=∃ (i:Int) (h:Int) (a:Int) (b:Int) (c:Int) (d:Int) (e:Int) (f:Int) (g:Int),K ⟨i,h,a,b,c,d,e,f,g⟩
theorem aR.aS {K:aR->Prop} (r:aR) (h:K r):aR.ex K:=⟨_,_,_,_,_,_,_,_,_,h⟩
theorem aR.len (r:aR):r.cells.length=9:=rfl
theorem aR.single (r:aR):∀ u ∈ r.cells,single u=true:=by intro u hu;simp only [aR.cells,dy,kt,or_false] at hu;rcases hu with rfl | rfl | rfl | rfl | rfl | rfl | rfl | rfl | rfl<;>rfl
structure om where
 bQ:Int
 Kind:Int
 A:Int
def om.cells (r:om):aw:=[.int .i64 r.bQ,.int .i64 r.Kind,.int .i64 r.A]
def om.val (r:om):a0:=.agg r.cells.toArray
def om.ex (K:om->Prop):Prop:=∃ (b:Int) (a:Int) (c:Int),K ⟨b,a,c⟩
structure aO where
 Node:Int
 ch:Int
 Full:Bool
def aO.cells (r:aO):aw:=[.int .i64 r.Node,.int .i64 r.ch,.bool r.Full]
def aO.val (r:aO):a0:=.agg r.cells.toArray
def aO.ex (K:aO->Prop):Prop:=∃ (c:Int) (a:Int) (b:Bool),K ⟨c,a,b⟩
theorem aO.aS {K:aO->Prop} (r:aO) (h:K r):aO.ex K:=⟨_,_,_,h⟩
theorem aO.len (r:aO):r.cells.length=3:=rfl
theorem aO.single (r:aO):∀ u ∈ r.cells,single u=true:=by intro u hu;simp only [aO.cells,dy,kt,or_false] at hu;rcases hu with rfl | rfl | rfl<;>rfl
structure pB where
 Code:Int
 Number:Int
 View:cO
 Status:Int
 N1:Bool
 Hint:Int
 GU:an
 GW:Nat
 GV:Nat
 Keys:an
 KY:Nat
 KX:Nat
 Doors:an
 xD:Nat
 sj:Nat
def pB.cells (r:pB):aw:=[.int .i64 r.Code,.int .i64 r.Number,.int .i64 r.View.Number,.slice r.View.e8 r.View.eM r.View.fv,.int .i64 r.Status,.bool r.N1,.int .u64 r.Hint,.slice r.GU r.GW r.GV,.slice r.Keys r.KY r.KX,.slice r.Doors r.xD r.sj]
def pB.val (r:pB):a0:=.agg r.cells.toArray
def pB.ex (K:pB->Prop):Prop:=∃ (q:Int) (k:Int) (d:Int) (c:an) (b:Nat) (a:Nat) (n:Int) (l:Bool) (r:Int) (o:an) (f:Nat) (e:Nat) (s:an) (j:Nat) (i:Nat) (p:an) (h:Nat) (g:Nat),K ⟨q,k,⟨d,c,b,a⟩,n,l,r,o,f,e,s,j,i,p,h,g⟩
structure pJ where
 Code:Int
 qE:Int
 Round:Int
def pJ.cells (r:pJ):aw:=[.int .i64 r.Code,.int .u64 r.qE,.int .i64 r.Round]
def pJ.val (r:pJ):a0:=.agg r.cells.toArray
def pJ.ex (K:pJ->Prop):Prop:=∃ (b:Int) (c:Int) (a:Int),K ⟨b,c,a⟩
structure bq where
 Code:Int
 pg:Int
def bq.cells (r:bq):aw:=[.int .i64 r.Code,.int .i64 r.pg]
def bq.val (r:bq):a0:=.agg r.cells.toArray
def bq.ex (K:bq->Prop):Prop:=∃ (a:Int) (b:Int),K ⟨a,b⟩
theorem bq.aS {K:bq->Prop} (r:bq) (h:K r):bq.ex K:=⟨_,_,h⟩
theorem bq.single (r:bq):∀ u ∈ r.cells,single u=true:=by intro u hu;simp only [bq.cells,dy,kt,or_false] at hu;rcases hu with rfl | rfl<;>rfl
structure dj where
 Code:Int
 iH:Int
 Seq:Int
 j1:Int
 Jo:Int
def dj.cells (r:dj):aw:=[.int .i64 r.Code,.int .i64 r.iH,.int .i64 r.Seq,.int .i64 r.j1,.int .u64 r.Jo]
def dj.val (r:dj):a0:=.agg r.cells.toArray
def dj.ex (K:dj->Prop):Prop:=∃ (d:Int) (b:Int) (e:Int) (a:Int) (c:Int),K ⟨d,b,e,a,c⟩
theorem dj.aS {K:dj->Prop} (r:dj) (h:K r):dj.ex K:=⟨_,_,_,_,_,h⟩
theorem dj.single (r:dj):∀ u ∈ r.cells,single u=true:=by intro u hu;simp only [dj.cells,dy,kt,or_false] at hu;rcases hu with rfl | rfl | rfl | rfl | rfl<;>rfl
structure h0 where
 l:a4
def h0.cells (r:h0):aw:=r.l.map λx=>.int .u64 x
def h0.val (r:h0):a0:=.agg r.cells.toArray
def h0.ex (K:h0->Prop):Prop:=eJ 256 λl=>K ⟨l⟩
theorem h0.aS {K:h0->Prop} (r:h0) (a:r.l.length=256) (h:K r):h0.ex K:=CJ 256 r.l a h
structure bN where
 Seq:Int
 ef:an
 dF:Nat
 gT:Nat
def bN.cells (r:bN):aw:=[.int .i64 r.Seq,.slice r.ef r.dF r.gT]
def bN.val (r:bN):a0:=.agg r.cells.toArray
def bN.ex (K:bN->Prop):Prop:=∃ (d:Int) (c:an) (b:Nat) (a:Nat),K ⟨d,c,b,a⟩
theorem bN.aS {K:bN->Prop} (r:bN) (h:K r):bN.ex K:=⟨_,_,_,_,h⟩
theorem bN.single (r:bN):∀ u ∈ r.cells,single u=true:=by intro u hu;simp only [bN.cells,dy,kt,or_false] at hu;rcases hu with rfl | rfl<;>rfl
structure en where
 bm:Int
 Head:Int
def en.cells (r:en):aw:=[.int .i64 r.bm,.int .u64 r.Head]
def en.val (r:en):a0:=.agg r.cells.toArray
def en.ex (K:en->Prop):Prop:=∃ (b:Int) (a:Int),K ⟨b,a⟩
theorem en.aS {K:en->Prop} (r:en) (h:K r):en.ex K:=⟨_,_,h⟩
theorem en.len (r:en):r.cells.length=2:=rfl
theorem en.single (r:en):∀ u ∈ r.cells,single u=true:=by intro u hu;simp only [en.cells,dy,kt,or_false] at hu;rcases hu with rfl | rfl<;>rfl
structure c4 where
 aP:Int
 least:Int
 exact:Bool
def c4.cells (r:c4):aw:=[.int .i64 r.aP,.int .u64 r.least,.bool r.exact]
def c4.val (r:c4):a0:=.agg r.cells.toArray
def c4.ex (K:c4->Prop):Prop:=∃ (a:Int) (c:Int) (b:Bool),K ⟨a,c,b⟩
theorem c4.aS {K:c4->Prop} (r:c4) (h:K r):c4.ex K:=⟨_,_,_,h⟩
theorem c4.len (r:c4):r.cells.length=3:=rfl
theorem c4.single (r:c4):∀ u ∈ r.cells,single u=true:=by intro u hu;simp only [c4.cells,dy,kt,or_false] at hu;rcases hu with rfl | rfl | rfl<;>rfl
abbrev mR (n:Nat) (l:Array a0) (w:al) (K:an->aE):Prop:=Calls prog n l w λe w1=>∃ (v0:an),e=.returned (.pointer v0)/\K v0 w1
abbrev s_ (n:Nat) (l:Array a0) (w:al) (K:an->Nat->Nat->Int->aE):Prop:=Calls prog n l w λe w1=>∃ (v0:an) (v1:Nat) (v2:Nat) (a:Int),e=.returned (.tuple #[.slice v0 v1 v2,.int .i64 a])/\K v0 v1 v2 a w1
abbrev dN (w:al) (a:aV) (K:Int->Prop):Prop:=∃ (v0:Int),w.cell? a=some (.int .u64 v0)/\K v0
abbrev y9 (n:Nat) (l:Array a0) (w:al) (K:an->Int->aE):Prop:=Calls prog n l w λe w1=>∃ (v0:an) (v1:Int),e=.returned (.tuple #[.pointer v0,.int .i64 v1])/\K v0 v1 w1
abbrev cm (n:Nat) (l:Array a0) (w:al) (K:Int->aE):Prop:=Calls prog n l w λe w1=>∃ (v0:Int),e=.returned (.int .i64 v0)/\K v0 w1
abbrev bG (w:al) (a:aV) (K:Int->Prop):Prop:=∃ (v0:Int),w.cell? a=some (.int .i64 v0)/\K v0
abbrev dm (n:Nat) (l:Array a0) (w:al) (K:Bool->aE):Prop:=Calls prog n l w λe w1=>∃ (v0:Bool),e=.returned (.bool v0)/\K v0 w1
abbrev cP (S:aE) (a:aV) (K:Int->Prop):Prop:=∃ (v0:Int),(∀ u,S u->u.cell? a=some (.int .i64 v0))/\K v0
abbrev td (n:Nat) (l:Array a0) (w:al) (K:aE):Prop:=Calls prog n l w λe w1=>e=.returned (.tuple #[])/\K  w1
abbrev eF (n:Nat) (l:Array a0) (w:al) (K:an->Nat->Nat->aE):Prop:=Calls prog n l w λe w1=>∃ (v0:an) (v1:Nat) (v2:Nat),e=.returned (.slice v0 v1 v2)/\K v0 v1 v2 w1
abbrev ES (w:al) (a:aV) (K:Int->Int->Int->Prop):Prop:=∃ (v0:Int) (v1:Int) (v2:Int),b7 w a 0 [.int .i64 v0,.int .i64 v1,.int .i64 v2]/\K v0 v1 v2
abbrev b0 (w:al) (a:aV) (K:an->Nat->a2):Prop:=∃ (v0:an) (v1:Nat) (v2:Nat),w.cell? a=some (.slice v0 v1 v2)/\K v0 v1 v2
abbrev e1 (S:aE) (a:aV) (K:an->Nat->a2):Prop:=∃ (v0:an) (v1:Nat) (v2:Nat),(∀ u,S u->u.cell? a=some (.slice v0 v1 v2))/\K v0 v1 v2
abbrev jM (w:al) (a:aV) (K:Bool->Prop):Prop:=∃ (v0:Bool),w.cell? a=some (.bool v0)/\K v0
abbrev iV (n:Nat) (l:Array a0) (w:al) (K:Int->aE):Prop:=Calls prog n l w λe w1=>∃ (v0:Int),e=.returned (.int .u64 v0)/\K v0 w1
abbrev s' (w:al) (a:aV) (K:Int->an->Nat->a2):Prop:=∃ (v0:Int) (v1:an) (v2:Nat) (b:Nat),b7 w a 0 [.int .i64 v0,.slice v1 v2 b]/\K v0 v1 v2 b
abbrev iW (w:al) (a:aV) (K:Int->Int->Int->Int->Int->Int->an->Nat->Nat->Int->Int->Prop):Prop:=∃ (v0:Int) (v1:Int) (v2:Int) (b:Int) (v4:Int) (c:Int) (v6:an) (d:Nat) (e:Nat) (f:Int) (v10:Int),b7 w a 0 [.int .i64 v0,.int .i64 v1,.int .i64 v2,.int .i64 b,.int .u64 v4,.int .u64 c,.slice v6 d e,.int .u64 f,.int .i64 v10]/\K v0 v1 v2 b v4 c v6 d e f v10
abbrev lZ (S:aE) (a:aV) (K:Int->Int->Int->Int->Int->Int->an->Nat->Nat->Int->Int->Prop):Prop:=∃ (v0:Int) (v1:Int) (v2:Int) (b:Int) (v4:Int) (c:Int) (v6:an) (d:Nat) (e:Nat) (f:Int) (v10:Int),(∀ u,S u->b7 u a 0 [.int .i64 v0,.int .i64 v1,.int .i64 v2,.int .i64 b,.int .u64 v4,.int .u64 c,.slice v6 d e,.int .u64 f,.int .i64 v10])/\K v0 v1 v2 b v4 c v6 d e f v10
abbrev RF (S:aE) (a:aV) (K:Int->Int->Prop):Prop:=∃ (v0:Int) (v1:Int),(∀ u,S u->b7 u a 0 [.int .i64 v0,.int .i64 v1])/\K v0 v1
abbrev g6 (n:Nat) (l:Array a0) (w:al) (K:Int->Int->aE):Prop:=Calls prog n l w λe w1=>∃ (v0:Int) (v1:Int),e=.returned (.tuple #[.int .u64 v0,.int .i64 v1])/\K v0 v1 w1
abbrev ET (n:Nat) (l:Array a0) (w:al) (K:Int->Int->aE):Prop:=Calls prog n l w λe w1=>∃ (v0:Int) (v1:Int),e=.returned (.tuple #[.int .i64 v0,.int .i64 v1])/\K v0 v1 w1
abbrev RG (n:Nat) (l:Array a0) (w:al) (K:Int->Int->Int->Int->Int->Int->an->Nat->Nat->Int->Int->aE):Prop:=Calls prog n l w λe w1=>∃ (v0:Int) (v1:Int) (v2:Int) (a:Int) (v4:Int) (b:Int) (v6:an) (c:Nat) (d:Nat) (f:Int) (v10:Int),e=.returned (.agg #[.int .i64 v0,.int .i64 v1,.int .i64 v2,.int .i64 a,.int .u64 v4,.int .u64 b,.slice v6 c d,.int .u64 f,.int .i64 v10])/\K v0 v1 v2 a v4 b v6 c d f v10 w1
abbrev y8 (S:aE) (a:aV) (K:Int->an->Nat->a2):Prop:=∃ (v0:Int) (v1:an) (v2:Nat) (b:Nat),(∀ u,S u->b7 u a 0 [.int .i64 v0,.slice v1 v2 b])/\K v0 v1 v2 b
abbrev js (S:aE) (a:aV) (K:Int->Prop):Prop:=∃ (v0:Int),(∀ u,S u->u.cell? a=some (.int .u64 v0))/\K v0
abbrev iX (n:Nat) (l:Array a0) (w:al) (K:an->Nat->Nat->Bool->aE):Prop:=Calls prog n l w λe w1=>∃ (v0:an) (v1:Nat) (v2:Nat) (a:Bool),e=.returned (.tuple #[.slice v0 v1 v2,.bool a])/\K v0 v1 v2 a w1
abbrev l0 (w:al) (a:aV) (K:an->Prop):Prop:=∃ (v0:an),w.cell? a=some (.pointer v0)/\K v0
abbrev RM (w:al) (a:aV) (K:Int->Prop):Prop:=∃ (v0:Int),w.cell? a=some (.int .u8 v0)/\K v0
abbrev EZ (w:al) (a:aV) (K:an->an->Nat->a2):Prop:=∃ (v0:an) (v1:an) (v2:Nat) (b:Nat),b7 w a 0 [.pointer v0,.slice v1 v2 b]/\K v0 v1 v2 b
abbrev ri (S:aE) (a:aV) (K:an->Prop):Prop:=∃ (v0:an),(∀ u,S u->u.cell? a=some (.pointer v0))/\K v0
abbrev RN (w:al) (a:aV) (K:Bool->Int->an->Nat->Nat->an->Nat->Nat->Int->Int->Int->Prop):Prop:=∃ (v0:Bool) (v1:Int) (v2:an) (b:Nat) (v4:Nat) (c:an) (v6:Nat) (d:Nat) (e:Int) (f:Int) (v10:Int),b7 w a 0 [.bool v0,.int .i64 v1,.slice v2 b v4,.slice c v6 d,.int .i64 e,.int .i64 f,.int .i64 v10]/\K v0 v1 v2 b v4 c v6 d e f v10
abbrev zb (n:Nat) (l:Array a0) (w:al) (K:Int->an->Nat->Nat->Bool->aE):Prop:=Calls prog n l w λe w1=>∃ (v0:Int) (v1:an) (v2:Nat) (a:Nat) (v4:Bool),e=.returned (.tuple #[.agg #[.int .i64 v0,.slice v1 v2 a],.bool v4])/\K v0 v1 v2 a v4 w1
abbrev E0 (n:Nat) (l:Array a0) (w:al) (K:an->Bool->aE):Prop:=Calls prog n l w λe w1=>∃ (v0:an) (v1:Bool),e=.returned (.tuple #[.pointer v0,.bool v1])/\K v0 v1 w1
abbrev RO (n:Nat) (l:Array a0) (w:al) (K:cp):Prop:=Calls prog n l w λe w1=>∃ (v0:a0),e=.returned v0/\K v0 w1
abbrev zc (n:Nat) (l:Array a0) (w:al) (K:Int->Int->Bool->aE):Prop:=Calls prog n l w λe w1=>∃ (v0:Int) (v1:Int) (v2:Bool),e=.returned (.tuple #[.int .i64 v0,.int .i64 v1,.bool v2])/\K v0 v1 v2 w1
abbrev RS (n:Nat) (l:Array a0) (w:al) (K:Int->Bool->aE):Prop:=Calls prog n l w λe w1=>∃ (v0:Int) (v1:Bool),e=.returned (.tuple #[.int .i64 v0,.bool v1])/\K v0 v1 w1
abbrev ln (w:al) (a:aV) (K:aF->Prop):Prop:=aF.ex λr=>b7 w a 0 r.cells/\K r
abbrev oI (w:al) (a:aV) (K:bF->Prop):Prop:=bF.ex λr=>b7 w a 0 r.cells/\K r
abbrev ta (X:aE) (a:aV) (K:aR->Prop):Prop:=aR.ex λr=>(∀ u,X u->b7 u a 0 r.cells)/\K r
abbrev RH (w:al) (a:aV) (K:om->Prop):Prop:=om.ex λr=>b7 w a 0 r.cells/\K r
abbrev ey (w:al) (a:aV) (K:cf->Prop):Prop:=cf.ex λr=>b7 w a 0 r.cells/\K r
abbrev pV (n:Nat) (l:Array a0) (w:al) (K:cf->aE):Prop:=Calls prog n l w λe w1=>cf.ex λr=>e=.returned r.val/\K r w1
abbrev RI (w:al) (a:aV) (K:nD->Prop):Prop:=nD.ex λr=>b7 w a 0 r.cells/\K r
abbrev y_ (X:aE) (a:aV) (K:cO->Prop):Prop:=cO.ex λr=>(∀ u,X u->b7 u a 0 r.cells)/\K r
abbrev rh (X:aE) (a:aV) (K:cf->Prop):Prop:=cf.ex λr=>(∀ u,X u->b7 u a 0 r.cells)/\K r
abbrev RJ (w:al) (a:aV) (K:nF->Prop):Prop:=nF.ex λr=>b7 w a 0 r.cells/\K r
abbrev y' (w:al) (a:aV) (K:cU->Prop):Prop:=cU.ex λr=>b7 w a 0 r.cells/\K r
abbrev EU (w:al) (a:aV) (K:cN->Prop):Prop:=cN.ex λr=>b7 w a 0 r.cells/\K r
abbrev gO (X:aE) (a:aV) (K:aO->Prop):Prop:=aO.ex λr=>(∀ u,X u->b7 u a 0 r.cells)/\K r
abbrev EV (X:aE) (a:aV) (K:aF->Prop):Prop:=aF.ex λr=>(∀ u,X u->b7 u a 0 r.cells)/\K r
abbrev eh (n:Nat) (l:Array a0) (w:al) (K:aF->aE):Prop:=Calls prog n l w λe w1=>aF.ex λr=>e=.returned r.val/\K r w1
abbrev dH (w:al) (a:aV) (K:bq->Prop):Prop:=bq.ex λr=>b7 w a 0 r.cells/\K r
abbrev hG (w:al) (a:aV) (K:aR->Prop):Prop:=aR.ex λr=>b7 w a 0 r.cells/\K r
abbrev hX (w:al) (a:aV) (K:aO->Prop):Prop:=aO.ex λr=>b7 w a 0 r.cells/\K r
abbrev tc (X:aE) (a:aV) (K:cU->Prop):Prop:=cU.ex λr=>(∀ u,X u->b7 u a 0 r.cells)/\K r
abbrev EW (n:Nat) (l:Array a0) (w:al) (K:bN->aE):Prop:=Calls prog n l w λe w1=>bN.ex λr=>e=.returned r.val/\K r w1
abbrev lo (w:al) (a:aV) (K:cO->Prop):Prop:=cO.ex λr=>b7 w a 0 r.cells/\K r
abbrev za (w:al) (a:aV) (K:en->Prop):Prop:=en.ex λr=>b7 w a 0 r.cells/\K r
abbrev vY (X:aE) (a:aV) (K:bF->Prop):Prop:=bF.ex λr=>(∀ u,X u->b7 u a 0 r.cells)/\K r
abbrev RK (n:Nat) (l:Array a0) (w:al) (K:bq->aE):Prop:=Calls prog n l w λe w1=>bq.ex λr=>e=.returned r.val/\K r w1
abbrev EX (X:aE) (a:aV) (K:bq->Prop):Prop:=bq.ex λr=>(∀ u,X u->b7 u a 0 r.cells)/\K r
abbrev hn (w:al) (a:aV) (K:bN->Prop):Prop:=bN.ex λr=>b7 w a 0 r.cells/\K r
abbrev RL (n:Nat) (l:Array a0) (w:al) (K:h0->aE):Prop:=Calls prog n l w λe w1=>h0.ex λr=>e=.returned r.val/\K r w1
abbrev EY (w:al) (a:aV) (K:h0->Prop):Prop:=h0.ex λr=>b7 w a 0 r.cells/\K r
abbrev E1 (n:Nat) (l:Array a0) (w:al) (K:cO->aE):Prop:=Calls prog n l w λe w1=>cO.ex λr=>e=.returned r.val/\K r w1
abbrev RP (n:Nat) (l:Array a0) (w:al) (K:aR->aE):Prop:=Calls prog n l w λe w1=>aR.ex λr=>e=.returned r.val/\K r w1
abbrev rj (X:aE) (a:aV) (K:bN->Prop):Prop:=bN.ex λr=>(∀ u,X u->b7 u a 0 r.cells)/\K r
abbrev E2 (w:al) (a:aV) (K:c4->Prop):Prop:=c4.ex λr=>b7 w a 0 r.cells/\K r
abbrev E3 (X:aE) (a:aV) (K:c4->Prop):Prop:=c4.ex λr=>(∀ u,X u->b7 u a 0 r.cells)/\K r
abbrev vZ (w:al) (a:aV) (K:dj->Prop):Prop:=dj.ex λr=>b7 w a 0 r.cells/\K r
abbrev RQ (X:aE) (a:aV) (K:cN->Prop):Prop:=cN.ex λr=>(∀ u,X u->b7 u a 0 r.cells)/\K r
abbrev RR (X:aE) (a:aV) (K:dj->Prop):Prop:=dj.ex λr=>(∀ u,X u->b7 u a 0 r.cells)/\K r
end
section
open IntKind
variable (w:al) (R:cp) {i k:Int}
theorem SV:bd prog f12 [ab i,ab k] R w=(cond (k<1) (R (ab 0) w) (IntKind.i64=IntKind.i64/\k≠0/\IntKind.i64=IntKind.i64/\k≠0/\R (ab (Int.tmod (i64.wrap ((Int.tmod i k)+k)) k)) w)):=by kernel_rfl
end
section
theorem p0 (w:al) (x n:Int) (i:-9223372036854775808<=x/\x<9223372036854775808) (g:n<4611686018427387904):ba 12 [.int .i64 x,.int .i64 n] w λv w'=>v=.int .i64 (if n<1 then 0 else x % n)/\w'=w:=by
 refine bc Tryz.func12 ?_;rw [SV];refine a9 (λh=>⟨by rw [if_pos h],rfl⟩) (λh=>⟨rfl,by omega,rfl,by omega,?_,rfl⟩);rw [if_neg h];have b:0<n:=by omega
 have key:∃ t k,Int.tmod x n=t/\-n<t/\t<n/\t+n * k=x:=by
  rcases Int.le_total 0 x with a | a
  ·refine ⟨x % n,x / n,wR a,?_,w3 x b,Int.emod_add_mul_ediv x n⟩;have:=w4 x (Int.ne_of_gt b);omega
  ·refine ⟨-((-x) % n),-((-x) / n),?_,?_,?_,?_⟩
   ·rw [<-wR (by omega),Int.neg_tmod,Int.neg_neg]
   ·have:=w3 (-x) b;omega
   ·have:=w4 (-x) (Int.ne_of_gt b);omega
   ·have:=Int.emod_add_mul_ediv (-x) n;rw [Int.mul_neg];omega
 obtain ⟨t,k,d,e,f,c⟩:=key;rw [d,bA (by omega) (by omega)];congr 1;rw [wR (by omega),Int.add_emod_right,<-c,Int.add_mul_emod_self_left]
end
section
open IntKind
variable (w:al) (R:cp) {i k l:Int} {A:aV} {s:an} {a b:Nat} {j:aq} {X:a0} {F:Bool}
theorem TG (m:cO):bd prog f125 [m.val] R w=(aQ w m.cells.toArray 35 λn o=>aQ o #[ab 0,ab 0,ad false] 116 λk e=>b0 e (af n 1) λa b c=>cond ((b:Int) == 0) (a_ e (af k 0) 0 [ab 0,ab 0,ad false] λl=>hX l (af k 0) λh=>l=l/\R (.tuple #[h.val,ad false]) l) (b0 e (af n 1) λd f g=>bB d f 0 3 λp=>hX e p λr=>a_ e (af k 0) 0 r.cells λj=>hX j (af k 0) λi=>j=j/\R (.tuple #[i.val,ad true]) j)):=by kernel_rfl
def i0 (s1:Int) (s2:aV) (a:an) (b c:Nat) (d f:Int) (j:aq):aq:=ag j 0 1 (ab s1::.pointer (some s2)::ag j 1 25 (ae a b c::ab d::ab f::ag j 26 50 []))
def E5 (a:aV) (j:aq):aq:=ag j 0 2 (.pointer (some a)::ag j 2 78 [])
def vK (s2:aV) (a:an) (b c:Nat) (d f:Int) (j:aq):aq:=ag j 0 2 (.pointer (some s2)::ag j 2 59 (ae a b c::ab d::ab f::ag j 61 16 []))
def E6 (a:aV) (j:aq):aq:=ag j 0 2 (.pointer (some a)::ag j 2 78 [])
theorem Gw (m:cO):bd prog f166 [m.val,ab i] R w=(aQ w m.cells.toArray 35 λj n=>dm 200 #[ab i] n λa l=>cond (!a) (R (ab 1) l) (bG l (af j 0) λb=>cond (b<0) (R (ab 2) l) (bG l (af j 0) λc=>cond (c>=16) (R (ab 2) l) (b0 l (af j 1) λd f g=>cond ((f:Int) == 0) (R (ab 1) l) (b0 l (af j 1) λh e k=>cx prog (cY f166 [1,1,0,1,0,0]) (i0 i (af j 0) h e k (e:Nat) 0 (m.val::undef::ab 0::bx 4 (ad (!a)::ab i::ad a::ad (!a)::ad (c>=16)::jp (af j 0)::ab b::ad (b<0)::ad false::jp (af j 0)::ab c::ad (c>=16)::ad (c>=16)::ad ((f:Int) == 0)::jp (af j 1)::ae d f g::du f::ad ((f:Int) == 0)::jp (af j 1)::bx 50 []))) (aW 1 (aZ f166 [1,1,1] R)) l))))):=by kernel_rfl
theorem R1 (q:aq->aE):W prog (sb f166 [1,1,0,1,0,0]) (i0 i A s a b k l j) (a1 q (aW 1 (aZ f166 [1,1,1] R))) w=(cond (l<k) (bB s a l 3 λu=>hX w u λr=>aQ w #[ab 0,ab 0,ad false] 116 λe x=>a_ x (af e 0) 0 r.cells λv=>cu v λp f=>cP f (af e 0) λg=>cond (g<0) (R (ab 1) p) (cP f (af e 0) λh=>cond (h>=i) (R (ab 1) p) (cond (l>0) (cP f (af e 0) λc=>e1 f (bS A 1) λt d m=>bB t d (i64.wrap (l - 1)) 3 λo=>cP f o λn=>cond (c<=n) (R (ab 1) p) (q (i0 i A s a b k (i64.wrap (l+1)) (aN j 0::aN j 1::aN j 2::ab l::jp (af e 0)::ag j 5 21 (ad (l<k)::ab l::jp u::r.val::jp (af e 0)::ab g::ad (g<0)::ad false::jp (af e 0)::ab h::ab i::ad (h>=i)::ad (h>=i)::ad false::ab l::ad (l>0)::ad true::jp (af e 0)::ab c::bE A 1::ae t d m::ab l::ab (i64.wrap (l - 1))::jp o::jp o::ab n::ad (c<=n)::ad (c<=n)::ad (c<=n)::ab (i64.wrap (l+1))::ag j 56 20 []))) p)) (q (i0 i A s a b k (i64.wrap (l+1)) (aN j 0::aN j 1::aN j 2::ab l::jp (af e 0)::ag j 5 21 (ad (l<k)::ab l::jp u::r.val::jp (af e 0)::ab g::ad (g<0)::ad false::jp (af e 0)::ab h::ab i::ad (h>=i)::ad (h>=i)::ad false::ab l::ad (l>0)::ad false::bx 10 (ad false::ad false::ab (i64.wrap (l+1))::ag j 56 20 [])))) p)))) (W prog (sb f166 [1,1,1]) (E5 A (aN j 0::ab i::ag j 1 25 (ae s a b::ab k::ab l::ad (l<k)::ag j 27 49 []))) (bW f166 R) w)):=by kernel_rfl
theorem SW:W prog (sb f166 [1,1,1]) (E5 A j) (bW f166 R) w=(b0 w (bS A 1) λb c d=>cx prog (cY f166 [1,1,1,0,1,0,0]) (vK A b c d (c:Nat) 0 (ag j 0 60 (bE A 1::ag j 64 16 []))) (aW 3 (aZ f166 [1,1,1,1] R)) w):=by kernel_rfl
theorem R2 (e:aq->aE):W prog (sb f166 [1,1,1,0,1,0,0]) (vK A s a b i k j) (a1 e (aW 3 (aZ f166 [1,1,1,1] R))) w=(cond (k<i) (bB s a k 3 λf=>hX w f λr=>aQ w #[ab 0,ab 0,ad false] 116 λc l=>a_ l (af c 0) 0 r.cells λd=>bG d (af c 1) λg=>cond (g<1) (R (ab 2) d) (bG d (af c 1) λh=>cond (h>31) (R (ab 2) d) (e (vK A s a b i (i64.wrap (k+1)) (ag j 0 7 (jp (af c 0)::ag j 8 53 (ad (k<i)::jp f::r.val::jp (af c 1)::ab g::ad (g<1)::ad false::jp (af c 1)::ab h::ad (h>31)::ad (h>31)::ab (i64.wrap (k+1))::ag j 73 4 [])))) d))) (W prog (sb f166 [1,1,1,1]) (E6 A (ag j 0 61 (ae s a b::ab i::ab k::ad (k<i)::ag j 62 15 []))) (bW f166 R) w)):=by kernel_rfl
theorem SX:W prog (sb f166 [1,1,1,1]) (E6 A j) (bW f166 R) w=(b0 w (bS A 1) λb c d=>dm 201 #[ae b c d,.func (.func 202) #[] #[]] w λf a=>cond (!f) (R (ab 13) a) (R (ab 0) a)):=by kernel_rfl
theorem TH:bd prog f200 [ab i] R w=(cond (i>=1) (R (ad (i<=5)) w) (R (ad false) w)):=by kernel_rfl
theorem OK:bd prog f201 [ae s a b,X] R w=(cm 234 #[ae s a b,X] w λc d=>R (ad (c>=0)) d):=by kernel_rfl
theorem TW (b:aO):bd prog f202 [b.val] R w=(aQ w b.cells.toArray 116 λd c=>jM c (af d 2) λa=>R (ad a) c):=by kernel_rfl
theorem TI (j:cO):bd prog f216 [j.val] R w=(aQ w j.cells.toArray 35 λl e=>b0 e (af l 1) λa b c=>cond ((b:Int) == 0) (R (a3) e) (b0 e (af l 1) λd f g=>ho d f g 1 (f:Nat) (g:Nat) 3 λo n m=>eF 243 #[ae o n m] e λh i k p=>R (ae h i k) p)):=by kernel_rfl
def u0 (c:an) (a b:Nat) (s1:a0) (d s8:Int) (j:aq):aq:=ae c a b::s1::ag j 0 5 (ab d::ab s8::ag j 5 10 [])
def DV  (j:aq):aq:=ag j 0 19 []
theorem OF:bd prog f234 [ae s a b,X] R w=(cx prog (cY f234 [1,0,1,0,0]) (u0 s a b X (a:Nat) 0 (bx 2 (ab 0::undef::ae s a b::bx 10 []))) (aW 0 (aZ f234 [1,1] R)) w):=by kernel_rfl
theorem OB (d:aq->aE):W prog (sb f234 [1,0,1,0,0]) (u0 s a b X i k j) (a1 d (aW 0 (aZ f234 [1,1] R))) w=(cond (k<i) (bB s a k 3 λf=>hX w f λr=>ix prog X #[r.val] w λe g=>∃ c,e=.returned (ad c)/\cond c (R (ab k) g) (d (u0 s a b X i (i64.wrap (k+1)) [aN j 0,aN j 1,aN j 2,ab k,aN j 4,ad (k<i),ab k,X,ae s a b,ab k,jp f,r.val,ad c,aN j 13,ab (i64.wrap (k+1))]) g)) (W prog (sb f234 [1,1]) (DV  (ae s a b::X::ag j 0 5 (ab i::ab k::ad (k<i)::ag j 6 9 []))) (bW f234 R) w)):=by kernel_rfl
theorem OD:W prog (sb f234 [1,1]) (DV  j) (bW f234 R) w=(R (ab (-1)) w):=by kernel_rfl
theorem TJ (s:cO) (x:aO) (A:aF):bd prog f241 [s.val,x.val,ad F,A.val] R w=(aQ w s.cells.toArray 35 λD G=>aQ G x.cells.toArray 116 λv H=>aQ H A.cells.toArray 158 λe a5=>aQ a5 #[ab 0,ab 0,ab 0,ab 0,ah 0,ah 0,a3,ah 0,ab 0] 158 λy C=>cu C λE j=>cP j (af v 0) λa=>cP j (af v 1) λb=>cE E (af e 1) (ab a) λz=>j z/\cE z (af e 8) (ab b) λt=>bG t (af D 0) λc=>g6 103 #[ab c,ad F] t λd f B=>cE B (af e 7) (ah d) λu=>b0 u (af e 6) λg h i=>eF 73 #[ae g h i] u λk l m n=>cE n (af e 6) (ae k l m) λo=>ln o (af e 0) λr=>a_ o (af y 0) 0 r.cells λp=>ln p (af y 0) λq=>p=p/\R q.val p):=by kernel_rfl
end
end Go.Proofs.YtmkljjbioomepaaGreat
