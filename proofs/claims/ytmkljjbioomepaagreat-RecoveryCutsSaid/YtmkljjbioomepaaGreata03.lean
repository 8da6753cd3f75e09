import Derived.Test.YtmkljjbioomepaaGreata02
import Derived.Test.YtmkljjbioomepaaGreatProg
set_option linter.all false
namespace Go.Proofs.YtmkljjbioomepaaGreat
open Go.Proofs.Tryz Go.b8
section
structure cL where
 Code:Int
 Words:ax
 ey:Nat
 eg:Nat
def cL.cells (r:cL):aH:=[.int .i64 r.Code,.slice r.Words r.ey r.eg]
def cL.val (r:cL):bx:=.agg r.cells.toArray
def cL.ex (K:cL->Prop):Prop:=∃ (xE:Int) (Wk:ax) (Wm:Nat) (Wl:Nat),K ⟨xE,Wk,Wm,Wl⟩
theorem cL.bd {K:cL->Prop} (r:cL) (h:K r):cL.ex K:=⟨_,_,_,_,h⟩
theorem cL.len (r:cL):r.cells.length=2:=rfl
theorem cL.single (r:cL):∀ u ∈ r.cells,single u=true:=by intro u hu;simp only [cL.cells,iF,uc,or_false] at hu;rcases hu with rfl | rfl<;>rfl
structure a0 where
 Kind:Int
 Node:Int
 cY:Int
 N:Int
 Old:Int
 ai:Int
 Words:ax
 ey:Nat
 eg:Nat
 Key:Int
 dJ:Int
def a0.cells (r:a0):aH:=[.int .i64 r.Kind,.int .i64 r.Node,.int .i64 r.cY,.int .i64 r.N,.int .u64 r.Old,.int .u64 r.ai,.slice r.Words r.ey r.eg,.int .u64 r.Key,.int .i64 r.dJ]
def a0.val (r:a0):bx:=.agg r.cells.toArray
def a0.ex (K:a0->Prop):Prop:=∃ (LX:Int) (LY:Int) (V8:Int) (aBU:Int) (aBW:Int) (aBV:Int) (Wk:ax) (Wm:Nat) (Wl:Nat) (aBM:Int) (V9:Int),K ⟨LX,LY,V8,aBU,aBW,aBV,Wk,Wm,Wl,aBM,V9⟩
theorem a0.bd {K:a0->Prop} (r:a0) (h:K r):a0.ex K:=⟨_,_,_,_,_,_,_,_,_,_,_,h⟩
theorem a0.len (r:a0):r.cells.length=9:=rfl
theorem a0.single (r:a0):∀ u ∈ r.cells,single u=true:=by intro u hu;simp only [a0.cells,iF,uc,or_false] at hu;rcases hu with rfl | rfl | rfl | rfl | rfl | rfl | rfl | rfl | rfl<;>rfl
structure zN where
 IW:Int
def zN.cells (r:zN):aH:=[.int .i64 r.IW]
def zN.val (r:zN):bx:=.agg r.cells.toArray
def zN.ex (K:zN->Prop):Prop:=∃ (Wg:Int),K ⟨Wg⟩
structure An where
 IW:Int
 Number:Int
 Client:Int
 Round:Int
 Gc:Int
def An.cells (r:An):aH:=[.int .i64 r.IW,.int .i64 r.Number,.int .i64 r.Client,.int .i64 r.Round,.int .u64 r.Gc]
def An.val (r:An):bx:=.agg r.cells.toArray
def An.ex (K:An->Prop):Prop:=∃ (Wg:Int) (LZ:Int) (AY:Int) (Wh:Int) (L0:Int),K ⟨Wg,LZ,AY,Wh,L0⟩
structure e3 where
 Number:Int
 h1:ax
 h6:Nat
 iJ:Nat
def e3.cells (r:e3):aH:=[.int .i64 r.Number,.slice r.h1 r.h6 r.iJ]
def e3.val (r:e3):bx:=.agg r.cells.toArray
def e3.ex (K:e3->Prop):Prop:=∃ (LZ:Int) (aBR:ax) (aBT:Nat) (aBS:Nat),K ⟨LZ,aBR,aBT,aBS⟩
theorem e3.bd {K:e3->Prop} (r:e3) (h:K r):e3.ex K:=⟨_,_,_,_,h⟩
theorem e3.single (r:e3):∀ u ∈ r.cells,single u=true:=by intro u hu;simp only [e3.cells,iF,uc,or_false] at hu;rcases hu with rfl | rfl<;>rfl
structure fW where
 Client:Int
 Seq:Int
 mB:Int
 View:e3
 Reads:ax
 s5:Nat
 Bi:Nat
 hO:ax
 gO:Nat
 mC:Nat
def fW.cells (r:fW):aH:=[.int .i64 r.Client,.int .i64 r.Seq,.int .i64 r.mB,.int .i64 r.View.Number,.slice r.View.h1 r.View.h6 r.View.iJ,.slice r.Reads r.s5 r.Bi,.slice r.hO r.gO r.mC]
def fW.val (r:fW):bx:=.agg r.cells.toArray
def fW.ex (K:fW->Prop):Prop:=∃ (AY:Int) (Fh:Int) (We:Int) (Fl:Int) (Fi:ax) (Fk:Nat) (Fj:Nat) (aB7:ax) (aB9:Nat) (aB8:Nat) (Wn:ax) (Wp:Nat) (Wo:Nat),K ⟨AY,Fh,We,⟨Fl,Fi,Fk,Fj⟩,aB7,aB9,aB8,Wn,Wp,Wo⟩
theorem fW.bd {K:fW->Prop} (r:fW) (h:K r):fW.ex K:=⟨_,_,_,_,_,_,_,_,_,_,_,_,_,h⟩
theorem fW.single (r:fW):∀ u ∈ r.cells,single u=true:=by intro u hu;simp only [fW.cells,iF,uc,or_false] at hu;rcases hu with rfl | rfl | rfl | rfl | rfl | rfl | rfl<;>rfl
structure fT where
 Client:Int
 n5:Int
 mB:Int
 View:e3
 iq:Int
 j':Int
 mV:Int
def fT.cells (r:fT):aH:=[.int .i64 r.Client,.int .i64 r.n5,.int .i64 r.mB,.int .i64 r.View.Number,.slice r.View.h1 r.View.h6 r.View.iJ,.int .i64 r.iq,.int .i64 r.j',.int .u64 r.mV]
def fT.val (r:fT):bx:=.agg r.cells.toArray
def fT.ex (K:fT->Prop):Prop:=∃ (AY:Int) (aBK:Int) (We:Int) (Fl:Int) (Fi:ax) (Fk:Nat) (Fj:Nat) (aBw:Int) (aBy:Int) (aB6:Int),K ⟨AY,aBK,We,⟨Fl,Fi,Fk,Fj⟩,aBw,aBy,aB6⟩
theorem fT.bd {K:fT->Prop} (r:fT) (h:K r):fT.ex K:=⟨_,_,_,_,_,_,_,_,_,_,h⟩
structure dx where
 Kind:Int
 Client:Int
 ahE:zN
 IY:An
 o4:fW
 Recover:fT
 IK:ax
 F_:Nat
 RS:Nat
 xY:Bool
 zm:Bool
 Code:Int
 View:e3
 Status:Int
 Doors:ax
 RB:Nat
 IG:Nat
 Gc:Int
 Db:Int
 rR:Int
 Seq:Int
 rO:Int
def dx.cells (r:dx):aH:=[.int .i64 r.Kind,.int .i64 r.Client,.int .i64 r.ahE.IW,.int .i64 r.IY.IW,.int .i64 r.IY.Number,.int .i64 r.IY.Client,.int .i64 r.IY.Round,.int .u64 r.IY.Gc,.int .i64 r.o4.Client,.int .i64 r.o4.Seq,.int .i64 r.o4.mB,.int .i64 r.o4.View.Number,.slice r.o4.View.h1 r.o4.View.h6 r.o4.View.iJ,.slice r.o4.Reads r.o4.s5 r.o4.Bi,.slice r.o4.hO r.o4.gO r.o4.mC,.int .i64 r.Recover.Client,.int .i64 r.Recover.n5,.int .i64 r.Recover.mB,.int .i64 r.Recover.View.Number,.slice r.Recover.View.h1 r.Recover.View.h6 r.Recover.View.iJ,.int .i64 r.Recover.iq,.int .i64 r.Recover.j',.int .u64 r.Recover.mV,.slice r.IK r.F_ r.RS,.bool r.xY,.bool r.zm,.int .i64 r.Code,.int .i64 r.View.Number,.slice r.View.h1 r.View.h6 r.View.iJ,.int .i64 r.Status,.slice r.Doors r.RB r.IG,.int .u64 r.Gc,.int .i64 r.Db,.int .i64 r.rR,.int .i64 r.Seq,.int .i64 r.rO]
def dx.val (r:dx):bx:=.agg r.cells.toArray
def dx.ex (K:dx->Prop):Prop:=∃ (LX:Int) (AY:Int) (aBx:Int) (aB2:Int) (aB3:Int) (aB1:Int) (aB4:Int) (aB5:Int) (aBb:Int) (aBg:Int) (aBc:Int) (aBk:Int) (aBh:ax) (aBj:Nat) (aBi:Nat) (aBd:ax) (aBf:Nat) (aBe:Nat) (aBl:ax) (aBn:Nat) (aBm:Nat) (aB_:Int) (aCb:Int) (aCc:Int) (aCh:Int) (aCe:ax) (aCg:Nat) (aCf:Nat) (aB':Int) (aCa:Int) (aCd:Int) (aBD:ax) (aBF:Nat) (aBE:Nat) (aBZ:Bool) (aA8:Bool) (xE:Int) (Fl:Int) (Fi:ax) (Fk:Nat) (Fj:Nat) (Wi:Int) (V_:ax) (Wa:Nat) (V':Nat) (L0:Int) (Wb:Int) (Wj:Int) (Fh:Int) (Wf:Int),K ⟨LX,AY,⟨aBx⟩,⟨aB2,aB3,aB1,aB4,aB5⟩,⟨aBb,aBg,aBc,⟨aBk,aBh,aBj,aBi⟩,aBd,aBf,aBe,aBl,aBn,aBm⟩,⟨aB_,aCb,aCc,⟨aCh,aCe,aCg,aCf⟩,aB',aCa,aCd⟩,aBD,aBF,aBE,aBZ,aA8,xE,⟨Fl,Fi,Fk,Fj⟩,Wi,V_,Wa,V',L0,Wb,Wj,Fh,Wf⟩
theorem dx.bd {K:dx->Prop} (r:dx) (h:K r):dx.ex K:=⟨_,_,_,_,_,_,_,_,_,_,_,_,_,_,_,_,_,_,_,_,_,_,_,_,_,_,_,_,_,_,_,_,_,_,_,_,_,_,_,_,_,_,_,_,_,_,_,_,_,_,h⟩
theorem dx.len (r:dx):r.cells.length=36:=rfl
theorem dx.single (r:dx):∀ u ∈ r.cells,single u=true:=by intro u hu;simp only [dx.cells,iF,uc,or_false] at hu;rcases hu with rfl | rfl | rfl | rfl | rfl | rfl | rfl | rfl | rfl | rfl | rfl | rfl | rfl | rfl | rfl | rfl | rfl | rfl | rfl | rfl | rfl | rfl | rfl | rfl | rfl | rfl | rfl | rfl | rfl | rfl | rfl | rfl | rfl | rfl | rfl | rfl<;>rfl
structure a6 where
 b5:Int
 Head:Int
 MM:Int
 XX:Int
 XY:Int
 XZ:Int
 X0:Int
 X1:Int
 X2:Int
def a6.cells (r:a6):aH:=[.int .i64 r.b5,.int .u64 r.Head,.int .u64 r.MM,.int .u64 r.XX,.int .u64 r.XY,.int .u64 r.XZ,.int .u64 r.X0,.int .u64 r.X1,.int .u64 r.X2]
def a6.val (r:a6):bx:=.agg r.cells.toArray
def a6.ex (K:a6->Prop):Prop:=∃ (Wd:Int) (Wc:Int) (aBp:Int) (aBq:Int) (aBr:Int) (aBs:Int) (aBt:Int) (aBu:Int) (aBv:Int),K ⟨Wd,Wc,aBp,aBq,aBr,aBs,aBt,aBu,aBv⟩
theorem a6.bd {K:a6->Prop} (r:a6) (h:K r):a6.ex K:=⟨_,_,_,_,_,_,_,_,_,h⟩
theorem a6.len (r:a6):r.cells.length=9:=rfl
theorem a6.single (r:a6):∀ u ∈ r.cells,single u=true:=by intro u hu;simp only [a6.cells,iF,uc,or_false] at hu;rcases hu with rfl | rfl | rfl | rfl | rfl | rfl | rfl | rfl | rfl<;>rfl
structure Bv where
 cY:Int
 Kind:Int
 A:Int
def Bv.cells (r:Bv):aH:=[.int .i64 r.cY,.int .i64 r.Kind,.int .i64 r.A]
def Bv.val (r:Bv):bx:=.agg r.cells.toArray
def Bv.ex (K:Bv->Prop):Prop:=∃ (V8:Int) (LX:Int) (aA6:Int),K ⟨V8,LX,aA6⟩
structure oF where
 anU:Int
 Client:Int
 Node:Int
def oF.cells (r:oF):aH:=[.int .i64 r.anU,.int .i64 r.Client,.int .i64 r.Node]
def oF.val (r:oF):bx:=.agg r.cells.toArray
def oF.ex (K:oF->Prop):Prop:=∃ (aBY:Int) (AY:Int) (LY:Int),K ⟨aBY,AY,LY⟩
theorem oF.bd {K:oF->Prop} (r:oF) (h:K r):oF.ex K:=⟨_,_,_,h⟩
theorem oF.len (r:oF):r.cells.length=3:=rfl
structure bp where
 Node:Int
 dJ:Int
 Full:Bool
def bp.cells (r:bp):aH:=[.int .i64 r.Node,.int .i64 r.dJ,.bool r.Full]
def bp.val (r:bp):bx:=.agg r.cells.toArray
def bp.ex (K:bp->Prop):Prop:=∃ (LY:Int) (V9:Int) (aBB:Bool),K ⟨LY,V9,aBB⟩
theorem bp.bd {K:bp->Prop} (r:bp) (h:K r):bp.ex K:=⟨_,_,_,h⟩
theorem bp.len (r:bp):r.cells.length=3:=rfl
theorem bp.single (r:bp):∀ u ∈ r.cells,single u=true:=by intro u hu;simp only [bp.cells,iF,uc,or_false] at hu;rcases hu with rfl | rfl | rfl<;>rfl
structure DH where
 Code:Int
 Number:Int
 View:e3
 Status:Int
 anS:Bool
 Hint:Int
 aha:ax
 ahc:Nat
 ahb:Nat
 Keys:ax
 ak4:Nat
 ak3:Nat
 Doors:ax
 RB:Nat
 IG:Nat
def DH.cells (r:DH):aH:=[.int .i64 r.Code,.int .i64 r.Number,.int .i64 r.View.Number,.slice r.View.h1 r.View.h6 r.View.iJ,.int .i64 r.Status,.bool r.anS,.int .u64 r.Hint,.slice r.aha r.ahc r.ahb,.slice r.Keys r.ak4 r.ak3,.slice r.Doors r.RB r.IG]
def DH.val (r:DH):bx:=.agg r.cells.toArray
def DH.ex (K:DH->Prop):Prop:=∃ (xE:Int) (LZ:Int) (Fl:Int) (Fi:ax) (Fk:Nat) (Fj:Nat) (Wi:Int) (aBX:Bool) (aBH:Int) (aA9:ax) (aA':Nat) (aA_:Nat) (aBN:ax) (aBP:Nat) (aBO:Nat) (V_:ax) (Wa:Nat) (V':Nat),K ⟨xE,LZ,⟨Fl,Fi,Fk,Fj⟩,Wi,aBX,aBH,aA9,aA',aA_,aBN,aBP,aBO,V_,Wa,V'⟩
structure Ez where
 Code:Int
 Gc:Int
 Round:Int
def Ez.cells (r:Ez):aH:=[.int .i64 r.Code,.int .u64 r.Gc,.int .i64 r.Round]
def Ez.val (r:Ez):bx:=.agg r.cells.toArray
def Ez.ex (K:Ez->Prop):Prop:=∃ (xE:Int) (L0:Int) (Wh:Int),K ⟨xE,L0,Wh⟩
structure cl where
 Code:Int
 Db:Int
def cl.cells (r:cl):aH:=[.int .i64 r.Code,.int .i64 r.Db]
def cl.val (r:cl):bx:=.agg r.cells.toArray
def cl.ex (K:cl->Prop):Prop:=∃ (xE:Int) (Wb:Int),K ⟨xE,Wb⟩
theorem cl.bd {K:cl->Prop} (r:cl) (h:K r):cl.ex K:=⟨_,_,h⟩
theorem cl.single (r:cl):∀ u ∈ r.cells,single u=true:=by intro u hu;simp only [cl.cells,iF,uc,or_false] at hu;rcases hu with rfl | rfl<;>rfl
structure f7 where
 Code:Int
 rR:Int
 Seq:Int
 rO:Int
 ajh:Int
def f7.cells (r:f7):aH:=[.int .i64 r.Code,.int .i64 r.rR,.int .i64 r.Seq,.int .i64 r.rO,.int .u64 r.ajh]
def f7.val (r:f7):bx:=.agg r.cells.toArray
def f7.ex (K:f7->Prop):Prop:=∃ (xE:Int) (Wj:Int) (Fh:Int) (Wf:Int) (aBI:Int),K ⟨xE,Wj,Fh,Wf,aBI⟩
theorem f7.bd {K:f7->Prop} (r:f7) (h:K r):f7.ex K:=⟨_,_,_,_,_,h⟩
theorem f7.single (r:f7):∀ u ∈ r.cells,single u=true:=by intro u hu;simp only [f7.cells,iF,uc,or_false] at hu;rcases hu with rfl | rfl | rfl | rfl | rfl<;>rfl
structure oG where
 l:bR
def oG.cells (r:oG):aH:=r.l.map λx=>.int .u64 x
def oG.val (r:oG):bx:=.agg r.cells.toArray
def oG.ex (K:oG->Prop):Prop:=aa_ 256 λl=>K ⟨l⟩
theorem oG.bd {K:oG->Prop} (r:oG) (au:r.l.length=256) (h:K r):oG.ex K:=ZN 256 r.l au h
structure c0 where
 Seq:Int
 hO:ax
 gO:Nat
 mC:Nat
def c0.cells (r:c0):aH:=[.int .i64 r.Seq,.slice r.hO r.gO r.mC]
def c0.val (r:c0):bx:=.agg r.cells.toArray
def c0.ex (K:c0->Prop):Prop:=∃ (Fh:Int) (Wn:ax) (Wp:Nat) (Wo:Nat),K ⟨Fh,Wn,Wp,Wo⟩
theorem c0.bd {K:c0->Prop} (r:c0) (h:K r):c0.ex K:=⟨_,_,_,_,h⟩
theorem c0.single (r:c0):∀ u ∈ r.cells,single u=true:=by intro u hu;simp only [c0.cells,iF,uc,or_false] at hu;rcases hu with rfl | rfl<;>rfl
structure h3 where
 b5:Int
 Head:Int
def h3.cells (r:h3):aH:=[.int .i64 r.b5,.int .u64 r.Head]
def h3.val (r:h3):bx:=.agg r.cells.toArray
def h3.ex (K:h3->Prop):Prop:=∃ (Wd:Int) (Wc:Int),K ⟨Wd,Wc⟩
theorem h3.bd {K:h3->Prop} (r:h3) (h:K r):h3.ex K:=⟨_,_,h⟩
theorem h3.len (r:h3):r.cells.length=2:=rfl
theorem h3.single (r:h3):∀ u ∈ r.cells,single u=true:=by intro u hu;simp only [h3.cells,iF,uc,or_false] at hu;rcases hu with rfl | rfl<;>rfl
structure fq where
 bw:Int
 least:Int
 exact:Bool
def fq.cells (r:fq):aH:=[.int .i64 r.bw,.int .u64 r.least,.bool r.exact]
def fq.val (r:fq):bx:=.agg r.cells.toArray
def fq.ex (K:fq->Prop):Prop:=∃ (aCl:Int) (aCp:Int) (aCm:Bool),K ⟨aCl,aCp,aCm⟩
theorem fq.bd {K:fq->Prop} (r:fq) (h:K r):fq.ex K:=⟨_,_,_,h⟩
theorem fq.len (r:fq):r.cells.length=3:=rfl
theorem fq.single (r:fq):∀ u ∈ r.cells,single u=true:=by intro u hu;simp only [fq.cells,iF,uc,or_false] at hu;rcases hu with rfl | rfl | rfl<;>rfl
abbrev wL (n:Nat) (l:Array bx) (w:av) (K:ax->aV):Prop:=Calls prog n l w λe w1=>∃ (v0:ax),e=.returned (.pointer v0)/\K v0 w1
abbrev HB (n:Nat) (l:Array bx) (w:av) (K:ax->Nat->Nat->Int->aV):Prop:=Calls prog n l w λe w1=>∃ (v0:ax) (v1:Nat) (v2:Nat) (fv:Int),e=.returned (.tuple #[.slice v0 v1 v2,.int .i64 fv])/\K v0 v1 v2 fv w1
abbrev fR (w:av) (a:bh) (K:Int->Prop):Prop:=∃ (v0:Int),w.cell? a=some (.int .u64 v0)/\K v0
abbrev VH (n:Nat) (l:Array bx) (w:av) (K:ax->Int->aV):Prop:=Calls prog n l w λe w1=>∃ (v0:ax) (v1:Int),e=.returned (.tuple #[.pointer v0,.int .i64 v1])/\K v0 v1 w1
abbrev dI (n:Nat) (l:Array bx) (w:av) (K:Int->aV):Prop:=Calls prog n l w λe w1=>∃ (v0:Int),e=.returned (.int .i64 v0)/\K v0 w1
abbrev cQ (w:av) (a:bh) (K:Int->Prop):Prop:=∃ (v0:Int),w.cell? a=some (.int .i64 v0)/\K v0
abbrev fu (n:Nat) (l:Array bx) (w:av) (K:Bool->aV):Prop:=Calls prog n l w λe w1=>∃ (v0:Bool),e=.returned (.bool v0)/\K v0 w1
abbrev eG (S:aV) (a:bh) (K:Int->Prop):Prop:=∃ (v0:Int),(∀ u,S u->u.cell? a=some (.int .i64 v0))/\K v0
abbrev Lt (n:Nat) (l:Array bx) (w:av) (K:aV):Prop:=Calls prog n l w λe w1=>e=.returned (.tuple #[])/\K  w1
abbrev hJ (n:Nat) (l:Array bx) (w:av) (K:ax->Nat->Nat->aV):Prop:=Calls prog n l w λe w1=>∃ (v0:ax) (v1:Nat) (v2:Nat),e=.returned (.slice v0 v1 v2)/\K v0 v1 v2 w1
abbrev ae6 (w:av) (a:bh) (K:Int->Int->Int->Prop):Prop:=∃ (v0:Int) (v1:Int) (v2:Int),df w a 0 [.int .i64 v0,.int .i64 v1,.int .i64 v2]/\K v0 v1 v2
abbrev de (w:av) (a:bh) (K:ax->Nat->bB):Prop:=∃ (v0:ax) (v1:Nat) (v2:Nat),w.cell? a=some (.slice v0 v1 v2)/\K v0 v1 v2
abbrev iE (S:aV) (a:bh) (K:ax->Nat->bB):Prop:=∃ (v0:ax) (v1:Nat) (v2:Nat),(∀ u,S u->u.cell? a=some (.slice v0 v1 v2))/\K v0 v1 v2
abbrev p4 (w:av) (a:bh) (K:Bool->Prop):Prop:=∃ (v0:Bool),w.cell? a=some (.bool v0)/\K v0
abbrev p5 (n:Nat) (l:Array bx) (w:av) (K:Int->aV):Prop:=Calls prog n l w λe w1=>∃ (v0:Int),e=.returned (.int .u64 v0)/\K v0 w1
abbrev Lp (w:av) (a:bh) (K:Int->ax->Nat->bB):Prop:=∃ (v0:Int) (v1:ax) (v2:Nat) (fv:Nat),df w a 0 [.int .i64 v0,.slice v1 v2 fv]/\K v0 v1 v2 fv
abbrev p6 (w:av) (a:bh) (K:Int->Int->Int->Int->Int->Int->ax->Nat->Nat->Int->Int->Prop):Prop:=∃ (v0:Int) (v1:Int) (v2:Int) (fv:Int) (v4:Int) (w2:Int) (v6:ax) (w3:Nat) (qK:Nat) (w4:Int) (v10:Int),df w a 0 [.int .i64 v0,.int .i64 v1,.int .i64 v2,.int .i64 fv,.int .u64 v4,.int .u64 w2,.slice v6 w3 qK,.int .u64 w4,.int .i64 v10]/\K v0 v1 v2 fv v4 w2 v6 w3 qK w4 v10
abbrev wM (S:aV) (a:bh) (K:Int->Int->Int->Int->Int->Int->ax->Nat->Nat->Int->Int->Prop):Prop:=∃ (v0:Int) (v1:Int) (v2:Int) (fv:Int) (v4:Int) (w2:Int) (v6:ax) (w3:Nat) (qK:Nat) (w4:Int) (v10:Int),(∀ u,S u->df u a 0 [.int .i64 v0,.int .i64 v1,.int .i64 v2,.int .i64 fv,.int .u64 v4,.int .u64 w2,.slice v6 w3 qK,.int .u64 w4,.int .i64 v10])/\K v0 v1 v2 fv v4 w2 v6 w3 qK w4 v10
abbrev axq (S:aV) (a:bh) (K:Int->Int->Prop):Prop:=∃ (v0:Int) (v1:Int),(∀ u,S u->df u a 0 [.int .i64 v0,.int .i64 v1])/\K v0 v1
abbrev mR (n:Nat) (l:Array bx) (w:av) (K:Int->Int->aV):Prop:=Calls prog n l w λe w1=>∃ (v0:Int) (v1:Int),e=.returned (.tuple #[.int .u64 v0,.int .i64 v1])/\K v0 v1 w1
abbrev ae7 (n:Nat) (l:Array bx) (w:av) (K:Int->Int->aV):Prop:=Calls prog n l w λe w1=>∃ (v0:Int) (v1:Int),e=.returned (.tuple #[.int .i64 v0,.int .i64 v1])/\K v0 v1 w1
abbrev axr (n:Nat) (l:Array bx) (w:av) (K:Int->Int->Int->Int->Int->Int->ax->Nat->Nat->Int->Int->aV):Prop:=Calls prog n l w λe w1=>∃ (v0:Int) (v1:Int) (v2:Int) (fv:Int) (v4:Int) (w2:Int) (v6:ax) (w3:Nat) (qK:Nat) (w4:Int) (v10:Int),e=.returned (.agg #[.int .i64 v0,.int .i64 v1,.int .i64 v2,.int .i64 fv,.int .u64 v4,.int .u64 w2,.slice v6 w3 qK,.int .u64 w4,.int .i64 v10])/\K v0 v1 v2 fv v4 w2 v6 w3 qK w4 v10 w1
abbrev VG (S:aV) (a:bh) (K:Int->ax->Nat->bB):Prop:=∃ (v0:Int) (v1:ax) (v2:Nat) (fv:Nat),(∀ u,S u->df u a 0 [.int .i64 v0,.slice v1 v2 fv])/\K v0 v1 v2 fv
abbrev qG (S:aV) (a:bh) (K:Int->Prop):Prop:=∃ (v0:Int),(∀ u,S u->u.cell? a=some (.int .u64 v0))/\K v0
abbrev p7 (n:Nat) (l:Array bx) (w:av) (K:ax->Nat->Nat->Bool->aV):Prop:=Calls prog n l w λe w1=>∃ (v0:ax) (v1:Nat) (v2:Nat) (fv:Bool),e=.returned (.tuple #[.slice v0 v1 v2,.bool fv])/\K v0 v1 v2 fv w1
abbrev wN (w:av) (a:bh) (K:ax->Prop):Prop:=∃ (v0:ax),w.cell? a=some (.pointer v0)/\K v0
abbrev axx (w:av) (a:bh) (K:Int->Prop):Prop:=∃ (v0:Int),w.cell? a=some (.int .u8 v0)/\K v0
abbrev afb (w:av) (a:bh) (K:ax->ax->Nat->bB):Prop:=∃ (v0:ax) (v1:ax) (v2:Nat) (fv:Nat),df w a 0 [.pointer v0,.slice v1 v2 fv]/\K v0 v1 v2 fv
abbrev HD (S:aV) (a:bh) (K:ax->Prop):Prop:=∃ (v0:ax),(∀ u,S u->u.cell? a=some (.pointer v0))/\K v0
abbrev axy (w:av) (a:bh) (K:Bool->Int->ax->Nat->Nat->ax->Nat->Nat->Int->Int->Int->Prop):Prop:=∃ (v0:Bool) (v1:Int) (v2:ax) (fv:Nat) (v4:Nat) (w2:ax) (v6:Nat) (w3:Nat) (qK:Int) (w4:Int) (v10:Int),df w a 0 [.bool v0,.int .i64 v1,.slice v2 fv v4,.slice w2 v6 w3,.int .i64 qK,.int .i64 w4,.int .i64 v10]/\K v0 v1 v2 fv v4 w2 v6 w3 qK w4 v10
abbrev VL (n:Nat) (l:Array bx) (w:av) (K:Int->ax->Nat->Nat->Bool->aV):Prop:=Calls prog n l w λe w1=>∃ (v0:Int) (v1:ax) (v2:Nat) (fv:Nat) (v4:Bool),e=.returned (.tuple #[.agg #[.int .i64 v0,.slice v1 v2 fv],.bool v4])/\K v0 v1 v2 fv v4 w1
abbrev afc (n:Nat) (l:Array bx) (w:av) (K:ax->Bool->aV):Prop:=Calls prog n l w λe w1=>∃ (v0:ax) (v1:Bool),e=.returned (.tuple #[.pointer v0,.bool v1])/\K v0 v1 w1
abbrev afd (S:aV) (a:bh) (K:Bool->Prop):Prop:=∃ (v0:Bool),(∀ u,S u->u.cell? a=some (.bool v0))/\K v0
abbrev axz (n:Nat) (l:Array bx) (w:av) (K:ax->Bool->Bool->aV):Prop:=Calls prog n l w λe w1=>∃ (v0:ax) (v1:Bool) (v2:Bool),e=.returned (.tuple #[.pointer v0,.bool v1,.bool v2])/\K v0 v1 v2 w1
abbrev axA (n:Nat) (l:Array bx) (w:av) (K:Bool->Bool->Bool->aV):Prop:=Calls prog n l w λe w1=>∃ (v0:Bool) (v1:Bool) (v2:Bool),e=.returned (.tuple #[.bool v0,.bool v1,.bool v2])/\K v0 v1 v2 w1
abbrev axB (n:Nat) (l:Array bx) (w:av) (K:dW):Prop:=Calls prog n l w λe w1=>∃ (v0:bx),e=.returned v0/\K v0 w1
abbrev VN (n:Nat) (l:Array bx) (w:av) (K:Int->Int->Bool->aV):Prop:=Calls prog n l w λe w1=>∃ (v0:Int) (v1:Int) (v2:Bool),e=.returned (.tuple #[.int .i64 v0,.int .i64 v1,.bool v2])/\K v0 v1 v2 w1
abbrev axF (n:Nat) (l:Array bx) (w:av) (K:Int->Bool->aV):Prop:=Calls prog n l w λe w1=>∃ (v0:Int) (v1:Bool),e=.returned (.tuple #[.int .i64 v0,.bool v1])/\K v0 v1 w1
abbrev Qd (n:Nat) (l:Array bx) (w:av) (K:Int->Bool->aV):Prop:=Calls prog n l w λe w1=>∃ (v0:Int) (v1:Bool),e=.returned (.tuple #[.int .u64 v0,.bool v1])/\K v0 v1 w1
abbrev u_ (w:av) (a:bh) (K:a0->Prop):Prop:=a0.ex λr=>df w a 0 r.cells/\K r
abbrev Cw (w:av) (a:bh) (K:cL->Prop):Prop:=cL.ex λr=>df w a 0 r.cells/\K r
abbrev Lq (X:aV) (a:bh) (K:a6->Prop):Prop:=a6.ex λr=>(∀ u,X u->df u a 0 r.cells)/\K r
abbrev axs (w:av) (a:bh) (K:Bv->Prop):Prop:=Bv.ex λr=>df w a 0 r.cells/\K r
abbrev hW (w:av) (a:bh) (K:dx->Prop):Prop:=dx.ex λr=>df w a 0 r.cells/\K r
abbrev Lr (n:Nat) (l:Array bx) (w:av) (K:dx->aV):Prop:=Calls prog n l w λe w1=>dx.ex λr=>e=.returned r.val/\K r w1
abbrev axt (w:av) (a:bh) (K:zN->Prop):Prop:=zN.ex λr=>df w a 0 r.cells/\K r
abbrev VI (X:aV) (a:bh) (K:e3->Prop):Prop:=e3.ex λr=>(∀ u,X u->df u a 0 r.cells)/\K r
abbrev HC (X:aV) (a:bh) (K:dx->Prop):Prop:=dx.ex λr=>(∀ u,X u->df u a 0 r.cells)/\K r
abbrev axu (w:av) (a:bh) (K:An->Prop):Prop:=An.ex λr=>df w a 0 r.cells/\K r
abbrev VJ (w:av) (a:bh) (K:fW->Prop):Prop:=fW.ex λr=>df w a 0 r.cells/\K r
abbrev ae8 (w:av) (a:bh) (K:fT->Prop):Prop:=fT.ex λr=>df w a 0 r.cells/\K r
abbrev mu (X:aV) (a:bh) (K:bp->Prop):Prop:=bp.ex λr=>(∀ u,X u->df u a 0 r.cells)/\K r
abbrev ae9 (X:aV) (a:bh) (K:a0->Prop):Prop:=a0.ex λr=>(∀ u,X u->df u a 0 r.cells)/\K r
abbrev hX (n:Nat) (l:Array bx) (w:av) (K:a0->aV):Prop:=Calls prog n l w λe w1=>a0.ex λr=>e=.returned r.val/\K r w1
abbrev gT (w:av) (a:bh) (K:cl->Prop):Prop:=cl.ex λr=>df w a 0 r.cells/\K r
abbrev mS (w:av) (a:bh) (K:a6->Prop):Prop:=a6.ex λr=>df w a 0 r.cells/\K r
abbrev ot (w:av) (a:bh) (K:bp->Prop):Prop:=bp.ex λr=>df w a 0 r.cells/\K r
abbrev Ls (X:aV) (a:bh) (K:fW->Prop):Prop:=fW.ex λr=>(∀ u,X u->df u a 0 r.cells)/\K r
abbrev ae_ (n:Nat) (l:Array bx) (w:av) (K:c0->aV):Prop:=Calls prog n l w λe w1=>c0.ex λr=>e=.returned r.val/\K r w1
abbrev u' (w:av) (a:bh) (K:e3->Prop):Prop:=e3.ex λr=>df w a 0 r.cells/\K r
abbrev VK (w:av) (a:bh) (K:h3->Prop):Prop:=h3.ex λr=>df w a 0 r.cells/\K r
abbrev Qb (X:aV) (a:bh) (K:cL->Prop):Prop:=cL.ex λr=>(∀ u,X u->df u a 0 r.cells)/\K r
abbrev axv (n:Nat) (l:Array bx) (w:av) (K:cl->aV):Prop:=Calls prog n l w λe w1=>cl.ex λr=>e=.returned r.val/\K r w1
abbrev ae' (X:aV) (a:bh) (K:cl->Prop):Prop:=cl.ex λr=>(∀ u,X u->df u a 0 r.cells)/\K r
abbrev nq (w:av) (a:bh) (K:c0->Prop):Prop:=c0.ex λr=>df w a 0 r.cells/\K r
abbrev axw (n:Nat) (l:Array bx) (w:av) (K:oG->aV):Prop:=Calls prog n l w λe w1=>oG.ex λr=>e=.returned r.val/\K r w1
abbrev afa (w:av) (a:bh) (K:oG->Prop):Prop:=oG.ex λr=>df w a 0 r.cells/\K r
abbrev VM (n:Nat) (l:Array bx) (w:av) (K:e3->aV):Prop:=Calls prog n l w λe w1=>e3.ex λr=>e=.returned r.val/\K r w1
abbrev afe (w:av) (a:bh) (K:oF->Prop):Prop:=oF.ex λr=>df w a 0 r.cells/\K r
abbrev axC (n:Nat) (l:Array bx) (w:av) (K:a6->aV):Prop:=Calls prog n l w λe w1=>a6.ex λr=>e=.returned r.val/\K r w1
abbrev HE (X:aV) (a:bh) (K:c0->Prop):Prop:=c0.ex λr=>(∀ u,X u->df u a 0 r.cells)/\K r
abbrev aff (w:av) (a:bh) (K:fq->Prop):Prop:=fq.ex λr=>df w a 0 r.cells/\K r
abbrev afg (X:aV) (a:bh) (K:fq->Prop):Prop:=fq.ex λr=>(∀ u,X u->df u a 0 r.cells)/\K r
abbrev Qc (w:av) (a:bh) (K:f7->Prop):Prop:=f7.ex λr=>df w a 0 r.cells/\K r
abbrev axD (X:aV) (a:bh) (K:fT->Prop):Prop:=fT.ex λr=>(∀ u,X u->df u a 0 r.cells)/\K r
abbrev axE (X:aV) (a:bh) (K:f7->Prop):Prop:=f7.ex λr=>(∀ u,X u->df u a 0 r.cells)/\K r
end
section
open IntKind
variable (w:av) (R:dW) {i k:Int}
theorem azf:bS prog f12 [I i,I k] R w=(cond (k<1) (R (I 0) w) (IntKind.i64=IntKind.i64/\k≠0/\IntKind.i64=IntKind.i64/\k≠0/\R (I (Int.tmod (i64.wrap ((Int.tmod i k)+k)) k)) w)):=by kernel_rfl
end
section
theorem FV (w:av) (x n:Int) (ao:-9223372036854775808<=x/\x<9223372036854775808) (aj:n<4611686018427387904):bK 12 [.int .i64 x,.int .i64 n] w λv w'=>v=.int .i64 (if n<1 then 0 else x % n)/\w'=w:=by
 refine bO Tryz.func12 ?_;rw [azf];refine bL (λh=>⟨by rw [if_pos h],rfl⟩) (λh=>⟨rfl,by omega,rfl,by omega,?_,rfl⟩);rw [if_neg h];have af:0<n:=by omega
 have key:∃ t k,Int.tmod x n=t/\-n<t/\t<n/\t+n * k=x:=by
  rcases Int.le_total 0 x with pt | pt
  ·refine ⟨x % n,x / n,Q4 pt,?_,Mp x af,Int.emod_add_mul_ediv x n⟩;have:=L' x (Int.ne_of_gt af);omega
  ·refine ⟨-((-x) % n),-((-x) / n),?_,?_,?_,?_⟩
   ·rw [<-Q4 (by omega),Int.neg_tmod,Int.neg_neg]
   ·have:=Mp (-x) af;omega
   ·have:=L' (-x) (Int.ne_of_gt af);omega
   ·have:=Int.emod_add_mul_ediv (-x) n;rw [Int.mul_neg];omega
 obtain ⟨t,k,aZ,al,aL,J⟩:=key;rw [aZ,cn (by omega) (by omega)];congr 1;rw [Q4 (by omega),Int.add_emod_right,<-J,Int.add_mul_emod_self_left]
end
section
open IntKind
variable (w:av) (R:dW) {i k l:Int} {A:bh} {s:ax} {a b:Nat} {j:aB} {X:bx} {F:Bool}
theorem aCw (n:e3):bS prog f125 [n.val] R w=(bb w n.cells.toArray 35 λm o=>bb o #[I 0,I 0,U false] 116 λk e=>de e (ae m 1) λa b c=>cond ((b:Int) == 0) (bJ e (ae k 0) 0 [I 0,I 0,U false] λl=>ot l (ae k 0) λh=>l=l/\R (.tuple #[h.val,U false]) l) (de e (ae m 1) λd f g=>cb d f 0 3 λp=>ot e p λr=>bJ e (ae k 0) 0 r.cells λj=>ot j (ae k 0) λi=>j=j/\R (.tuple #[i.val,U true]) j)):=by kernel_rfl
def K' (s1:Int) (s2:bh) (a:ax) (b c:Nat) (d f:Int) (j:aB):aB:=ag j 0 1 (I s1::.pointer (some s2)::ag j 1 25 (ad a b c::I d::I f::ag j 26 50 []))
def afG (a:bh) (j:aB):aB:=ag j 0 2 (.pointer (some a)::ag j 2 78 [])
def PO (s2:bh) (a:ax) (b c:Nat) (d f:Int) (j:aB):aB:=ag j 0 2 (.pointer (some s2)::ag j 2 59 (ad a b c::I d::I f::ag j 61 16 []))
def afH (a:bh) (j:aB):aB:=ag j 0 2 (.pointer (some a)::ag j 2 78 [])
theorem agN (m:e3):bS prog f166 [m.val,I i] R w=(bb w m.cells.toArray 35 λl n=>fu 200 #[I i] n λa j=>cond (!a) (R (I 1) j) (cQ j (ae l 0) λb=>cond (b<0) (R (I 2) j) (cQ j (ae l 0) λc=>cond (c>=16) (R (I 2) j) (de j (ae l 1) λd f g=>cond ((f:Int) == 0) (R (I 1) j) (de j (ae l 1) λh e k=>dT prog (e0 f166 [1,1,0,1,0,0]) (K' i (ae l 0) h e k (e:Nat) 0 (m.val::undef::I 0::bQ 4 (U (!a)::I i::U a::U (!a)::U (c>=16)::jp (ae l 0)::I b::U (b<0)::U false::jp (ae l 0)::I c::U (c>=16)::U (c>=16)::U ((f:Int) == 0)::jp (ae l 1)::ad d f g::eZ f::U ((f:Int) == 0)::jp (ae l 1)::bQ 50 []))) (a8 1 (ba f166 [1,1,1] R)) j))))):=by kernel_rfl
theorem ayy (q:aB->aV):W prog (sb f166 [1,1,0,1,0,0]) (K' i A s a b k l j) (bk q (a8 1 (ba f166 [1,1,1] R))) w=(cond (l<k) (cb s a l 3 λt=>ot w t λr=>bb w #[I 0,I 0,U false] 116 λe x=>bJ x (ae e 0) 0 r.cells λv=>dP v λp f=>eG f (ae e 0) λg=>cond (g<0) (R (I 1) p) (eG f (ae e 0) λh=>cond (h>=i) (R (I 1) p) (cond (l>0) (eG f (ae e 0) λc=>iE f (cX A 1) λu d m=>cb u d (i64.wrap (l - 1)) 3 λo=>eG f o λn=>cond (c<=n) (R (I 1) p) (q (K' i A s a b k (i64.wrap (l+1)) (aW j 0::aW j 1::aW j 2::I l::jp (ae e 0)::ag j 5 21 (U (l<k)::I l::jp t::r.val::jp (ae e 0)::I g::U (g<0)::U false::jp (ae e 0)::I h::I i::U (h>=i)::U (h>=i)::U false::I l::U (l>0)::U true::jp (ae e 0)::I c::cz A 1::ad u d m::I l::I (i64.wrap (l - 1))::jp o::jp o::I n::U (c<=n)::U (c<=n)::U (c<=n)::I (i64.wrap (l+1))::ag j 56 20 []))) p)) (q (K' i A s a b k (i64.wrap (l+1)) (aW j 0::aW j 1::aW j 2::I l::jp (ae e 0)::ag j 5 21 (U (l<k)::I l::jp t::r.val::jp (ae e 0)::I g::U (g<0)::U false::jp (ae e 0)::I h::I i::U (h>=i)::U (h>=i)::U false::I l::U (l>0)::U false::bQ 10 (U false::U false::I (i64.wrap (l+1))::ag j 56 20 [])))) p)))) (W prog (sb f166 [1,1,1]) (afG A (aW j 0::I i::ag j 1 25 (ad s a b::I k::I l::U (l<k)::ag j 27 49 []))) (c3 f166 R) w)):=by kernel_rfl
theorem azg:W prog (sb f166 [1,1,1]) (afG A j) (c3 f166 R) w=(de w (cX A 1) λb c d=>dT prog (e0 f166 [1,1,1,0,1,0,0]) (PO A b c d (c:Nat) 0 (ag j 0 60 (cz A 1::ag j 64 16 []))) (a8 3 (ba f166 [1,1,1,1] R)) w):=by kernel_rfl
theorem ayz (e:aB->aV):W prog (sb f166 [1,1,1,0,1,0,0]) (PO A s a b i k j) (bk e (a8 3 (ba f166 [1,1,1,1] R))) w=(cond (k<i) (cb s a k 3 λf=>ot w f λr=>bb w #[I 0,I 0,U false] 116 λc l=>bJ l (ae c 0) 0 r.cells λd=>cQ d (ae c 1) λg=>cond (g<1) (R (I 2) d) (cQ d (ae c 1) λh=>cond (h>31) (R (I 2) d) (e (PO A s a b i (i64.wrap (k+1)) (ag j 0 7 (jp (ae c 0)::ag j 8 53 (U (k<i)::jp f::r.val::jp (ae c 1)::I g::U (g<1)::U false::jp (ae c 1)::I h::U (h>31)::U (h>31)::I (i64.wrap (k+1))::ag j 73 4 [])))) d))) (W prog (sb f166 [1,1,1,1]) (afH A (ag j 0 61 (ad s a b::I i::I k::U (k<i)::ag j 62 15 []))) (c3 f166 R) w)):=by kernel_rfl
theorem azh:W prog (sb f166 [1,1,1,1]) (afH A j) (c3 f166 R) w=(de w (cX A 1) λb c d=>fu 201 #[ad b c d,.func (.func 202) #[] #[]] w λf a=>cond (!f) (R (I 13) a) (R (I 0) a)):=by kernel_rfl
theorem aCx:bS prog f200 [I i] R w=(cond (i>=1) (R (U (i<=5)) w) (R (U false) w)):=by kernel_rfl
theorem auj:bS prog f201 [ad s a b,X] R w=(dI 234 #[ad s a b,X] w λc d=>R (U (c>=0)) d):=by kernel_rfl
theorem aCD (c:bp):bS prog f202 [c.val] R w=(bb w c.cells.toArray 116 λd b=>p4 b (ae d 2) λa=>R (U a) b):=by kernel_rfl
theorem aCy (l:e3):bS prog f216 [l.val] R w=(bb w l.cells.toArray 35 λj e=>de e (ae j 1) λa b c=>cond ((b:Int) == 0) (R (bC) e) (de e (ae j 1) λd f g=>ns d f g 1 (f:Nat) (g:Nat) 3 λm n p=>hJ 243 #[ad m n p] e λh i k o=>R (ad h i k) o)):=by kernel_rfl
def Nv (cJ:ax) (a b:Nat) (s1:bx) (dE s8:Int) (j:aB):aB:=ad cJ a b::s1::ag j 0 5 (I dE::I s8::ag j 5 10 [])
def aa1  (j:aB):aB:=ag j 0 19 []
theorem aue:bS prog f234 [ad s a b,X] R w=(dT prog (e0 f234 [1,0,1,0,0]) (Nv s a b X (a:Nat) 0 (bQ 2 (I 0::undef::ad s a b::bQ 10 []))) (a8 0 (ba f234 [1,1] R)) w):=by kernel_rfl
theorem apC (d:aB->aV):W prog (sb f234 [1,0,1,0,0]) (Nv s a b X i k j) (bk d (a8 0 (ba f234 [1,1] R))) w=(cond (k<i) (cb s a k 3 λf=>ot w f λr=>px prog X #[r.val] w λe g=>∃ c,e=.returned (U c)/\cond c (R (I k) g) (d (Nv s a b X i (i64.wrap (k+1)) [aW j 0,aW j 1,aW j 2,I k,aW j 4,U (k<i),I k,X,ad s a b,I k,jp f,r.val,U c,aW j 13,I (i64.wrap (k+1))]) g)) (W prog (sb f234 [1,1]) (aa1  (ad s a b::X::ag j 0 5 (I i::I k::U (k<i)::ag j 6 9 []))) (c3 f234 R) w)):=by kernel_rfl
theorem apB:W prog (sb f234 [1,1]) (aa1  j) (c3 f234 R) w=(R (I (-1)) w):=by kernel_rfl
theorem aCz (u:e3) (t:bp) (v:a0):bS prog f241 [u.val,t.val,U F,v.val] R w=(bb w u.cells.toArray 35 λE G=>bb G t.cells.toArray 116 λx D=>bb D v.cells.toArray 158 λe bF=>bb bF #[I 0,I 0,I 0,I 0,ah 0,ah 0,bC,ah 0,I 0] 158 λz C=>dP C λH j=>eG j (ae x 0) λa=>eG j (ae x 1) λb=>ev H (ae e 1) (I a) λs=>j s/\ev s (ae e 8) (I b) λA=>cQ A (ae E 0) λc=>mR 103 #[I c,U F] A λd f B=>ev B (ae e 7) (ah d) λy=>de y (ae e 6) λg h i=>hJ 73 #[ad g h i] y λk l m n=>ev n (ae e 6) (ad k l m) λo=>u_ o (ae e 0) λr=>bJ o (ae z 0) 0 r.cells λp=>u_ p (ae z 0) λq=>p=p/\R q.val p):=by kernel_rfl
end
end Go.Proofs.YtmkljjbioomepaaGreat
