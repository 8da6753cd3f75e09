/- A part of the proof. -/
import Derived.Test.YtafopfaomkklpaaGreatp22
import Derived.Test.YtafopfaomkklpaaGreatp23
import Derived.Test.YtafopfaomkklpaaGreatp24
set_option linter.unusedVariables false
namespace Go.Proofs.YtafopfaomkklpaaGreat
open Go.Proofs.Tryz
open Go.Eng
abbrev TVb:TypeId:=91
abbrev TRPc:TypeId:=241
def cntV (v:bA):Int:=if v.Kind=1 then v.N else if v.Kind=2 then v.Wl else 1
theorem xM (w:World) (v:bA):Does 132 [v.val] w λx w'=>x=.int .i64 (cntV v)∧New w w':=by
 refine does Tryz.func132 ?_
 rw [sZ]
 rintro b1 w1 hb1 hw1
 obtain ⟨hz,hn⟩:=aR hb1 hw1
 have hz:Blk w1 b1 v.cells TVb:=hz
 clear hw1
 unfold cntV
 refine ⟨_,hz.cell (i:=0) rfl,bC (λh=>⟨_,hz.cell (i:=3) rfl,by rw [if_pos h],hn⟩) (λh=>bC (λh2=>⟨_,_,_,hz.cell (i:=6) rfl,by rw [if_neg h,if_pos h2],hn⟩) (λh2=>⟨by rw [if_neg h,if_neg h2],hn⟩))⟩
def VOk (v:bA) (nodes lines:Int):Prop:=
 (1≤v.Kind∧v.Kind≤4)∧(v.Kind=1→1≤v.N)∧(v.Kind=2→1≤(v.Wl:Int))∧(1≤nodes∧nodes≤5)∧(1≤lines∧lines≤256)∧(0≤v.Node∧v.Node<nodes)∧(0≤v.At∧v.At<lines * 8)∧cntV v≤1024∧
 (v.At+cntV v - 1) / 8<lines∧(v.At+cntV v - 1) / 8 - v.At / 8+1≤128∧(v.Kind≠1→v.At / 8<3→(v.At+cntV v - 1) / 8<3)∧(v.Kind=1→v.At / 8≤3→(v.At+cntV v - 1) / 8≤3)
def VR (w:World) (v:bA) (nodes lines:Int) (x:Value) (w':World):Prop:=∃ e:Int,x=.int .i64 e∧(e=0↔VOk v nodes lines)∧New w w'
set_option maxHeartbeats 8000000 in
theorem zN (w:World) (v:bA) (nodes lines:Int):Does 90 [v.val,.int .i64 nodes,.int .i64 lines] w (VR w v nodes lines):=by
 refine does Tryz.func90 ?_
 refine (tS _ _ _ _ _).mpr ((tT _ _ _ _ _ _).mpr ?_)
 rintro b1 w1 hb1 hw1
 obtain ⟨hz,hn⟩:=aR hb1 hw1
 have hz:Blk w1 b1 v.cells TVb:=hz
 clear hw1
 have hc1:v.Kind=1→cntV v=v.N:=λh=>by unfold cntV;rw [if_pos h]
 have hc2:v.Kind=2→cntV v=v.Wl:=λh=>by unfold cntV;rw [if_neg (by omega),if_pos h]
 have hc3:v.Kind≠1→v.Kind≠2→cntV v=1:=λh1 h2=>by unfold cntV;rw [if_neg h1,if_neg h2]
 have hct:=xM w1 v
 have no:∀ (e:Int) (w':World),(VOk v nodes lines→False)→e≠0→New w w'→VR w v nodes lines (.int .i64 e) w':=λe w' h he hn=>⟨e,rfl,⟨λh'=>absurd h' he,λh'=>(h h').elim⟩,hn⟩
 have yes:∀ (w':World),VOk v nodes lines→New w w'→VR w v nodes lines (.int .i64 0) w':=λw' h hn=>⟨0,rfl,⟨λ_=>h,λ_=>rfl⟩,hn⟩
 refine (sX _ _ _).mpr ((sY _ _ _).mpr ((tU _ _ _).mpr ((tV _ _ _ _ _ _ _).mpr ?_)))
 refine ⟨_,hz.cell rfl,aE (λk1=>(jK _ _ _ _ _ _ _).mpr (cG rfl ((eT _ _ _ _ _ _ _).mpr (cG rfl (dP (P:=prog) (fn:=f90) (R:=VR w v nodes lines) (λ_ _=>rfl) ((cS _ _ _ _ _ _ _ _).mpr (cG rfl (no 1 _ (by unfold VOk;omega) (by omega) hn)))))))) (λk1=>⟨_,hz.cell rfl,(jK _ _ _ _ _ _ _).mpr (aE (λk2=>(eT _ _ _ _ _ _ _).mpr (cG rfl (dP (P:=prog) (fn:=f90) (R:=VR w v nodes lines) (λ_ _=>rfl) ((cS _ _ _ _ _ _ _ _).mpr (cG rfl (no 1 _ (by unfold VOk;omega) (by omega) hn)))))) (λk2=>⟨_,hz.cell rfl,bC (λk3=>⟨_,hz.cell rfl,(eT _ _ _ _ _ _ _).mpr (aE (λk4=>dP (P:=prog) (fn:=f90) (R:=VR w v nodes lines) (λ_ _=>rfl) ((cS _ _ _ _ _ _ _ _).mpr (cG rfl (no 1 _ (by unfold VOk;omega) (by omega) hn)))) (λk4=>⟨_,hz.cell rfl,bC (λk5=>absurd k5 (by omega)) (λk5=>dP (P:=prog) (fn:=f90) (R:=VR w v nodes lines) (λ_ _=>rfl) ((cS _ _ _ _ _ _ _ _).mpr (dM rfl ?m1)))⟩))⟩) (λk3=>(eT _ _ _ _ _ _ _).mpr (dM rfl ⟨_,hz.cell rfl,bC (λk5=>⟨_,_,_,hz.cell rfl,dP (P:=prog) (fn:=f90) (R:=VR w v nodes lines) (λ_ _=>rfl) ((cS _ _ _ _ _ _ _ _).mpr (aE (λk6=>no 1 _ (by unfold VOk;omega) (by omega) hn) (λk6=>?m2)))⟩) (λk5=>dP (P:=prog) (fn:=f90) (R:=VR w v nodes lines) (λ_ _=>rfl) ((cS _ _ _ _ _ _ _ _).mpr (dM rfl ?m3)))⟩))⟩))⟩)⟩
 all_goals
  refine bY (dP (P:=prog) (fn:=f90) (R:=VR w v nodes lines) (λ_ _=>rfl) ((pR _ _ _ _ _ _ _).mpr (bA.mk_ex v ⟨aK hz rfl,?_⟩)))
  refine aG hct ?_
  rintro x w2 ⟨rfl,hn2⟩
  have hz2:=New.blk hn2 hz
  have hn02:=hn.new hn2
  refine ⟨_,rfl,?_⟩
  refine (nj _ _ _).mpr ((mD _ _ _).mpr (dP (P:=prog) (fn:=f90) (R:=VR w v nodes lines) (λ_ _=>rfl) ((pS _ _ _ _ _ _ _ _).mpr (aE (λg5=>(jL _ _ _ _ _ _ _ _ _).mpr (cG rfl ((gR _ _ _ _ _ _ _ _ _).mpr (cG rfl ((eU _ _ _ _ _ _ _ _ _).mpr (cG rfl ((dX _ _ _ _ _ _ _ _ _).mpr (cG rfl ((cO _ _ _ _ _ _ _ _).mpr (cG rfl ((cE _ _ _ _ _ _ _ _).mpr (cG rfl ((bX _ _ _ _ _ _ _ _).mpr (cG rfl (bY (dP (P:=prog) (fn:=f90) (R:=VR w v nodes lines) (λ_ _=>rfl) ((bP _ _ _ _ _ _ _ _).mpr (cG rfl (no 2 _ (by unfold VOk;omega) (by omega) hn02))))))))))))))))))) (λg5=>(jL _ _ _ _ _ _ _ _ _).mpr (aE (λg6=>(gR _ _ _ _ _ _ _ _ _).mpr (cG rfl ((eU _ _ _ _ _ _ _ _ _).mpr (cG rfl ((dX _ _ _ _ _ _ _ _ _).mpr (cG rfl ((cO _ _ _ _ _ _ _ _).mpr (cG rfl ((cE _ _ _ _ _ _ _ _).mpr (cG rfl ((bX _ _ _ _ _ _ _ _).mpr (cG rfl (bY (dP (P:=prog) (fn:=f90) (R:=VR w v nodes lines) (λ_ _=>rfl) ((bP _ _ _ _ _ _ _ _).mpr (cG rfl (no 2 _ (by unfold VOk;omega) (by omega) hn02))))))))))))))))) (λg6=>(gR _ _ _ _ _ _ _ _ _).mpr (aE (λg7=>(eU _ _ _ _ _ _ _ _ _).mpr (cG rfl ((dX _ _ _ _ _ _ _ _ _).mpr (cG rfl ((cO _ _ _ _ _ _ _ _).mpr (cG rfl ((cE _ _ _ _ _ _ _ _).mpr (cG rfl ((bX _ _ _ _ _ _ _ _).mpr (cG rfl (bY (dP (P:=prog) (fn:=f90) (R:=VR w v nodes lines) (λ_ _=>rfl) ((bP _ _ _ _ _ _ _ _).mpr (cG rfl (no 2 _ (by unfold VOk;omega) (by omega) hn02))))))))))))))) (λg7=>(eU _ _ _ _ _ _ _ _ _).mpr (aE (λg8=>(dX _ _ _ _ _ _ _ _ _).mpr (cG rfl ((cO _ _ _ _ _ _ _ _).mpr (cG rfl ((cE _ _ _ _ _ _ _ _).mpr (cG rfl ((bX _ _ _ _ _ _ _ _).mpr (cG rfl (bY (dP (P:=prog) (fn:=f90) (R:=VR w v nodes lines) (λ_ _=>rfl) ((bP _ _ _ _ _ _ _ _).mpr (cG rfl (no 2 _ (by unfold VOk;omega) (by omega) hn02))))))))))))) (λg8=>⟨_,hz2.cell rfl,(dX _ _ _ _ _ _ _ _ _).mpr (aE (λg9=>(cO _ _ _ _ _ _ _ _).mpr (cG rfl ((cE _ _ _ _ _ _ _ _).mpr (cG rfl ((bX _ _ _ _ _ _ _ _).mpr (cG rfl (bY (dP (P:=prog) (fn:=f90) (R:=VR w v nodes lines) (λ_ _=>rfl) ((bP _ _ _ _ _ _ _ _).mpr (cG rfl (no 2 _ (by unfold VOk;omega) (by omega) hn02))))))))))) (λg9=>⟨_,hz2.cell rfl,(cO _ _ _ _ _ _ _ _).mpr (aE (λg10=>(cE _ _ _ _ _ _ _ _).mpr (cG rfl ((bX _ _ _ _ _ _ _ _).mpr (cG rfl (bY (dP (P:=prog) (fn:=f90) (R:=VR w v nodes lines) (λ_ _=>rfl) ((bP _ _ _ _ _ _ _ _).mpr (cG rfl (no 2 _ (by unfold VOk;omega) (by omega) hn02))))))))) (λg10=>⟨_,hz2.cell rfl,(cE _ _ _ _ _ _ _ _).mpr (aE (λg11=>(bX _ _ _ _ _ _ _ _).mpr (cG rfl (bY (dP (P:=prog) (fn:=f90) (R:=VR w v nodes lines) (λ_ _=>rfl) ((bP _ _ _ _ _ _ _ _).mpr (cG rfl (no 2 _ (by unfold VOk;omega) (by omega) hn02))))))) (λg11=>⟨_,hz2.cell rfl,(bX _ _ _ _ _ _ _ _).mpr (aE (λg12=>bY (dP (P:=prog) (fn:=f90) (R:=VR w v nodes lines) (λ_ _=>rfl) ((bP _ _ _ _ _ _ _ _).mpr (cG rfl (no 2 _ (by have e8:=w64 (x:=lines * 8) (by omega) (by omega);unfold VOk;omega) (by omega) hn02))))) (λg12=>bY (dP (P:=prog) (fn:=f90) (R:=VR w v nodes lines) (λ_ _=>rfl) ((bP _ _ _ _ _ _ _ _).mpr (aE (λg13=>no 2 _ (by unfold VOk;omega) (by omega) hn02) (λg13=>?_))))))⟩))⟩))⟩))⟩)))))))))))
  have e8:=w64 (x:=lines * 8) (by omega) (by omega)
  refine bY (dP (P:=prog) (fn:=f90) (R:=VR w v nodes lines) (λ_ _=>rfl) ((pf _ _ _ _ _ _ _).mpr (?_)))
  rintro w3 hw3
  have hn3:New w2 w3:=by rw [hw3];exact aW _
  clear hw3
  have hz3:=New.blk hn3 hz2
  have hn03:=hn02.new hn3
  refine ⟨λy=>New w3 y,Keep.refl _ _,_,λy hy=>(New.blk hy hz3).cell rfl,_,λy hy=>(New.blk hy hz3).cell rfl,?_⟩
  rw [w64 (x:=v.At+cntV v) (by omega) (by omega),w64 (x:=v.At+cntV v - 1) (by omega) (by omega),Int.tdiv_eq_ediv_of_nonneg (show 0≤v.At+cntV v - 1 by omega),w64 (x:=(v.At+cntV v - 1) / 8) (by omega) (by omega),Int.tdiv_eq_ediv_of_nonneg (show 0≤v.At by omega),w64 (x:=v.At / 8) (by omega) (by omega)]
  have e9:=w64 (x:=(v.At+cntV v - 1) / 8 - v.At / 8) (by omega) (by omega)
  have e10:IntKind.i64.wrap (IntKind.i64.wrap ((v.At+cntV v - 1) / 8 - v.At / 8)+1)=(v.At+cntV v - 1) / 8 - v.At / 8+1:=by rw [e9,w64 (by omega) (by omega)]
  exact (mE _ _ _).mpr ((lT _ _ _).mpr (dP (P:=prog) (fn:=f90) (R:=VR w v nodes lines) (λ_ _=>rfl) ((ph _ _ _ _ _ _ _ _).mpr (aE (λt0=>bY (dP (P:=prog) (fn:=f90) (R:=VR w v nodes lines) (λ_ _=>rfl) ((jm _ _ _ _ _ _ _ _).mpr (cG rfl (no 2 _ (by unfold VOk;omega) (by omega) hn03))))) (λt0=>bY (dP (P:=prog) (fn:=f90) (R:=VR w v nodes lines) (λ_ _=>rfl) ((jm _ _ _ _ _ _ _ _).mpr (aE (λu0=>no 2 _ (by unfold VOk;omega) (by omega) hn03) (λu0=>bY ((mF _ _ _).mpr ((lU _ _ _).mpr (dP (P:=prog) (fn:=f90) (R:=VR w v nodes lines) (λ_ _=>rfl) ((pi _ _ _ _ _ _ _).mpr (⟨_,hz3.cell rfl,bE (λz0=>(jo _ _ _ _ _ _ _ _).mpr (aE (λy0=>(gG _ _ _ _ _ _ _ _).mpr (aE (λx0=>bY (dP (P:=prog) (fn:=f90) (R:=VR w v nodes lines) (λ_ _=>rfl) ((bI _ _ _ _ _).mpr (cG rfl (no 2 _ (by unfold VOk;omega) (by omega) hn03))))) (λx0=>⟨_,hz3.cell rfl,bC (λx1=>aE (λx2=>bY (dP (P:=prog) (fn:=f90) (R:=VR w v nodes lines) (λ_ _=>rfl) ((bI _ _ _ _ _).mpr (aE (λx=>no 2 _ (by unfold VOk;omega) (by omega) hn03) (λx=>bY (dP (P:=prog) (fn:=f90) (R:=VR w v nodes lines) (λ_ _=>rfl) ((bQ _ _ _ _).mpr (yes _ (by unfold VOk;omega) hn03)))))))) (λx2=>bY (dP (P:=prog) (fn:=f90) (R:=VR w v nodes lines) (λ_ _=>rfl) ((bI _ _ _ _ _).mpr (dM rfl (bY (dP (P:=prog) (fn:=f90) (R:=VR w v nodes lines) (λ_ _=>rfl) ((bQ _ _ _ _).mpr (yes _ (by unfold VOk;omega) hn03))))))))) (λx1=>bY (dP (P:=prog) (fn:=f90) (R:=VR w v nodes lines) (λ_ _=>rfl) ((bI _ _ _ _ _).mpr (dM rfl (bY (dP (P:=prog) (fn:=f90) (R:=VR w v nodes lines) (λ_ _=>rfl) ((bQ _ _ _ _).mpr (yes _ (by unfold VOk;omega) hn03))))))))⟩))) (λy0=>(gG _ _ _ _ _ _ _ _).mpr (dM rfl ⟨_,hz3.cell rfl,bC (λx1=>aE (λx2=>bY (dP (P:=prog) (fn:=f90) (R:=VR w v nodes lines) (λ_ _=>rfl) ((bI _ _ _ _ _).mpr (aE (λx=>no 2 _ (by unfold VOk;omega) (by omega) hn03) (λx=>bY (dP (P:=prog) (fn:=f90) (R:=VR w v nodes lines) (λ_ _=>rfl) ((bQ _ _ _ _).mpr (yes _ (by unfold VOk;omega) hn03)))))))) (λx2=>bY (dP (P:=prog) (fn:=f90) (R:=VR w v nodes lines) (λ_ _=>rfl) ((bI _ _ _ _ _).mpr (dM rfl (bY (dP (P:=prog) (fn:=f90) (R:=VR w v nodes lines) (λ_ _=>rfl) ((bQ _ _ _ _).mpr (yes _ (by unfold VOk;omega) hn03))))))))) (λx1=>bY (dP (P:=prog) (fn:=f90) (R:=VR w v nodes lines) (λ_ _=>rfl) ((bI _ _ _ _ _).mpr (dM rfl (bY (dP (P:=prog) (fn:=f90) (R:=VR w v nodes lines) (λ_ _=>rfl) ((bQ _ _ _ _).mpr (yes _ (by unfold VOk;omega) hn03))))))))⟩)))) (λz0=>(jo _ _ _ _ _ _ _ _).mpr (dM rfl ((gG _ _ _ _ _ _ _ _).mpr (dM rfl ⟨_,hz3.cell rfl,bC (λx1=>aE (λx2=>bY (dP (P:=prog) (fn:=f90) (R:=VR w v nodes lines) (λ_ _=>rfl) ((bI _ _ _ _ _).mpr (aE (λx=>no 2 _ (by unfold VOk;omega) (by omega) hn03) (λx=>bY (dP (P:=prog) (fn:=f90) (R:=VR w v nodes lines) (λ_ _=>rfl) ((bQ _ _ _ _).mpr (yes _ (by unfold VOk;omega) hn03)))))))) (λx2=>bY (dP (P:=prog) (fn:=f90) (R:=VR w v nodes lines) (λ_ _=>rfl) ((bI _ _ _ _ _).mpr (dM rfl (bY (dP (P:=prog) (fn:=f90) (R:=VR w v nodes lines) (λ_ _=>rfl) ((bQ _ _ _ _).mpr (yes _ (by unfold VOk;omega) hn03))))))))) (λx1=>bY (dP (P:=prog) (fn:=f90) (R:=VR w v nodes lines) (λ_ _=>rfl) ((bI _ _ _ _ _).mpr (dM rfl (bY (dP (P:=prog) (fn:=f90) (R:=VR w v nodes lines) (λ_ _=>rfl) ((bQ _ _ _ _).mpr (yes _ (by unfold VOk;omega) hn03))))))))⟩))))⟩))))))))))))))
end Go.Proofs.YtafopfaomkklpaaGreat
namespace Go.Proofs.YtafopfaomkklpaaGreat
open Go.Eng
theorem vY (w:World) (v:bA):Does 170 [v.val] w λx w'=>(∃ b,x=.bool b)∧New w w':=by
 refine does Tryz.func170 ?_
 rw [rP]
 rintro b1 w1 hb1 hw1
 obtain ⟨hz,hn⟩:=aR hb1 hw1
 have hz:Blk w1 b1 v.cells TVb:=hz
 clear hw1
 rintro w2 hw2
 have hn2:New w1 w2:=by rw [hw2];exact aW _
 clear hw2
 have hz2:=New.blk hn2 hz
 refine ⟨λy=>New w2 y,Keep.refl _ _,_,λy hy=>(New.blk hy hz2).cell (i:=2) rfl,bA.mk_ex v ⟨λy hy=>aK (New.blk hy hz2) rfl,?_⟩⟩
 refine aG (xM w2 v) ?_
 rintro x w3 ⟨rfl,hn3⟩
 have hn03:=(hn.new hn2).new hn3
 exact ⟨_,rfl,hn3,aE (λ_=>⟨⟨_,rfl⟩,hn03⟩) (λ_=>⟨_,(New.blk hn3 hz2).cell (i:=0) rfl,bC (λ_=>⟨⟨_,rfl⟩,hn03⟩) (λ_=>⟨⟨_,rfl⟩,hn03⟩)⟩)⟩
theorem Ge (w:World) (v:bA) (inc door key boot:Int):Does 133 [v.val,.int .i64 inc,.int .u64 door,.int .u64 key,.int .u64 boot] w λx w'=>(∃ e:Int,x=.int .i64 e)∧New w w':=by
 refine does Tryz.func133 ?_
 rw [ta]
 rintro b1 w1 hb1 hw1
 obtain ⟨hz,hn⟩:=aR hb1 hw1
 have hz:Blk w1 b1 v.cells TVb:=hz
 clear hw1
 refine ⟨_,hz.cell (i:=0) rfl,bC (λ_=>?_) (λ_=>?_)⟩
 ·refine bA.mk_ex v ⟨aK hz rfl,?_⟩
  refine aG (vY w1 v) ?_
  rintro x w2 ⟨⟨b,rfl⟩,hn2⟩
  have hz2:=New.blk hn2 hz
  have hn02:=hn.new hn2
  refine ⟨_,rfl,iL (λ_=>⟨⟨_,rfl⟩,hn02⟩) (λ_=>aE (λ_=>⟨⟨_,rfl⟩,hn02⟩) (λ_=>aE (λ_=>⟨⟨_,rfl⟩,hn02⟩) (λ_=>?_)))⟩
  refine bA.mk_ex v ⟨aK hz2 rfl,?_⟩
  refine aG (vY w2 v) ?_
  rintro x w3 ⟨⟨b,rfl⟩,hn3⟩
  have hz3:=New.blk hn3 hz2
  have hn03:=hn02.new hn3
  exact ⟨_,rfl,iL (λ_=>⟨⟨_,rfl⟩,hn03⟩) (λ_=>⟨_,hz3.cell (i:=8) rfl,aE (λ_=>⟨⟨_,rfl⟩,hn03⟩) (λ_=>⟨_,hz3.cell (i:=8) rfl,bE (λ_=>⟨⟨_,rfl⟩,hn03⟩) (λ_=>⟨_,hz3.cell (i:=7) rfl,bE (λ_=>⟨⟨_,rfl⟩,hn03⟩) (λ_=>⟨⟨_,rfl⟩,hn03⟩)⟩)⟩)⟩)⟩
 ·refine aE (λ_=>⟨⟨_,rfl⟩,hn⟩) (λ_=>aE (λ_=>⟨⟨_,rfl⟩,hn⟩) (λ_=>?_))
  refine bA.mk_ex v ⟨aK hz rfl,?_⟩
  refine aG (vY w1 v) ?_
  rintro x w3 ⟨⟨b,rfl⟩,hn3⟩
  have hz3:=New.blk hn3 hz
  have hn03:=hn.new hn3
  exact ⟨_,rfl,iL (λ_=>⟨⟨_,rfl⟩,hn03⟩) (λ_=>⟨_,hz3.cell (i:=8) rfl,aE (λ_=>⟨⟨_,rfl⟩,hn03⟩) (λ_=>⟨_,hz3.cell (i:=8) rfl,bE (λ_=>⟨⟨_,rfl⟩,hn03⟩) (λ_=>⟨_,hz3.cell (i:=7) rfl,bE (λ_=>⟨⟨_,rfl⟩,hn03⟩) (λ_=>⟨⟨_,rfl⟩,hn03⟩)⟩)⟩)⟩)⟩
theorem at_w {w:World} {fb:Nat} {F:Fa} {N:List cB} {Cl:List CliR} {P:Nat→List bS} (h:dC w fb F N Cl P) {r:cB} (hr:r ∈ N) {ad:Addr} (had:NdAt fb F N Cl P r ad) (i:Int):Does 134 [.pointer (some ad),.int .i64 i] w λx w'=>(∃ y:Int,x=.int .u64 y)∧w'=w:=by
 refine does Tryz.func134 ?_
 rw [uW]
 obtain ⟨b,q1,q2,q3,q4⟩:=h.nok r hr
 refine aE (λ_=>⟨⟨_,rfl⟩,rfl⟩) (λh0=>⟨_,_,_,had w h,aE (λ_=>⟨⟨_,rfl⟩,rfl⟩) (λh1=>⟨_,_,_,had w h,?_⟩)⟩)
 have hlt:i.toNat<F.lines * 8:=by omega
 obtain ⟨y,hy,_⟩:=q4.get hlt
 rw [q1,q2]
 exact bG (by omega) (by omega) ⟨y,by rw [show 0+i.toNat * 1=i.toNat by omega];exact hy,⟨_,rfl⟩,rfl⟩
def tW:Nat→Int→Int→List (Int×Int)
 | 0,_,_=>[]
 |f+1,a,l=>if l≤0 then [] else (a,min l (8 - a % 8))::tW f (a+min l (8 - a % 8)) (l - min l (8 - a % 8))
def pcs (a l:Int):List (Int×Int):=tW l.toNat a l
theorem wW:∀ (f g:Nat) (a l:Int),l.toNat≤f→l.toNat≤g→tW f a l=tW g a l
 | 0,0,_,_,_,_=>rfl
 | 0,g+1,a,l,h,_=>by
  unfold tW
  rw [if_pos (by omega)]
 |f+1,0,a,l,_,h=>by
  unfold tW
  rw [if_pos (by omega)]
 |f+1,g+1,a,l,h1,h2=>by
  unfold tW
  by_cases e:l≤0
  ·rw [if_pos e,if_pos e]
  ·rw [if_neg e,if_neg e,wW f g _ _ (by omega) (by omega)]
theorem Gf {a l:Int} (h:l≤0):pcs a l=[]:=by
 unfold pcs
 have e:l.toNat=0:=by omega
 rw [e]
 rfl
theorem AY {a l:Int} (h:0<l):pcs a l=(a,min l (8 - a % 8))::pcs (a+min l (8 - a % 8)) (l - min l (8 - a % 8)):=by
 unfold pcs
 obtain ⟨n,hn⟩:∃ n,l.toNat=n+1:=⟨l.toNat - 1,by omega⟩
 rw [hn,tW,if_neg (by omega),wW n _ _ _ (by omega) (Nat.le_refl _)]
theorem AZ:∀ (f:Nat) (a l:Int),0≤a→∀ x ∈ tW f a l,(1≤x.2∧x.2≤8)∧a≤x.1∧x.1+x.2≤a+l
 | 0,_,_,_,x,hx=>by simp [tW] at hx
 |f+1,a,l,ha,x,hx=>by
  unfold tW at hx
  by_cases e:l≤0
  ·rw [if_pos e] at hx;simp at hx
  ·rw [if_neg e] at hx
   rcases List.mem_cons.1 hx with rfl | hx
   ·dsimp only;omega
   ·have:=AZ f _ _ (by omega) x hx
    omega
theorem Hr {a l:Int} (ha:0≤a) {x:Int×Int} (hx:x ∈ pcs a l):(1≤x.2∧x.2≤8)∧a≤x.1∧x.1+x.2≤a+l:=AZ _ _ _ ha x hx
theorem yN:∀ (f:Nat) (a l:Int),(tW f a l).length≤f
 | 0,_,_=>by simp [tW]
 |f+1,a,l=>by
  unfold tW
  split
  ·simp
  ·rw [List.length_cons];have:=yN f (a+min l (8 - a % 8)) (l - min l (8 - a % 8));omega
theorem Gg (a l:Int):(pcs a l).length≤l.toNat:=yN _ _ _
theorem Gi {a l:Int} (h:0<l):0<(pcs a l).length:=by
 rw [AY h]
 simp
def pcR (x:Int×Int):aX:=⟨x.1,x.2⟩
def npV (v:bA):List (Int×Int):=pcs v.At (cntV v)
set_option maxHeartbeats 1000000 in
theorem C6 (w:World) {v:bA} (h0:0≤v.At∧v.At≤100000) (h1:cntV v≤100000):Does 135 [v.val] w λx w'=>∃ a c,x=.slice a (npV v).length c∧Owns w' TRPc 2 a (npV v).length c (((npV v).map pcR).map aX.cells).flatten∧New w w':=by
 refine does Tryz.func135 ?_
 rw [sB]
 rintro b1 w1 hb1 hw1
 obtain ⟨hz,hn⟩:=aR hb1 hw1
 have hz:Blk w1 b1 v.cells TVb:=hz
 clear hw1
 rintro w2 hw2
 have hn2:New w1 w2:=by rw [hw2];exact aW _
 clear hw2
 have hz2:=New.blk hn2 hz
 refine ⟨λy=>New w2 y,Keep.refl _ _,_,λy hy=>(New.blk hy hz2).cell (i:=2) rfl,bA.mk_ex v ⟨λy hy=>aK (New.blk hy hz2) rfl,?_⟩⟩
 refine aG (xM w2 v) ?_
 rintro x w3 ⟨rfl,hn3⟩
 have hn03:=(hn.new hn2).new hn3
 refine ⟨_,rfl,hn3,?_⟩
 obtain ⟨inf,hi,hzr,hsz,hby⟩:=p7 (T:=TRPc) (z:=.agg #[.int .i64 0,.int .i64 0]) (n:=2) (m:=16) (by kernel_rfl)
 unfold npV
 generalize cntV v=cnt at h1 ⊢
 refine aS mix (λm env u=>∃ (a:Option Addr) (c:Nat) (l:List (Int×Int)) (at_ lf:Int) (jj:List Value),m=lf.toNat∧env=fU a l.length c at_ lf jj∧New w u∧Owns u TRPc 2 a l.length c ((l.map pcR).map aX.cells).flatten∧(∀ k,isB a k→w.heap.size≤k)∧pcs v.At cnt=l++pcs at_ lf∧0≤at_∧(0≤lf→at_+lf=v.At+cnt)∧(lf<0→lf=cnt)∧(l.length:Int)≤at_ - v.At∧at_≤300000) cnt.toNat
  ⟨none,0,[],v.At,cnt,_,rfl,rfl,hn03,Owns.nil _ _ _,(λk hk=>absurd hk noB),rfl,h0.1,(λ_=>rfl),(λ_=>rfl),by simp,by omega⟩ ?_
 rintro m env u ⟨a,c,l,at_,lf,jj,rfl,rfl,hnu,hown,hfr,hp,ha0,hsum,hneg,hll,ha3⟩
 rw [mI]
 refine aE (λhq=>?_) (λhq=>?_)
 ·have hm:Int.tmod at_ 8=at_ % 8:=Int.tmod_eq_emod_of_nonneg ha0
  have hs:=hsum (by omega)
  have e8:IntKind.i64.wrap (8 - Int.tmod at_ 8)=8 - at_ % 8:=by rw [hm,w64 (by omega) (by omega)]
  have emin:(if IntKind.i64.wrap (8 - Int.tmod at_ 8)<lf then IntKind.i64.wrap (8 - Int.tmod at_ 8) else lf)=min lf (8 - at_ % 8):=by
   rw [e8]
   split<;>omega
  rw [emin]
  have hc:=AY (a:=at_) (l:=lf) (by omega)
  generalize hk:min lf (8 - at_ % 8)=k at hc ⊢
  rintro b2 u1 hb2 hu1
  obtain ⟨hz1,hn1⟩:=aR hb2 hu1
  have hz1:Blk u1 b2 (aX.cells ⟨at_,k⟩) TRPc:=hz1
  clear hu1
  have s0:=hnu.size
  have s1:=hn1.size
  refine pH (cells:=aX.cells) aX.len aX.single Tryz.underlying237 hi hzr (by rw [hsz];rfl) hsz (by omega) (by omega) (Owns.new hn1 hown) (s:=some ⟨b2,0,none⟩) (m:=1) (c:=1) (l2:=[⟨at_,k⟩]) (eV hz1 (by simp)) rfl (by omega) λap cap' u2 ho2 hk2 hap=>?_
  rw [w64 (x:=at_+k) (by omega) (by omega),w64 (x:=lf - k) (by omega) (by omega)]
  have hl1:(l++[(at_,k)]).length=l.length+1:=by simp
  refine ⟨(lf - k).toNat,by omega,ap,cap',l++[(at_,k)],at_+k,lf - k,_,rfl,by rw [hl1],(hnu.new hn1).trans hk2 λq hlt e=>by have:=hfr q e;omega,?_,λq hq=>?_,?_,by omega,λ_=>by omega,λh=>by omega,by rw [hl1];omega,by omega⟩
  ·rw [hl1,List.map_append]
   exact ho2
  ·rcases hap q hq with e | e
   ·exact hfr q e
   ·omega
  ·rw [hp,hc,List.append_assoc]
   rfl
 ·rw [po]
  have hnil:pcs at_ lf=[]:=Gf (by omega)
  rw [hnil,List.append_nil] at hp
  rw [hp]
  exact ⟨a,c,rfl,hown,hnu⟩
end Go.Proofs.YtafopfaomkklpaaGreat
namespace Go.Proofs.YtafopfaomkklpaaGreat
open Go.Eng
theorem ko {w w':World} {M:Nat→Prop} {a:Option Addr} {xs:List Value} (hk:Keep M w w') (h:Rd w a xs) (ho:∀ k,k<w.heap.size→isB a k→¬ M k):Rd w' a xs:=by
 by_cases hx:xs=[]
 ·rw [hx];exact Rd.nil _ _
 ·refine h.keep hk (.inr ?_)
  have h':=h
  rcases h with e | ⟨b,o,rfl,_⟩
  ·exact absurd e hx
  ·have hlt:=Rd.lt (a:=⟨b,o,none⟩) h' hx
   exact ho b hlt ⟨o,rfl⟩
structure VbAt (w:World) (Av:Nat→Prop) (v:bA):Prop where
 words:∃ vs:List Int,Rd w v.Words (us vs)∧v.Wl=vs.length∧∀ x ∈ vs,U64 x
 off:∀ k,isB v.Words k→¬ Av k
 lt:∀ k,isB v.Words k→k<w.heap.size
 new:U64 v.New
theorem VbAt.keep {w w':World} {Av M:Nat→Prop} {v:bA} (h:VbAt w Av v) (hk:Keep M w w') (hM:∀ k,k<w.heap.size→M k→Av k):VbAt w' Av v:=by
 obtain ⟨vs,h1,h2,h3⟩:=h.words
 exact ⟨⟨vs,ko hk h1 λk hlt hb hm=>h.off k hb (hM k hlt hm),h2,h3⟩,h.off,λk hb=>Nat.lt_of_lt_of_le (h.lt k hb) hk.size,h.new⟩
theorem VbAt.next {w w':World} {Av:Nat→Prop} {v:bA} (h:VbAt w Av v) (hn:New w w'):VbAt w' Av v:=h.keep hn λ_ _ e=>e.elim
theorem VbAt.to {w:World} {Av Av':Nat→Prop} {v:bA} (h:VbAt w Av v) (ha:∀ k,k<w.heap.size→Av' k→Av k):VbAt w Av' v:=⟨h.words,λk hb hA=>h.off k hb (ha k (h.lt k hb) hA),h.lt,h.new⟩
def WBk (N:List cB) (k:Nat):Prop:=∃ r ∈ N,isB r.Words k
theorem Ez {w:World} {L:Nat} {r:cB} (h:qG w L r):∃ ws:List Int,Rd w r.Words (us ws)∧ws.length=L * 8∧∀ x ∈ ws,U64 x:=by
 obtain ⟨b,q1,q2,q3,ws,h1,h2,h3⟩:=h
 exact ⟨ws,by rw [q1];exact eV h1 (by rw [List.drop_zero];exact List.take_of_length_le (Nat.le_refl _)),h2,h3⟩
def ExR (N:List cB) (w:World) (x:Value) (w':World):Prop:=∃ a n c l,x=.slice a n c∧WL w w' a n c l∧l.length≤8∧Wr N w w'
set_option maxHeartbeats 4000000 in
theorem C7 {w:World} {fb:Nat} {F:Fa} {N:List cB} {Cl:List CliR} {P:Nat→List bS} (h:dC w fb F N Cl P) {r:cB} (hr:r ∈ N) {ad:Addr} (had:NdAt fb F N Cl P r ad) {v:bA} (hv:VbAt w (WBk N) v) {p:aX} (hp1:1≤p.N∧p.N≤8) (hp0:0≤v.At∧v.At≤p.At) (hpl:p.At+p.N≤F.lines * 8) (hpw:v.Kind=2→p.At+p.N≤v.At+v.Wl) :
  Does 136 [.pointer (some ad),v.val,p.val] w (ExR N w):=by
 refine does Tryz.func136 ?_
 rw [rO]
 have hln:=h.ln
 rintro b1 w1 hb1 hw1
 obtain ⟨hz1,hn1⟩:=aR hb1 hw1
 have hz1:Blk w1 b1 v.cells TVb:=hz1
 clear hw1
 rintro b2 w2 hb2 hw2
 obtain ⟨hz2,hn2⟩:=aR hb2 hw2
 have hz2:Blk w2 b2 p.cells TRPc:=hz2
 clear hw2
 rintro w3 hw3
 have hn3:New w2 w3:=by rw [hw3];exact aW _
 clear hw3
 have hz3:=New.blk hn3 hz2
 have hx3:=New.blk (hn2.new hn3) hz1
 have hn03:=hn1.new (hn2.new hn3)
 have h3:=h.new hn03
 obtain ⟨ws,hws,hwl,hwU⟩:=Ez (h3.nok r hr)
 obtain ⟨b,q1,q2,q3,q4⟩:=h3.nok r hr
 obtain ⟨i,hi⟩:=Int.eq_ofNat_of_zero_le (show 0≤p.At by omega)
 obtain ⟨n,hn⟩:=Int.eq_ofNat_of_zero_le (show 0≤p.N by omega)
 refine ⟨λy=>New w3 y,Keep.refl _ _,_,_,_,λy hy=>had y (h3.new hy),_,λy hy=>(New.blk hy hz3).cell (i:=0) rfl,_,λy hy=>(New.blk hy hz3).cell (i:=0) rfl,_,λy hy=>(New.blk hy hz3).cell (i:=1) rfl,?_⟩
 rw [w64 (x:=p.At+p.N) (by omega) (by omega)]
 refine vj (cells:=Ea) (sz:=1) (λ_=>rfl) (l:=ws) (by rw [vJ];exact hws) (n:=r.Words_l) (cap:=r.Words_c) (by omega) (by omega) (i:=i) (k:=i+n) hi (by omega) (by omega) (by omega) λxa hxr hxl=>?_
 rw [vJ] at hxr
 have hkn:i+n - i=n:=by omega
 rw [hkn] at hxl ⊢
 generalize hcp:(ws.take (i+n)).drop i=cp at hxr hxl
 have hcU:∀ x ∈ cp,U64 x:=λx hx=>by
  rw [←hcp] at hx
  exact hwU x (List.mem_of_mem_take (List.mem_of_mem_drop hx))
 refine yz hxr hxl.symm (by omega) λap cap' w4 ho4 hn4 hap=>⟨hn4,?_⟩
 have hn04:=hn03.new hn4
 have hx4:=New.blk hn4 hx3
 have hz4:=New.blk hn4 hz3
 have h4:=h3.new hn4
 have s03:=hn03.size
 have res:∀ {w':World},Wr N w4 w'→ExR N w (.slice ap n cap') w':=λ{w'} hw=>by
  refine ⟨ap,n,cap',cp,rfl,⟨Owns.keep hw.keep ho4 λk hk e=>?_,hxl.symm,hcU,λk hk=>by have:=hap k hk;omega⟩,by omega,(Wr.of_new hn04).trans hw⟩
  have:=(yL h3.nok e).lt
  have:=hap k hk
  omega
 have hcp0:cp[0]?=some (cp.getD 0 0):=by rw [List.getD_eq_getElem?_getD,List.getElem?_eq_getElem (by omega)];rfl
 refine ⟨_,hx4.cell (i:=0) rfl,bC (λ_=>res (Wr.refl _ _)) (λ_=>bC (λhk2=>?g2) (λ_=>bC (λ_=>?g3) (λ_=>bC (λ_=>?g4) (λ_=>res (Wr.refl _ _)))))⟩
 case g2=>
  have hv4:=hv.next hn04
  refine aS mix (λm env u=>∃ (j:Nat) (jj:List Value),m=n - j∧j≤n∧env=fG ad ⟨b1,0,none⟩ ⟨b2,0,none⟩ j jj∧Wr N w4 u∧dC u fb F N Cl P) n
   ⟨0,_,by omega,by omega,rfl,Wr.refl _ _,h4⟩ ?_
  rintro m env u ⟨j,jj,rfl,hj,rfl,hw,hf⟩
  rw [lV]
  have hxu:=hw.tr h4.nok (by decide) _ _ hx4
  have hzu:=hw.tr h4.nok (by decide) _ _ hz4
  have hvu:=hv4.keep hw.keep λk _ e=>e
  refine ⟨_,hzu.cell (i:=1) rfl,aE (λhq=>?_) (λhq=>?_)⟩
  ·rintro u1 hu1
   have hn1':New u u1:=by rw [hu1];exact aW _
   clear hu1
   have hf1:=hf.new hn1'
   have hx1:=New.blk hn1' hxu
   have hz1':=New.blk hn1' hzu
   obtain ⟨vs,hvr,hvl,hvU⟩:=(hvu.next hn1').words
   have hw2':=hpw hk2
   refine ⟨λy=>New u1 y,Keep.refl _ _,_,_,_,λy hy=>had y (hf1.new hy),_,λy hy=>(New.blk hy hz1').cell (i:=0) rfl,_,_,_,λy hy=>(New.blk hy hx1).cell (i:=6) rfl,_,λy hy=>(New.blk hy hz1').cell (i:=0) rfl,_,λy hy=>(New.blk hy hx1).cell (i:=2) rfl,?_⟩
   rw [w64 (x:=p.At - v.At) (by omega) (by omega),w64 (x:=p.At - v.At+(j:Int)) (by omega) (by omega),w64 (x:=p.At+(j:Int)) (by omega) (by omega),w64 (x:=(j:Int)+1) (by omega) (by omega)]
   have hg:vs[(p.At - v.At+(j:Int)).toNat]?=some (vs[(p.At - v.At+(j:Int)).toNat]'(by omega)):=List.getElem?_eq_getElem (by omega)
   have hgU:=hvU _ (List.getElem_mem (by omega:(p.At - v.At+(j:Int)).toNat<vs.length))
   refine rd_w hvr hg (by omega) hvl λb' o' hc=>⟨_,hc,ni hf1 hr hgU (by omega) (by omega) λad' w' hw'=>?_⟩
   exact ⟨n - (j+1),by omega,j+1,_,rfl,by omega,rfl,(hw.new hn1').trans hw',hf1.wr hw'⟩
  ·rw [og]
   exact ⟨none,0,0,[],rfl,⟨Owns.nil _ _ _,rfl,by simp,λk hk=>absurd hk noB⟩,by simp,(Wr.of_new hn04).trans hw⟩
 case g3=>
  rintro w5 hw5
  have hn5:New w4 w5:=by rw [hw5];exact aW _
  clear hw5
  refine ⟨λy=>New w5 y,Keep.refl _ _,rd_w (Rd.new hn5 ho4.rd) hcp0 rfl hxl.symm λb' o' hc=>⟨_,hc,_,λy hy=>(New.blk (hn5.new hy) hx4).cell (i:=4) rfl,bC (λ_=>?_) (λ_=>res (Wr.of_new hn5))⟩⟩
  rintro w6 hw6
  have hn6:New w5 w6:=by rw [hw6];exact aW _
  clear hw6
  have hn46:=hn5.new hn6
  have h6:=h4.new hn46
  refine ⟨λy=>New w6 y,Keep.refl _ _,_,_,_,λy hy=>had y (h6.new hy),_,λy hy=>(New.blk (hn46.new hy) hz4).cell (i:=0) rfl,_,λy hy=>(New.blk (hn46.new hy) hx4).cell (i:=5) rfl,ni h6 hr hv.new (by omega) (by omega) λad' w' hw'=>res ((Wr.of_new hn46).trans hw')⟩
 case g4=>
  rintro w5 hw5
  have hn5:New w4 w5:=by rw [hw5];exact aW _
  clear hw5
  have h5:=h4.new hn5
  refine ⟨λy=>New w5 y,Keep.refl _ _,_,_,_,λy hy=>had y (h5.new hy),_,λy hy=>(New.blk (hn5.new hy) hz4).cell (i:=0) rfl,rd_w (Rd.new hn5 ho4.rd) hcp0 rfl hxl.symm λb' o' hc=>⟨_,hc,_,λy hy=>(New.blk (hn5.new hy) hx4).cell (i:=5) rfl,ni h5 hr (mq _) (by omega) (by omega) λad' w' hw'=>res ((Wr.of_new hn5).trans hw')⟩⟩
end Go.Proofs.YtafopfaomkklpaaGreat
namespace Go.Proofs.YtafopfaomkklpaaGreat
open Go.Proofs.Tryz
open Go.Eng
abbrev dR:=aM
abbrev fX:=aM.cells
theorem Gj (w:World) (i:Int):Does 75 [.int .i64 i] w λv w'=>(∃ x:Int,v=.int .i64 x)∧w'=w:=by
 refine does Tryz.func75 ?_
 rw [oD]
 refine aG (jY w i) ?_
 rintro v w1 ⟨rfl,rfl⟩
 exact ⟨_,rfl,iL (λ_=>⟨⟨_,rfl⟩,rfl⟩) (λ_=>⟨⟨_,rfl⟩,rfl⟩)⟩
theorem Wr.fresh {N:List cB} {w u z:World} (h:Wr N w u) {M:Nat→Prop} (hk:Keep M u z) (hM:∀ k,M k→w.heap.size≤k):Wr N w z:=by
 refine ⟨h.keep.trans hk λk hlt e=>by have:=hM k e;omega,λb n hb=>?_⟩
 exact (h.u64 b n hb).keep hk λe=>by have:=hM b e;have:=hb.lt;omega
structure PdAt (w:World) (Av:Nat→Prop) (L m:Nat) (p:dR):Prop where
 vb:VbAt w Av p.V
 kind:1≤p.V.Kind∧p.V.Kind≤4
 at0:0≤p.V.At
 cnt:1≤cntV p.V∧cntV p.V≤1024
 fit:p.V.At+cntV p.V≤L * 8
 ex:0≤p.Executed∧p.Executed<(npV p.V).length
 words:∃ xs:List Int,Rd w p.Words (us xs)∧p.Words_l=xs.length∧(∀ x ∈ xs,U64 x)∧(xs.length:Int)≤8 * p.Executed
 off:∀ k,isB p.Words k→¬ Av k
 lt:∀ k,isB p.Words k→k<w.heap.size
 slot:0≤p.Slot∧p.Slot<m
theorem PdAt.keep {w w':World} {Av M:Nat→Prop} {L m:Nat} {p:dR} (h:PdAt w Av L m p) (hk:Keep M w w') (hM:∀ k,k<w.heap.size→M k→Av k):PdAt w' Av L m p:=by
 obtain ⟨xs,h1,h2,h3,h4⟩:=h.words
 exact ⟨h.vb.keep hk hM,h.kind,h.at0,h.cnt,h.fit,h.ex,⟨xs,ko hk h1 λk hlt hb hm=>h.off k hb (hM k hlt hm),h2,h3,h4⟩,h.off,λk hb=>Nat.lt_of_lt_of_le (h.lt k hb) hk.size,h.slot⟩
structure QAt (w:World) (Av:Nat→Prop) (L m:Nat) (a:Option Addr) (n cap:Nat) (ps:List dR):Prop where
 rd:Rd w a (ps.map fX).flatten
 len:n=ps.length
 cap:n≤cap
 few:ps.length≤1024
 off:∀ k,isB a k→¬ Av k
 lt:∀ k,isB a k→k<w.heap.size
 ok:∀ p ∈ ps,PdAt w Av L m p
theorem QAt.keep {w w':World} {Av M:Nat→Prop} {L m:Nat} {a:Option Addr} {n cap:Nat} {ps:List dR} (h:QAt w Av L m a n cap ps) (hk:Keep M w w') (hM:∀ k,k<w.heap.size→M k→Av k):QAt w' Av L m a n cap ps:=
 ⟨ko hk h.rd λk hlt hb hm=>h.off k hb (hM k hlt hm),h.len,h.cap,h.few,h.off,λk hb=>Nat.lt_of_lt_of_le (h.lt k hb) hk.size,λp hp=>(h.ok p hp).keep hk hM⟩
theorem QAt.next {w w':World} {Av:Nat→Prop} {L m:Nat} {a:Option Addr} {n cap:Nat} {ps:List dR} (h:QAt w Av L m a n cap ps) (hk:New w w'):QAt w' Av L m a n cap ps:=h.keep hk λ_ _ e=>e.elim
theorem PdAt.to {w:World} {Av Av':Nat→Prop} {L m:Nat} {p:dR} (h:PdAt w Av L m p) (ha:∀ k,k<w.heap.size→Av' k→Av k):PdAt w Av' L m p:=⟨h.vb.to ha,h.kind,h.at0,h.cnt,h.fit,h.ex,h.words,λk hb hA=>h.off k hb (ha k (h.lt k hb) hA),h.lt,h.slot⟩
theorem QAt.to {w:World} {Av Av':Nat→Prop} {L m:Nat} {a:Option Addr} {n cap:Nat} {ps:List dR} (h:QAt w Av L m a n cap ps) (ha:∀ k,k<w.heap.size→Av' k→Av k):QAt w Av' L m a n cap ps:=⟨h.rd,h.len,h.cap,h.few,λk hb hA=>h.off k hb (ha k (h.lt k hb) hA),h.lt,λp hp=>(h.ok p hp).to ha⟩
def setP (P:Nat→List bS) (c:Nat) (L:List bS):Nat→List bS:=λd=>if d=c then L else P d
theorem dC.rePair {w w':World} {fb:Nat} {F:Fa} {N:List cB} {Cl:List CliR} {P:Nat→List bS} (h:dC w fb F N Cl P) {c:Nat} (hc:c<Cl.length) (hk:Keep (λk=>k=F.pb c) w w') {L:List bS} (hl:L.length=N.length) (ho:Owns w' TPr 4 (some ⟨F.pb c,0,none⟩) N.length (F.pc c) (L.map bS.cells).flatten):dC w' fb F N Cl (setP P c L):=by
 obtain ⟨cur,hb,_⟩:=Owns.blk (h.pairs c hc).1
 have tr:∀ {T:TypeId},T≠TPr→∀ (b:Nat) (cs:List Value),Blk w b cs T→Blk w' b cs T:=λht b cs h=>hk.blk h λe=>h.ne hb ht e
 refine ⟨tr (by decide) _ _ h.fab,Owns.tr (tr (by decide)) h.nodes,λr hr=>?_,Owns.tr (tr (by decide)) h.clients,h.alive,Owns.tr (tr (by decide)) h.live,λd hd=>?_,h.inj,h.n1,h.c1,h.ln⟩
 ·obtain ⟨b,q1,q2,q3,q4⟩:=h.nok r hr
  exact ⟨b,q1,q2,q3,q4.keep hk (q4.ne hb (by decide))⟩
 ·unfold setP
  by_cases e:d=c
  ·subst e
   rw [if_pos rfl]
   exact ⟨ho,hl⟩
  ·rw [if_neg e]
   exact ⟨Owns.keep hk (h.pairs d hd).1 λk hk' e'=>e (h.inj d c hd hc (by rw [←ng hk',e'])),(h.pairs d hd).2⟩
theorem dC.lt {w:World} {fb:Nat} {F:Fa} {N:List cB} {Cl:List CliR} {P:Nat→List bS} (h:dC w fb F N Cl P) {k:Nat} (hk:F.own fb N Cl.length k):k<w.heap.size:=by
 rcases hk with rfl | rfl | rfl | rfl | ⟨c,hc,rfl⟩ | hb
 ·exact h.fab.lt
 ·exact Owns.lt h.nodes ⟨0,rfl⟩
 ·exact Owns.lt h.clients ⟨0,rfl⟩
 ·exact Owns.lt h.live ⟨0,rfl⟩
 ·exact Owns.lt (h.pairs c hc).1 ⟨0,rfl⟩
 ·exact (yL h.nok hb).lt
theorem A0 {u:World} {s:Option Addr} {m c:Nat} {l:List dR} (hs:Rd u s (l.map fX).flatten) (hm:m=l.length) (hn:m≤100000) {K:Option Addr→Nat→Nat→World→Prop}
  (hk:∀ ap cap' w3,Owns w3 TPe 12 ap m cap' (l.map fX).flatten→New u w3→(∀ k,isB ap k→u.heap.size≤k)→K ap m cap' w3) :
  ∃ (ap:Option Addr) (ap_len ap_cap:Nat),∃ w3,(Builtin.append_ #[187,187] 187 #[(.slice none 0 0),(.slice s m c)]).run prog u=.ok (.slice ap ap_len ap_cap) w3∧K ap ap_len ap_cap w3:=by
 obtain ⟨inf,hi,hz,hsz,hby⟩:=p7 (T:=TPe) (z:=.agg #[.int .i64 0,.int .i64 0,.int .i64 0,.int .i64 0,.int .u64 0,.int .u64 0,.slice none 0 0,.int .u64 0,.int .i64 0,.int .i64 0,.slice none 0 0,.int .i64 0]) (n:=12) (m:=128) (by kernel_rfl)
 refine pH (cells:=fX) aM.len aM.single Tryz.underlying187 hi hz (by rw [hsz];rfl) hsz (by omega) (by omega) (l:=[]) (Owns.nil u TPe 12) hs hm (by omega) λap cap' w3 h1 h2 h3=>?_
 rw [Nat.zero_add] at h1 ⊢
 exact hk ap cap' w3 h1 (h2.mono λk _ h=>noB h) λk hb=>(h3 k hb).resolve_left noB
def DnAt (w:World) (Av:Nat→Prop) (d:aY):Prop:=(∃ xs:List Int,Rd w d.Words (us xs)∧d.Wl=xs.length∧(∀ x ∈ xs,U64 x)∧xs.length≤100000)∧(∀ k,isB d.Words k→¬ Av k)∧∀ k,isB d.Words k→k<w.heap.size
theorem Hs {u:World} {fb:Nat} {F:Fa} {N:List cB} {Cl:List CliR} {P:Nat→List bS} (h:dC u fb F N Cl P) {c i:Nat} (hc:c<Cl.length) {pr:bS} (hi:(P c)[i]?=some pr) {Av:Nat→Prop} {m:Nat} {q:dR} {qs:List dR} (hq:QAt u Av F.lines m pr.Queue pr.Ql pr.Qc (q::qs)) (hAs:∀ k,Av k→k<u.heap.size) (hA1:Av (F.pb c)) {K:World→Prop}
  (hk:∀ w' a n cap,dC w' fb F N Cl (setP P c ((P c).set i ⟨pr.Client,pr.Inc,pr.Node,a,n,cap⟩))→QAt w' Av F.lines m a n cap qs→Keep (λk=>k=F.pb c) u w'→K w') :
  ∃ (Queue:Option Addr) (Ql Qc:Nat),u.cell? ⟨F.pb c,i * 4+3,none⟩=some (.slice Queue Ql Qc)∧sl3 Queue Ql Qc 1 Ql Qc 12 λxa xl xc=>∃ (ap:Option Addr) (al ac:Nat),∃ w5,(Builtin.append_ #[187,187] 187 #[(.slice none 0 0),(.slice xa xl xc)]).run prog u=.ok (.slice ap al ac) w5∧(∃ v,w5.cell? ⟨F.pb c,i * 4+3,none⟩=some v)∧w5.frozen? ⟨F.pb c,i * 4+3,none⟩=false∧∀ w6,w6=w5.setCell ⟨F.pb c,i * 4+3,none⟩ (.slice ap al ac)→K w6:=by
 have hpl:=(h.pairs c hc).2
 refine ⟨_,_,_,Owns.row bS.len (h.pairs c hc).1 hi (j:=3) rfl,?_⟩
 have hlen:=hq.len
 have hfew:=hq.few
 rw [List.length_cons] at hlen hfew
 refine vj (cells:=fX) aM.len (l:=q::qs) hq.rd hq.len hq.cap (i:=1) (k:=pr.Ql) rfl rfl (by omega) (Nat.le_refl _) λxa hxr hxl=>?_
 have e1:((q::qs).take pr.Ql).drop 1=qs:=by
  rw [List.take_of_length_le (by rw [List.length_cons];omega)]
  rfl
 rw [e1] at hxr hxl
 refine A0 hxr (by omega) (by omega) λap cap' w5 ho5 hn5 hap=>?_
 have h5:=h.new hn5
 refine ⟨⟨_,Owns.row bS.len (h5.pairs c hc).1 hi (j:=3) rfl⟩,Owns.frozen (h5.pairs c hc).1,?_⟩
 rintro w6 hw6
 have hk6:Keep (λk=>k=F.pb c) w5 w6:=by rw [hw6];exact aN _ _ _ _
 have hrow:=Owns.setRow bS.len (h5.pairs c hc).1 hi (j:=3) (r':=⟨pr.Client,pr.Inc,pr.Node,ap,pr.Ql - 1,cap'⟩) (v:=.slice ap (pr.Ql - 1) cap') (by omega) rfl
 rw [←hw6] at hrow
 obtain ⟨cur,hbl,_⟩:=Owns.blk (h5.pairs c hc).1
 have ho6:=Owns.keep hk6 ho5 λk hk e=>Owns.noB ho5 hbl (by decide) (by rw [←e];exact hk)
 refine hk w6 ap _ cap' (h5.rePair hc hk6 (by rw [List.length_set];exact hpl) hrow) ⟨ho6.rd,by omega,ho6.le,by omega,λk hk hA=>by have:=hap k hk;have:=hAs k hA;omega,λk hk=>Owns.lt ho6 hk,λp hp=>?_⟩ ((Keep.of_new hn5).trans hk6 λ_ _ e=>e)
 exact ((hq.ok p (List.mem_cons_of_mem _ hp)).keep hn5 λ_ _ e=>e.elim).keep hk6 λk _ e=>by rw [e];exact hA1
end Go.Proofs.YtafopfaomkklpaaGreat
