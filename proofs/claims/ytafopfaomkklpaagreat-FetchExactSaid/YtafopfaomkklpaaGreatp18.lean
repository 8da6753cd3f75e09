/- A part of the proof. -/
import Derived.Test.YtafopfaomkklpaaGreatp15
import Derived.Test.YtafopfaomkklpaaGreatp16
import Derived.Test.YtafopfaomkklpaaGreatp17
set_option linter.unusedVariables false
namespace Go.Proofs.YtafopfaomkklpaaGreat
open Go.Proofs.Tryz
open Go.Eng
abbrev TVb:TypeId:=91
abbrev TRPc:TypeId:=241
def cntV (v:aU):Int:=if v.Kind=1 then v.N else if v.Kind=2 then v.Wl else 1
theorem vq (w:World) (v:aU):Does 132 [v.val] w λx w'=>x=.int .i64 (cntV v)∧New w w':=by
 refine does Tryz.func132 ?_
 rw [rm]
 rintro b1 w1 hb1 hw1
 obtain ⟨hz,hn⟩:=aR hb1 hw1
 have hz:Blk w1 b1 v.cells TVb:=hz
 clear hw1
 unfold cntV
 refine ⟨_,hz.cell (i:=0) rfl,bB (λh=>⟨_,hz.cell (i:=3) rfl,by rw [if_pos h],hn⟩) (λh=>bB (λh2=>⟨_,_,_,hz.cell (i:=6) rfl,by rw [if_neg h,if_pos h2],hn⟩) (λh2=>⟨by rw [if_neg h,if_neg h2],hn⟩))⟩
def VOk (v:aU) (nodes lines:Int):Prop:=
 (1≤v.Kind∧v.Kind≤4)∧(v.Kind=1→1≤v.N)∧(v.Kind=2→1≤(v.Wl:Int))∧(1≤nodes∧nodes≤5)∧(1≤lines∧lines≤256)∧(0≤v.Node∧v.Node<nodes)∧(0≤v.At∧v.At<lines * 8)∧cntV v≤1024∧
 (v.At+cntV v - 1) / 8<lines∧(v.At+cntV v - 1) / 8 - v.At / 8+1≤128∧(v.Kind≠1→v.At / 8<3→(v.At+cntV v - 1) / 8<3)∧(v.Kind=1→v.At / 8≤3→(v.At+cntV v - 1) / 8≤3)
def VR (w:World) (v:aU) (nodes lines:Int) (x:Value) (w':World):Prop:=∃ e:Int,x=.int .i64 e∧(e=0↔VOk v nodes lines)∧New w w'
set_option maxHeartbeats 8000000 in
theorem xS (w:World) (v:aU) (nodes lines:Int):Does 90 [v.val,.int .i64 nodes,.int .i64 lines] w (VR w v nodes lines):=by
 refine does Tryz.func90 ?_
 refine (r9 _ _ _ _ _).mpr ((sc _ _ _ _ _ _).mpr ?_)
 rintro b1 w1 hb1 hw1
 obtain ⟨hz,hn⟩:=aR hb1 hw1
 have hz:Blk w1 b1 v.cells TVb:=hz
 clear hw1
 have hc1:v.Kind=1→cntV v=v.N:=λh=>by unfold cntV;rw [if_pos h]
 have hc2:v.Kind=2→cntV v=v.Wl:=λh=>by unfold cntV;rw [if_neg (by omega),if_pos h]
 have hc3:v.Kind≠1→v.Kind≠2→cntV v=1:=λh1 h2=>by unfold cntV;rw [if_neg h1,if_neg h2]
 have hct:=vq w1 v
 have no:∀ (e:Int) (w':World),(VOk v nodes lines→False)→e≠0→New w w'→VR w v nodes lines (.int .i64 e) w':=λe w' h he hn=>⟨e,rfl,⟨λh'=>absurd h' he,λh'=>(h h').elim⟩,hn⟩
 have yes:∀ (w':World),VOk v nodes lines→New w w'→VR w v nodes lines (.int .i64 0) w':=λw' h hn=>⟨0,rfl,⟨λ_=>h,λ_=>rfl⟩,hn⟩
 refine (rj _ _ _).mpr ((rk _ _ _).mpr ((sd _ _ _).mpr ((se _ _ _ _ _ _ _).mpr ?_)))
 refine ⟨_,hz.cell rfl,aD (λk1=>(iO _ _ _ _ _ _ _).mpr (cM rfl ((er _ _ _ _ _ _ _).mpr (cM rfl (cH (P:=prog) (fn:=f90) (R:=VR w v nodes lines) (λ_ _=>rfl) ((cK _ _ _ _ _ _ _ _).mpr (cM rfl (no 1 _ (by unfold VOk;omega) (by omega) hn)))))))) (λk1=>⟨_,hz.cell rfl,(iO _ _ _ _ _ _ _).mpr (aD (λk2=>(er _ _ _ _ _ _ _).mpr (cM rfl (cH (P:=prog) (fn:=f90) (R:=VR w v nodes lines) (λ_ _=>rfl) ((cK _ _ _ _ _ _ _ _).mpr (cM rfl (no 1 _ (by unfold VOk;omega) (by omega) hn)))))) (λk2=>⟨_,hz.cell rfl,bB (λk3=>⟨_,hz.cell rfl,(er _ _ _ _ _ _ _).mpr (aD (λk4=>cH (P:=prog) (fn:=f90) (R:=VR w v nodes lines) (λ_ _=>rfl) ((cK _ _ _ _ _ _ _ _).mpr (cM rfl (no 1 _ (by unfold VOk;omega) (by omega) hn)))) (λk4=>⟨_,hz.cell rfl,bB (λk5=>absurd k5 (by omega)) (λk5=>cH (P:=prog) (fn:=f90) (R:=VR w v nodes lines) (λ_ _=>rfl) ((cK _ _ _ _ _ _ _ _).mpr (eE rfl ?m1)))⟩))⟩) (λk3=>(er _ _ _ _ _ _ _).mpr (eE rfl ⟨_,hz.cell rfl,bB (λk5=>⟨_,_,_,hz.cell rfl,cH (P:=prog) (fn:=f90) (R:=VR w v nodes lines) (λ_ _=>rfl) ((cK _ _ _ _ _ _ _ _).mpr (aD (λk6=>no 1 _ (by unfold VOk;omega) (by omega) hn) (λk6=>?m2)))⟩) (λk5=>cH (P:=prog) (fn:=f90) (R:=VR w v nodes lines) (λ_ _=>rfl) ((cK _ _ _ _ _ _ _ _).mpr (eE rfl ?m3)))⟩))⟩))⟩)⟩
 all_goals
  refine bF (cH (P:=prog) (fn:=f90) (R:=VR w v nodes lines) (λ_ _=>rfl) ((og _ _ _ _ _ _ _).mpr (aU.mk_ex v ⟨aH hz rfl,?_⟩)))
  refine aC hct ?_
  rintro x w2 ⟨rfl,hn2⟩
  have hz2:=New.blk hn2 hz
  have hn02:=hn.new hn2
  refine ⟨_,rfl,?_⟩
  refine (l0 _ _ _).mpr ((lA _ _ _).mpr (cH (P:=prog) (fn:=f90) (R:=VR w v nodes lines) (λ_ _=>rfl) ((oh _ _ _ _ _ _ _ _).mpr (aD (λg5=>(iP _ _ _ _ _ _ _ _ _).mpr (cM rfl ((fQ _ _ _ _ _ _ _ _ _).mpr (cM rfl ((et _ _ _ _ _ _ _ _ _).mpr (cM rfl ((dH _ _ _ _ _ _ _ _ _).mpr (cM rfl ((cD _ _ _ _ _ _ _ _).mpr (cM rfl ((bT _ _ _ _ _ _ _ _).mpr (cM rfl ((bO _ _ _ _ _ _ _ _).mpr (cM rfl (bF (cH (P:=prog) (fn:=f90) (R:=VR w v nodes lines) (λ_ _=>rfl) ((bG _ _ _ _ _ _ _ _).mpr (cM rfl (no 2 _ (by unfold VOk;omega) (by omega) hn02))))))))))))))))))) (λg5=>(iP _ _ _ _ _ _ _ _ _).mpr (aD (λg6=>(fQ _ _ _ _ _ _ _ _ _).mpr (cM rfl ((et _ _ _ _ _ _ _ _ _).mpr (cM rfl ((dH _ _ _ _ _ _ _ _ _).mpr (cM rfl ((cD _ _ _ _ _ _ _ _).mpr (cM rfl ((bT _ _ _ _ _ _ _ _).mpr (cM rfl ((bO _ _ _ _ _ _ _ _).mpr (cM rfl (bF (cH (P:=prog) (fn:=f90) (R:=VR w v nodes lines) (λ_ _=>rfl) ((bG _ _ _ _ _ _ _ _).mpr (cM rfl (no 2 _ (by unfold VOk;omega) (by omega) hn02))))))))))))))))) (λg6=>(fQ _ _ _ _ _ _ _ _ _).mpr (aD (λg7=>(et _ _ _ _ _ _ _ _ _).mpr (cM rfl ((dH _ _ _ _ _ _ _ _ _).mpr (cM rfl ((cD _ _ _ _ _ _ _ _).mpr (cM rfl ((bT _ _ _ _ _ _ _ _).mpr (cM rfl ((bO _ _ _ _ _ _ _ _).mpr (cM rfl (bF (cH (P:=prog) (fn:=f90) (R:=VR w v nodes lines) (λ_ _=>rfl) ((bG _ _ _ _ _ _ _ _).mpr (cM rfl (no 2 _ (by unfold VOk;omega) (by omega) hn02))))))))))))))) (λg7=>(et _ _ _ _ _ _ _ _ _).mpr (aD (λg8=>(dH _ _ _ _ _ _ _ _ _).mpr (cM rfl ((cD _ _ _ _ _ _ _ _).mpr (cM rfl ((bT _ _ _ _ _ _ _ _).mpr (cM rfl ((bO _ _ _ _ _ _ _ _).mpr (cM rfl (bF (cH (P:=prog) (fn:=f90) (R:=VR w v nodes lines) (λ_ _=>rfl) ((bG _ _ _ _ _ _ _ _).mpr (cM rfl (no 2 _ (by unfold VOk;omega) (by omega) hn02))))))))))))) (λg8=>⟨_,hz2.cell rfl,(dH _ _ _ _ _ _ _ _ _).mpr (aD (λg9=>(cD _ _ _ _ _ _ _ _).mpr (cM rfl ((bT _ _ _ _ _ _ _ _).mpr (cM rfl ((bO _ _ _ _ _ _ _ _).mpr (cM rfl (bF (cH (P:=prog) (fn:=f90) (R:=VR w v nodes lines) (λ_ _=>rfl) ((bG _ _ _ _ _ _ _ _).mpr (cM rfl (no 2 _ (by unfold VOk;omega) (by omega) hn02))))))))))) (λg9=>⟨_,hz2.cell rfl,(cD _ _ _ _ _ _ _ _).mpr (aD (λg10=>(bT _ _ _ _ _ _ _ _).mpr (cM rfl ((bO _ _ _ _ _ _ _ _).mpr (cM rfl (bF (cH (P:=prog) (fn:=f90) (R:=VR w v nodes lines) (λ_ _=>rfl) ((bG _ _ _ _ _ _ _ _).mpr (cM rfl (no 2 _ (by unfold VOk;omega) (by omega) hn02))))))))) (λg10=>⟨_,hz2.cell rfl,(bT _ _ _ _ _ _ _ _).mpr (aD (λg11=>(bO _ _ _ _ _ _ _ _).mpr (cM rfl (bF (cH (P:=prog) (fn:=f90) (R:=VR w v nodes lines) (λ_ _=>rfl) ((bG _ _ _ _ _ _ _ _).mpr (cM rfl (no 2 _ (by unfold VOk;omega) (by omega) hn02))))))) (λg11=>⟨_,hz2.cell rfl,(bO _ _ _ _ _ _ _ _).mpr (aD (λg12=>bF (cH (P:=prog) (fn:=f90) (R:=VR w v nodes lines) (λ_ _=>rfl) ((bG _ _ _ _ _ _ _ _).mpr (cM rfl (no 2 _ (by have e8:=w64 (x:=lines * 8) (by omega) (by omega);unfold VOk;omega) (by omega) hn02))))) (λg12=>bF (cH (P:=prog) (fn:=f90) (R:=VR w v nodes lines) (λ_ _=>rfl) ((bG _ _ _ _ _ _ _ _).mpr (aD (λg13=>no 2 _ (by unfold VOk;omega) (by omega) hn02) (λg13=>?_))))))⟩))⟩))⟩))⟩)))))))))))
  have e8:=w64 (x:=lines * 8) (by omega) (by omega)
  refine bF (cH (P:=prog) (fn:=f90) (R:=VR w v nodes lines) (λ_ _=>rfl) ((nD _ _ _ _ _ _ _).mpr (?_)))
  rintro w3 hw3
  have hn3:New w2 w3:=by rw [hw3];exact aT _
  clear hw3
  have hz3:=New.blk hn3 hz2
  have hn03:=hn02.new hn3
  refine ⟨λy=>New w3 y,Keep.refl _ _,_,λy hy=>(New.blk hy hz3).cell rfl,_,λy hy=>(New.blk hy hz3).cell rfl,?_⟩
  rw [w64 (x:=v.At+cntV v) (by omega) (by omega),w64 (x:=v.At+cntV v - 1) (by omega) (by omega),Int.tdiv_eq_ediv_of_nonneg (show 0≤v.At+cntV v - 1 by omega),w64 (x:=(v.At+cntV v - 1) / 8) (by omega) (by omega),Int.tdiv_eq_ediv_of_nonneg (show 0≤v.At by omega),w64 (x:=v.At / 8) (by omega) (by omega)]
  have e9:=w64 (x:=(v.At+cntV v - 1) / 8 - v.At / 8) (by omega) (by omega)
  have e10:IntKind.i64.wrap (IntKind.i64.wrap ((v.At+cntV v - 1) / 8 - v.At / 8)+1)=(v.At+cntV v - 1) / 8 - v.At / 8+1:=by rw [e9,w64 (by omega) (by omega)]
  exact (lB _ _ _).mpr ((kQ _ _ _).mpr (cH (P:=prog) (fn:=f90) (R:=VR w v nodes lines) (λ_ _=>rfl) ((nE _ _ _ _ _ _ _ _).mpr (aD (λt0=>bF (cH (P:=prog) (fn:=f90) (R:=VR w v nodes lines) (λ_ _=>rfl) ((iC _ _ _ _ _ _ _ _).mpr (cM rfl (no 2 _ (by unfold VOk;omega) (by omega) hn03))))) (λt0=>bF (cH (P:=prog) (fn:=f90) (R:=VR w v nodes lines) (λ_ _=>rfl) ((iC _ _ _ _ _ _ _ _).mpr (aD (λu0=>no 2 _ (by unfold VOk;omega) (by omega) hn03) (λu0=>bF ((lC _ _ _).mpr ((kR _ _ _).mpr (cH (P:=prog) (fn:=f90) (R:=VR w v nodes lines) (λ_ _=>rfl) ((nF _ _ _ _ _ _ _).mpr (⟨_,hz3.cell rfl,bQ (λz0=>(iD _ _ _ _ _ _ _ _).mpr (aD (λy0=>(fD _ _ _ _ _ _ _ _).mpr (aD (λx0=>bF (cH (P:=prog) (fn:=f90) (R:=VR w v nodes lines) (λ_ _=>rfl) ((bD _ _ _ _ _).mpr (cM rfl (no 2 _ (by unfold VOk;omega) (by omega) hn03))))) (λx0=>⟨_,hz3.cell rfl,bB (λx1=>aD (λx2=>bF (cH (P:=prog) (fn:=f90) (R:=VR w v nodes lines) (λ_ _=>rfl) ((bD _ _ _ _ _).mpr (aD (λx=>no 2 _ (by unfold VOk;omega) (by omega) hn03) (λx=>bF (cH (P:=prog) (fn:=f90) (R:=VR w v nodes lines) (λ_ _=>rfl) ((bH _ _ _ _).mpr (yes _ (by unfold VOk;omega) hn03)))))))) (λx2=>bF (cH (P:=prog) (fn:=f90) (R:=VR w v nodes lines) (λ_ _=>rfl) ((bD _ _ _ _ _).mpr (eE rfl (bF (cH (P:=prog) (fn:=f90) (R:=VR w v nodes lines) (λ_ _=>rfl) ((bH _ _ _ _).mpr (yes _ (by unfold VOk;omega) hn03))))))))) (λx1=>bF (cH (P:=prog) (fn:=f90) (R:=VR w v nodes lines) (λ_ _=>rfl) ((bD _ _ _ _ _).mpr (eE rfl (bF (cH (P:=prog) (fn:=f90) (R:=VR w v nodes lines) (λ_ _=>rfl) ((bH _ _ _ _).mpr (yes _ (by unfold VOk;omega) hn03))))))))⟩))) (λy0=>(fD _ _ _ _ _ _ _ _).mpr (eE rfl ⟨_,hz3.cell rfl,bB (λx1=>aD (λx2=>bF (cH (P:=prog) (fn:=f90) (R:=VR w v nodes lines) (λ_ _=>rfl) ((bD _ _ _ _ _).mpr (aD (λx=>no 2 _ (by unfold VOk;omega) (by omega) hn03) (λx=>bF (cH (P:=prog) (fn:=f90) (R:=VR w v nodes lines) (λ_ _=>rfl) ((bH _ _ _ _).mpr (yes _ (by unfold VOk;omega) hn03)))))))) (λx2=>bF (cH (P:=prog) (fn:=f90) (R:=VR w v nodes lines) (λ_ _=>rfl) ((bD _ _ _ _ _).mpr (eE rfl (bF (cH (P:=prog) (fn:=f90) (R:=VR w v nodes lines) (λ_ _=>rfl) ((bH _ _ _ _).mpr (yes _ (by unfold VOk;omega) hn03))))))))) (λx1=>bF (cH (P:=prog) (fn:=f90) (R:=VR w v nodes lines) (λ_ _=>rfl) ((bD _ _ _ _ _).mpr (eE rfl (bF (cH (P:=prog) (fn:=f90) (R:=VR w v nodes lines) (λ_ _=>rfl) ((bH _ _ _ _).mpr (yes _ (by unfold VOk;omega) hn03))))))))⟩)))) (λz0=>(iD _ _ _ _ _ _ _ _).mpr (eE rfl ((fD _ _ _ _ _ _ _ _).mpr (eE rfl ⟨_,hz3.cell rfl,bB (λx1=>aD (λx2=>bF (cH (P:=prog) (fn:=f90) (R:=VR w v nodes lines) (λ_ _=>rfl) ((bD _ _ _ _ _).mpr (aD (λx=>no 2 _ (by unfold VOk;omega) (by omega) hn03) (λx=>bF (cH (P:=prog) (fn:=f90) (R:=VR w v nodes lines) (λ_ _=>rfl) ((bH _ _ _ _).mpr (yes _ (by unfold VOk;omega) hn03)))))))) (λx2=>bF (cH (P:=prog) (fn:=f90) (R:=VR w v nodes lines) (λ_ _=>rfl) ((bD _ _ _ _ _).mpr (eE rfl (bF (cH (P:=prog) (fn:=f90) (R:=VR w v nodes lines) (λ_ _=>rfl) ((bH _ _ _ _).mpr (yes _ (by unfold VOk;omega) hn03))))))))) (λx1=>bF (cH (P:=prog) (fn:=f90) (R:=VR w v nodes lines) (λ_ _=>rfl) ((bD _ _ _ _ _).mpr (eE rfl (bF (cH (P:=prog) (fn:=f90) (R:=VR w v nodes lines) (λ_ _=>rfl) ((bH _ _ _ _).mpr (yes _ (by unfold VOk;omega) hn03))))))))⟩))))⟩))))))))))))))
end Go.Proofs.YtafopfaomkklpaaGreat
namespace Go.Proofs.YtafopfaomkklpaaGreat
open Go.Eng
theorem tU (w:World) (v:aU):Does 170 [v.val] w λx w'=>(∃ b,x=.bool b)∧New w w':=by
 refine does Tryz.func170 ?_
 rw [p7]
 rintro b1 w1 hb1 hw1
 obtain ⟨hz,hn⟩:=aR hb1 hw1
 have hz:Blk w1 b1 v.cells TVb:=hz
 clear hw1
 rintro w2 hw2
 have hn2:New w1 w2:=by rw [hw2];exact aT _
 clear hw2
 have hz2:=New.blk hn2 hz
 refine ⟨λy=>New w2 y,Keep.refl _ _,_,λy hy=>(New.blk hy hz2).cell (i:=2) rfl,aU.mk_ex v ⟨λy hy=>aH (New.blk hy hz2) rfl,?_⟩⟩
 refine aC (vq w2 v) ?_
 rintro x w3 ⟨rfl,hn3⟩
 have hn03:=(hn.new hn2).new hn3
 exact ⟨_,rfl,hn3,aD (λ_=>⟨⟨_,rfl⟩,hn03⟩) (λ_=>⟨_,(New.blk hn3 hz2).cell (i:=0) rfl,bB (λ_=>⟨⟨_,rfl⟩,hn03⟩) (λ_=>⟨⟨_,rfl⟩,hn03⟩)⟩)⟩
theorem DN (w:World) (v:aU) (inc door key boot:Int):Does 133 [v.val,.int .i64 inc,.int .u64 door,.int .u64 key,.int .u64 boot] w λx w'=>(∃ e:Int,x=.int .i64 e)∧New w w':=by
 refine does Tryz.func133 ?_
 rw [rn]
 rintro b1 w1 hb1 hw1
 obtain ⟨hz,hn⟩:=aR hb1 hw1
 have hz:Blk w1 b1 v.cells TVb:=hz
 clear hw1
 refine ⟨_,hz.cell (i:=0) rfl,bB (λ_=>?_) (λ_=>?_)⟩
 ·refine aU.mk_ex v ⟨aH hz rfl,?_⟩
  refine aC (tU w1 v) ?_
  rintro x w2 ⟨⟨b,rfl⟩,hn2⟩
  have hz2:=New.blk hn2 hz
  have hn02:=hn.new hn2
  refine ⟨_,rfl,lm (λ_=>⟨⟨_,rfl⟩,hn02⟩) (λ_=>aD (λ_=>⟨⟨_,rfl⟩,hn02⟩) (λ_=>aD (λ_=>⟨⟨_,rfl⟩,hn02⟩) (λ_=>?_)))⟩
  refine aU.mk_ex v ⟨aH hz2 rfl,?_⟩
  refine aC (tU w2 v) ?_
  rintro x w3 ⟨⟨b,rfl⟩,hn3⟩
  have hz3:=New.blk hn3 hz2
  have hn03:=hn02.new hn3
  exact ⟨_,rfl,lm (λ_=>⟨⟨_,rfl⟩,hn03⟩) (λ_=>⟨_,hz3.cell (i:=8) rfl,aD (λ_=>⟨⟨_,rfl⟩,hn03⟩) (λ_=>⟨_,hz3.cell (i:=8) rfl,bQ (λ_=>⟨⟨_,rfl⟩,hn03⟩) (λ_=>⟨_,hz3.cell (i:=7) rfl,bQ (λ_=>⟨⟨_,rfl⟩,hn03⟩) (λ_=>⟨⟨_,rfl⟩,hn03⟩)⟩)⟩)⟩)⟩
 ·refine aD (λ_=>⟨⟨_,rfl⟩,hn⟩) (λ_=>aD (λ_=>⟨⟨_,rfl⟩,hn⟩) (λ_=>?_))
  refine aU.mk_ex v ⟨aH hz rfl,?_⟩
  refine aC (tU w1 v) ?_
  rintro x w3 ⟨⟨b,rfl⟩,hn3⟩
  have hz3:=New.blk hn3 hz
  have hn03:=hn.new hn3
  exact ⟨_,rfl,lm (λ_=>⟨⟨_,rfl⟩,hn03⟩) (λ_=>⟨_,hz3.cell (i:=8) rfl,aD (λ_=>⟨⟨_,rfl⟩,hn03⟩) (λ_=>⟨_,hz3.cell (i:=8) rfl,bQ (λ_=>⟨⟨_,rfl⟩,hn03⟩) (λ_=>⟨_,hz3.cell (i:=7) rfl,bQ (λ_=>⟨⟨_,rfl⟩,hn03⟩) (λ_=>⟨⟨_,rfl⟩,hn03⟩)⟩)⟩)⟩)⟩
theorem at_w {w:World} {fb:Nat} {F:Fa} {N:List bS} {Cl:List CliR} {P:Nat→List bJ} (h:cY w fb F N Cl P) {r:bS} (hr:r ∈ N) {ad:Addr} (had:NdAt fb F N Cl P r ad) (i:Int):Does 134 [.pointer (some ad),.int .i64 i] w λx w'=>(∃ y:Int,x=.int .u64 y)∧w'=w:=by
 refine does Tryz.func134 ?_
 rw [tp]
 obtain ⟨b,q1,q2,q3,q4⟩:=h.nok r hr
 refine aD (λ_=>⟨⟨_,rfl⟩,rfl⟩) (λh0=>⟨_,_,_,had w h,aD (λ_=>⟨⟨_,rfl⟩,rfl⟩) (λh1=>⟨_,_,_,had w h,?_⟩)⟩)
 have hlt:i.toNat<F.lines * 8:=by omega
 obtain ⟨y,hy,_⟩:=q4.get hlt
 rw [q1,q2]
 exact bI (by omega) (by omega) ⟨y,by rw [show 0+i.toNat * 1=i.toNat by omega];exact hy,⟨_,rfl⟩,rfl⟩
def sf:Nat→Int→Int→List (Int×Int)
 | 0,_,_=>[]
 |f+1,a,l=>if l≤0 then [] else (a,min l (8 - a % 8))::sf f (a+min l (8 - a % 8)) (l - min l (8 - a % 8))
def pcs (a l:Int):List (Int×Int):=sf l.toNat a l
theorem uG:∀ (f g:Nat) (a l:Int),l.toNat≤f→l.toNat≤g→sf f a l=sf g a l
 | 0,0,_,_,_,_=>rfl
 | 0,g+1,a,l,h,_=>by
  unfold sf
  rw [if_pos (by omega)]
 |f+1,0,a,l,_,h=>by
  unfold sf
  rw [if_pos (by omega)]
 |f+1,g+1,a,l,h1,h2=>by
  unfold sf
  by_cases e:l≤0
  ·rw [if_pos e,if_pos e]
  ·rw [if_neg e,if_neg e,uG f g _ _ (by omega) (by omega)]
theorem DO {a l:Int} (h:l≤0):pcs a l=[]:=by
 unfold pcs
 have e:l.toNat=0:=by omega
 rw [e]
 rfl
theorem yR {a l:Int} (h:0<l):pcs a l=(a,min l (8 - a % 8))::pcs (a+min l (8 - a % 8)) (l - min l (8 - a % 8)):=by
 unfold pcs
 obtain ⟨n,hn⟩:∃ n,l.toNat=n+1:=⟨l.toNat - 1,by omega⟩
 rw [hn,sf,if_neg (by omega),uG n _ _ _ (by omega) (Nat.le_refl _)]
theorem yS:∀ (f:Nat) (a l:Int),0≤a→∀ x ∈ sf f a l,(1≤x.2∧x.2≤8)∧a≤x.1∧x.1+x.2≤a+l
 | 0,_,_,_,x,hx=>by simp [sf] at hx
 |f+1,a,l,ha,x,hx=>by
  unfold sf at hx
  by_cases e:l≤0
  ·rw [if_pos e] at hx;simp at hx
  ·rw [if_neg e] at hx
   rcases List.mem_cons.1 hx with rfl | hx
   ·dsimp only;omega
   ·have:=yS f _ _ (by omega) x hx
    omega
theorem EE {a l:Int} (ha:0≤a) {x:Int×Int} (hx:x ∈ pcs a l):(1≤x.2∧x.2≤8)∧a≤x.1∧x.1+x.2≤a+l:=yS _ _ _ ha x hx
theorem wF:∀ (f:Nat) (a l:Int),(sf f a l).length≤f
 | 0,_,_=>by simp [sf]
 |f+1,a,l=>by
  unfold sf
  split
  ·simp
  ·rw [List.length_cons];have:=wF f (a+min l (8 - a % 8)) (l - min l (8 - a % 8));omega
theorem DP (a l:Int):(pcs a l).length≤l.toNat:=wF _ _ _
theorem DQ {a l:Int} (h:0<l):0<(pcs a l).length:=by
 rw [yR h]
 simp
def pcR (x:Int×Int):aS:=⟨x.1,x.2⟩
def npV (v:aU):List (Int×Int):=pcs v.At (cntV v)
set_option maxHeartbeats 1000000 in
theorem AE (w:World) {v:aU} (h0:0≤v.At∧v.At≤100000) (h1:cntV v≤100000):Does 135 [v.val] w λx w'=>∃ a c,x=.slice a (npV v).length c∧Owns w' TRPc 2 a (npV v).length c (((npV v).map pcR).map aS.cells).flatten∧New w w':=by
 refine does Tryz.func135 ?_
 rw [qO]
 rintro b1 w1 hb1 hw1
 obtain ⟨hz,hn⟩:=aR hb1 hw1
 have hz:Blk w1 b1 v.cells TVb:=hz
 clear hw1
 rintro w2 hw2
 have hn2:New w1 w2:=by rw [hw2];exact aT _
 clear hw2
 have hz2:=New.blk hn2 hz
 refine ⟨λy=>New w2 y,Keep.refl _ _,_,λy hy=>(New.blk hy hz2).cell (i:=2) rfl,aU.mk_ex v ⟨λy hy=>aH (New.blk hy hz2) rfl,?_⟩⟩
 refine aC (vq w2 v) ?_
 rintro x w3 ⟨rfl,hn3⟩
 have hn03:=(hn.new hn2).new hn3
 refine ⟨_,rfl,hn3,?_⟩
 obtain ⟨inf,hi,hzr,hsz,hby⟩:=nV (T:=TRPc) (z:=.agg #[.int .i64 0,.int .i64 0]) (n:=2) (m:=16) (by kernel_rfl)
 unfold npV
 generalize cntV v=cnt at h1 ⊢
 refine aW mix (λm env u=>∃ (a:Option Addr) (c:Nat) (l:List (Int×Int)) (at_ lf:Int) (jj:List Value),m=lf.toNat∧env=eP a l.length c at_ lf jj∧New w u∧Owns u TRPc 2 a l.length c ((l.map pcR).map aS.cells).flatten∧(∀ k,isB a k→w.heap.size≤k)∧pcs v.At cnt=l++pcs at_ lf∧0≤at_∧(0≤lf→at_+lf=v.At+cnt)∧(lf<0→lf=cnt)∧(l.length:Int)≤at_ - v.At∧at_≤300000) cnt.toNat
  ⟨none,0,[],v.At,cnt,_,rfl,rfl,hn03,Owns.nil _ _ _,(λk hk=>absurd hk noB),rfl,h0.1,(λ_=>rfl),(λ_=>rfl),by simp,by omega⟩ ?_
 rintro m env u ⟨a,c,l,at_,lf,jj,rfl,rfl,hnu,hown,hfr,hp,ha0,hsum,hneg,hll,ha3⟩
 rw [lF]
 refine aD (λhq=>?_) (λhq=>?_)
 ·have hm:Int.tmod at_ 8=at_ % 8:=Int.tmod_eq_emod_of_nonneg ha0
  have hs:=hsum (by omega)
  have e8:IntKind.i64.wrap (8 - Int.tmod at_ 8)=8 - at_ % 8:=by rw [hm,w64 (by omega) (by omega)]
  have emin:(if IntKind.i64.wrap (8 - Int.tmod at_ 8)<lf then IntKind.i64.wrap (8 - Int.tmod at_ 8) else lf)=min lf (8 - at_ % 8):=by
   rw [e8]
   split<;>omega
  rw [emin]
  have hc:=yR (a:=at_) (l:=lf) (by omega)
  generalize hk:min lf (8 - at_ % 8)=k at hc ⊢
  rintro b2 u1 hb2 hu1
  obtain ⟨hz1,hn1⟩:=aR hb2 hu1
  have hz1:Blk u1 b2 (aS.cells ⟨at_,k⟩) TRPc:=hz1
  clear hu1
  have s0:=hnu.size
  have s1:=hn1.size
  refine lR (cells:=aS.cells) aS.len aS.single Tryz.underlying237 hi hzr (by rw [hsz];rfl) hsz (by omega) (by omega) (Owns.new hn1 hown) (s:=some ⟨b2,0,none⟩) (m:=1) (c:=1) (l2:=[⟨at_,k⟩]) (fM hz1 (by simp)) rfl (by omega) λap cap' u2 ho2 hk2 hap=>?_
  rw [w64 (x:=at_+k) (by omega) (by omega),w64 (x:=lf - k) (by omega) (by omega)]
  have hl1:(l++[(at_,k)]).length=l.length+1:=by simp
  refine ⟨(lf - k).toNat,by omega,ap,cap',l++[(at_,k)],at_+k,lf - k,_,rfl,by rw [hl1],(hnu.new hn1).trans hk2 λq hlt e=>by have:=hfr q e;omega,?_,λq hq=>?_,?_,by omega,λ_=>by omega,λh=>by omega,by rw [hl1];omega,by omega⟩
  ·rw [hl1,List.map_append]
   exact ho2
  ·rcases hap q hq with e | e
   ·exact hfr q e
   ·omega
  ·rw [hp,hc,List.append_assoc]
   rfl
 ·rw [nI]
  have hnil:pcs at_ lf=[]:=DO (by omega)
  rw [hnil,List.append_nil] at hp
  rw [hp]
  exact ⟨a,c,rfl,hown,hnu⟩
end Go.Proofs.YtafopfaomkklpaaGreat
namespace Go.Proofs.YtafopfaomkklpaaGreat
open Go.Eng
theorem jd {w w':World} {M:Nat→Prop} {a:Option Addr} {xs:List Value} (hk:Keep M w w') (h:Rd w a xs) (ho:∀ k,k<w.heap.size→isB a k→¬ M k):Rd w' a xs:=by
 by_cases hx:xs=[]
 ·rw [hx];exact Rd.nil _ _
 ·refine h.keep hk (.inr ?_)
  have h':=h
  rcases h with e | ⟨b,o,rfl,_⟩
  ·exact absurd e hx
  ·have hlt:=Rd.lt (a:=⟨b,o,none⟩) h' hx
   exact ho b hlt ⟨o,rfl⟩
structure VbAt (w:World) (Av:Nat→Prop) (v:aU):Prop where
 words:∃ vs:List Int,Rd w v.Words (us vs)∧v.Wl=vs.length∧∀ x ∈ vs,U64 x
 off:∀ k,isB v.Words k→¬ Av k
 lt:∀ k,isB v.Words k→k<w.heap.size
 new:U64 v.New
theorem VbAt.keep {w w':World} {Av M:Nat→Prop} {v:aU} (h:VbAt w Av v) (hk:Keep M w w') (hM:∀ k,k<w.heap.size→M k→Av k):VbAt w' Av v:=by
 obtain ⟨vs,h1,h2,h3⟩:=h.words
 exact ⟨⟨vs,jd hk h1 λk hlt hb hm=>h.off k hb (hM k hlt hm),h2,h3⟩,h.off,λk hb=>Nat.lt_of_lt_of_le (h.lt k hb) hk.size,h.new⟩
theorem VbAt.next {w w':World} {Av:Nat→Prop} {v:aU} (h:VbAt w Av v) (hn:New w w'):VbAt w' Av v:=h.keep hn λ_ _ e=>e.elim
theorem VbAt.to {w:World} {Av Av':Nat→Prop} {v:aU} (h:VbAt w Av v) (ha:∀ k,k<w.heap.size→Av' k→Av k):VbAt w Av' v:=⟨h.words,λk hb hA=>h.off k hb (ha k (h.lt k hb) hA),h.lt,h.new⟩
def WBk (N:List bS) (k:Nat):Prop:=∃ r ∈ N,isB r.Words k
theorem Cj {w:World} {L:Nat} {r:bS} (h:pi w L r):∃ ws:List Int,Rd w r.Words (us ws)∧ws.length=L * 8∧∀ x ∈ ws,U64 x:=by
 obtain ⟨b,q1,q2,q3,ws,h1,h2,h3⟩:=h
 exact ⟨ws,by rw [q1];exact fM h1 (by rw [List.drop_zero];exact List.take_of_length_le (Nat.le_refl _)),h2,h3⟩
def ExR (N:List bS) (w:World) (x:Value) (w':World):Prop:=∃ a n c l,x=.slice a n c∧WL w w' a n c l∧l.length≤8∧Wr N w w'
set_option maxHeartbeats 4000000 in
theorem AF {w:World} {fb:Nat} {F:Fa} {N:List bS} {Cl:List CliR} {P:Nat→List bJ} (h:cY w fb F N Cl P) {r:bS} (hr:r ∈ N) {ad:Addr} (had:NdAt fb F N Cl P r ad) {v:aU} (hv:VbAt w (WBk N) v) {p:aS} (hp1:1≤p.N∧p.N≤8) (hp0:0≤v.At∧v.At≤p.At) (hpl:p.At+p.N≤F.lines * 8) (hpw:v.Kind=2→p.At+p.N≤v.At+v.Wl) :
  Does 136 [.pointer (some ad),v.val,p.val] w (ExR N w):=by
 refine does Tryz.func136 ?_
 rw [p6]
 have hln:=h.ln
 rintro b1 w1 hb1 hw1
 obtain ⟨hz1,hn1⟩:=aR hb1 hw1
 have hz1:Blk w1 b1 v.cells TVb:=hz1
 clear hw1
 rintro b2 w2 hb2 hw2
 obtain ⟨hz2,hn2⟩:=aR hb2 hw2
 have hz2:Blk w2 b2 p.cells TRPc:=hz2
 clear hw2
 rintro w3 hw3
 have hn3:New w2 w3:=by rw [hw3];exact aT _
 clear hw3
 have hz3:=New.blk hn3 hz2
 have hx3:=New.blk (hn2.new hn3) hz1
 have hn03:=hn1.new (hn2.new hn3)
 have h3:=h.new hn03
 obtain ⟨ws,hws,hwl,hwU⟩:=Cj (h3.nok r hr)
 obtain ⟨b,q1,q2,q3,q4⟩:=h3.nok r hr
 obtain ⟨i,hi⟩:=Int.eq_ofNat_of_zero_le (show 0≤p.At by omega)
 obtain ⟨n,hn⟩:=Int.eq_ofNat_of_zero_le (show 0≤p.N by omega)
 refine ⟨λy=>New w3 y,Keep.refl _ _,_,_,_,λy hy=>had y (h3.new hy),_,λy hy=>(New.blk hy hz3).cell (i:=0) rfl,_,λy hy=>(New.blk hy hz3).cell (i:=0) rfl,_,λy hy=>(New.blk hy hz3).cell (i:=1) rfl,?_⟩
 rw [w64 (x:=p.At+p.N) (by omega) (by omega)]
 refine rU (cells:=As) (sz:=1) (λ_=>rfl) (l:=ws) (by rw [qZ];exact hws) (n:=r.Words_l) (cap:=r.Words_c) (by omega) (by omega) (i:=i) (k:=i+n) hi (by omega) (by omega) (by omega) λxa hxr hxl=>?_
 rw [qZ] at hxr
 have hkn:i+n - i=n:=by omega
 rw [hkn] at hxl ⊢
 generalize hcp:(ws.take (i+n)).drop i=cp at hxr hxl
 have hcU:∀ x ∈ cp,U64 x:=λx hx=>by
  rw [←hcp] at hx
  exact hwU x (List.mem_of_mem_take (List.mem_of_mem_drop hx))
 refine wv hxr hxl.symm (by omega) λap cap' w4 ho4 hn4 hap=>⟨hn4,?_⟩
 have hn04:=hn03.new hn4
 have hx4:=New.blk hn4 hx3
 have hz4:=New.blk hn4 hz3
 have h4:=h3.new hn4
 have s03:=hn03.size
 have res:∀ {w':World},Wr N w4 w'→ExR N w (.slice ap n cap') w':=λ{w'} hw=>by
  refine ⟨ap,n,cap',cp,rfl,⟨Owns.keep hw.keep ho4 λk hk e=>?_,hxl.symm,hcU,λk hk=>by have:=hap k hk;omega⟩,by omega,(Wr.of_new hn04).trans hw⟩
  have:=(wC h3.nok e).lt
  have:=hap k hk
  omega
 have hcp0:cp[0]?=some (cp.getD 0 0):=by rw [List.getD_eq_getElem?_getD,List.getElem?_eq_getElem (by omega)];rfl
 refine ⟨_,hx4.cell (i:=0) rfl,bB (λ_=>res (Wr.refl _ _)) (λ_=>bB (λhk2=>?g2) (λ_=>bB (λ_=>?g3) (λ_=>bB (λ_=>?g4) (λ_=>res (Wr.refl _ _)))))⟩
 case g2=>
  have hv4:=hv.next hn04
  refine aW mix (λm env u=>∃ (j:Nat) (jj:List Value),m=n - j∧j≤n∧env=ez ad ⟨b1,0,none⟩ ⟨b2,0,none⟩ j jj∧Wr N w4 u∧cY u fb F N Cl P) n
   ⟨0,_,by omega,by omega,rfl,Wr.refl _ _,h4⟩ ?_
  rintro m env u ⟨j,jj,rfl,hj,rfl,hw,hf⟩
  rw [kS]
  have hxu:=hw.tr h4.nok (by decide) _ _ hx4
  have hzu:=hw.tr h4.nok (by decide) _ _ hz4
  have hvu:=hv4.keep hw.keep λk _ e=>e
  refine ⟨_,hzu.cell (i:=1) rfl,aD (λhq=>?_) (λhq=>?_)⟩
  ·rintro u1 hu1
   have hn1':New u u1:=by rw [hu1];exact aT _
   clear hu1
   have hf1:=hf.new hn1'
   have hx1:=New.blk hn1' hxu
   have hz1':=New.blk hn1' hzu
   obtain ⟨vs,hvr,hvl,hvU⟩:=(hvu.next hn1').words
   have hw2':=hpw hk2
   refine ⟨λy=>New u1 y,Keep.refl _ _,_,_,_,λy hy=>had y (hf1.new hy),_,λy hy=>(New.blk hy hz1').cell (i:=0) rfl,_,_,_,λy hy=>(New.blk hy hx1).cell (i:=6) rfl,_,λy hy=>(New.blk hy hz1').cell (i:=0) rfl,_,λy hy=>(New.blk hy hx1).cell (i:=2) rfl,?_⟩
   rw [w64 (x:=p.At - v.At) (by omega) (by omega),w64 (x:=p.At - v.At+(j:Int)) (by omega) (by omega),w64 (x:=p.At+(j:Int)) (by omega) (by omega),w64 (x:=(j:Int)+1) (by omega) (by omega)]
   have hg:vs[(p.At - v.At+(j:Int)).toNat]?=some (vs[(p.At - v.At+(j:Int)).toNat]'(by omega)):=List.getElem?_eq_getElem (by omega)
   have hgU:=hvU _ (List.getElem_mem (by omega:(p.At - v.At+(j:Int)).toNat<vs.length))
   refine rd_w hvr hg (by omega) hvl λb' o' hc=>⟨_,hc,lZ hf1 hr hgU (by omega) (by omega) λad' w' hw'=>?_⟩
   exact ⟨n - (j+1),by omega,j+1,_,rfl,by omega,rfl,(hw.new hn1').trans hw',hf1.wr hw'⟩
  ·rw [mQ]
   exact ⟨none,0,0,[],rfl,⟨Owns.nil _ _ _,rfl,by simp,λk hk=>absurd hk noB⟩,by simp,(Wr.of_new hn04).trans hw⟩
 case g3=>
  rintro w5 hw5
  have hn5:New w4 w5:=by rw [hw5];exact aT _
  clear hw5
  refine ⟨λy=>New w5 y,Keep.refl _ _,rd_w (Rd.new hn5 ho4.rd) hcp0 rfl hxl.symm λb' o' hc=>⟨_,hc,_,λy hy=>(New.blk (hn5.new hy) hx4).cell (i:=4) rfl,bB (λ_=>?_) (λ_=>res (Wr.of_new hn5))⟩⟩
  rintro w6 hw6
  have hn6:New w5 w6:=by rw [hw6];exact aT _
  clear hw6
  have hn46:=hn5.new hn6
  have h6:=h4.new hn46
  refine ⟨λy=>New w6 y,Keep.refl _ _,_,_,_,λy hy=>had y (h6.new hy),_,λy hy=>(New.blk (hn46.new hy) hz4).cell (i:=0) rfl,_,λy hy=>(New.blk (hn46.new hy) hx4).cell (i:=5) rfl,lZ h6 hr hv.new (by omega) (by omega) λad' w' hw'=>res ((Wr.of_new hn46).trans hw')⟩
 case g4=>
  rintro w5 hw5
  have hn5:New w4 w5:=by rw [hw5];exact aT _
  clear hw5
  have h5:=h4.new hn5
  refine ⟨λy=>New w5 y,Keep.refl _ _,_,_,_,λy hy=>had y (h5.new hy),_,λy hy=>(New.blk (hn5.new hy) hz4).cell (i:=0) rfl,rd_w (Rd.new hn5 ho4.rd) hcp0 rfl hxl.symm λb' o' hc=>⟨_,hc,_,λy hy=>(New.blk (hn5.new hy) hx4).cell (i:=5) rfl,lZ h5 hr (lr _) (by omega) (by omega) λad' w' hw'=>res ((Wr.of_new hn5).trans hw')⟩⟩
end Go.Proofs.YtafopfaomkklpaaGreat
