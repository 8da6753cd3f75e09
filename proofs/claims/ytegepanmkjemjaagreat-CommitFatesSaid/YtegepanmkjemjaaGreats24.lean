import Derived.Test.YtegepanmkjemjaaGreatProg
import Derived.Test.YtegepanmkjemjaaGreats03
import Derived.Test.YtegepanmkjemjaaGreats02
set_option linter.unusedVariables false
namespace Go.Proofs.YtegepanmkjemjaaGreat
open Go.Proofs.Tryz
open Go.Eng IntKind
variable (w:World) (R:Value→World→Prop)
def iY (s3:Option Addr) (a b:Nat) (c:Option Addr) (d f:Nat) (g h:Int) (j:LV):LV:=[jg j 0,jg j 1,jg j 2,(.slice s3 a b),jg j 3,jg j 4,jg j 5,jg j 6,jg j 7,jg j 8,(.slice c d f),(.int .i64 g),(.int .i64 h),jg j 9,jg j 10,jg j 11,jg j 12,jg j 13,jg j 14,jg j 15,jg j 16,jg j 17,jg j 18,jg j 19,jg j 20,jg j 21,jg j 22,jg j 23,jg j 24]
def nJ (s3:Option Addr) (a b:Nat) (j:LV):LV:=jq j 0 3 (.slice s3 a b::jq j 3 25 [])
def iZ (s3:Option Addr) (a b:Nat) (s5:Int) (c:Option Addr) (d f:Nat) (g h i:Int) (j:LV):LV:=jq j 0 3 (.slice s3 a b::jq j 3 1 (.int .u64 s5::jq j 4 4 (.slice c d f::.int .i64 g::.int .i64 h::jq j 8 3 (.int .i64 i::jq j 11 12 []))))
def nK (s3:Option Addr) (a b:Nat) (c:Option Addr) (d f:Nat) (g h:Int) (j:LV):LV:=jq j 0 3 (.slice s3 a b::jq j 3 6 (.slice c d f::.int .i64 g::.int .i64 h::jq j 9 16 []))
theorem tV (p0:Option Addr) (a b:Nat):fnW prog f200 [.slice p0 a b] R w=(mk3 0 (i64.wrap (8 * (a:Nat))) 1 (.cells (reps (Int.toNat (i64.wrap (8 * (a:Nat)))) [.int .u8 0]).toArray 5) w λb1 w1=>cN prog (.loop (sub (aC f200) [1,1,0,1,0,0])) (iY (some ⟨b1,0,none⟩) (Int.toNat 0) (Int.toNat (i64.wrap (8 * (a:Nat)))) p0 a b (a:Nat) 0 (js p0 a b::undef::ju 0::uq 2 (js p0 a b::jn a::ji (i64.wrap (8 * (a:Nat)))::js (some ⟨b1,0,none⟩) (Int.toNat 0) (Int.toNat (i64.wrap (8 * (a:Nat))))::uq 16 []))) (aJ 0 (nx f200 [1,1,1] R)) w1):=by kernel_rfl
theorem nq (s3:Option Addr) (a b:Nat) (c:Option Addr) (d f:Nat) (g h:Int) (j:LV) (N1:LV→World→Prop):W prog (sub (aC f200) [1,1,0,1,0,0]) (iY s3 a b c d f g h j) (seqQ N1 (aJ 0 (nx f200 [1,1,1] R))) w=((bif (decide ((h:Int)<g)) then (idxS c d h 1 λad=>∃ x,w.cell? ad=some (.int .u64 x)∧cN prog (.loop (sub (aC f200) [1,1,0,1,0,0,1,1,0,0,1,1,0,0])) (iZ s3 a b x c d f g h 0 (jq j 0 4 (jq j 5 4 (jb (decide ((h:Int)<g))::jp ad::ju x::jq j 13 12 [])))) (aJ 2 (aJ 1 (seqQ (λenv w=>W prog (sub (aC f200) [1,1,0,1,0,0,1,1,1]) env (seqQ N1 (aJ 0 (nx f200 [1,1,1] R))) w) (seqQ N1 (aJ 0 (nx f200 [1,1,1] R)))))) w) else (W prog (sub (aC f200) [1,1,1]) (nJ s3 a b (jq j 0 9 (js c d f::ji g::ji h::jb (decide ((h:Int)<g))::jq j 10 15 []))) (retQ prog f200 R) w))):=by kernel_rfl
theorem pL (s3:Option Addr) (a b:Nat) (j:LV):W prog (sub (aC f200) [1,1,1]) (nJ s3 a b j) (retQ prog f200 R) w=(Calls prog 207 #[.slice s3 a b] w λe w1=>∃ c,e=.returned (.int .u64 c)∧R (.int .u64 c) w1):=by kernel_rfl
theorem nr (s3:Option Addr) (a b:Nat) (s5:Int) (c:Option Addr) (d f:Nat) (g h i:Int) (j:LV) (N1:LV→World→Prop) (N2:LV→World→Prop):W prog (sub (aC f200) [1,1,0,1,0,0,1,1,0,0,1,1,0,0]) (iZ s3 a b s5 c d f g h i j) (seqQ N2 (aJ 2 (aJ 1 (seqQ (λenv w=>W prog (sub (aC f200) [1,1,0,1,0,0,1,1,1]) env (seqQ N1 (aJ 0 (nx f200 [1,1,1] R))) w) (seqQ N1 (aJ 0 (nx f200 [1,1,1] R))))))) w=((bif (decide ((i:Int)<8)) then (∀ b1 w1,b1=w.heap.size→w1=w.alloc (.cells #[.int .u8 (IntKind.u8.wrap s5)] 5)→∃ ap k l,∃ w2,(Builtin.append_ #[290,290] 290 #[.slice s3 a b,.slice (some ⟨b1,0,none⟩) 1 1]).run prog w1=.ok (.slice ap k l) w2∧N2 (iZ ap k l (bshr .u64 s5 8) c d f g h (i64.wrap (i+1)) (jq j 0 11 [jb (decide ((i:Int)<8)),js s3 a b,ju s5,.int .u8 (IntKind.u8.wrap s5),js (some ⟨b1,0,none⟩) 1 1,js ap k l,ju s5,ju (bshr .u64 s5 8),ji (i64.wrap (i+1)),jg j 20,jg j 21,jg j 22])) w2) else (W prog (sub (aC f200) [1,1,0,1,0,0,1,1,1]) (nK s3 a b c d f g h (jq j 0 4 (ju s5::jq j 4 7 (ji i::jb (decide ((i:Int)<8))::jq j 12 11 [])))) (seqQ N1 (aJ 0 (nx f200 [1,1,1] R))) w))):=by kernel_rfl
theorem pM (s3:Option Addr) (a b:Nat) (c:Option Addr) (d f:Nat) (g h:Int) (j:LV) (N1:LV→World→Prop):W prog (sub (aC f200) [1,1,0,1,0,0,1,1,1]) (nK s3 a b c d f g h j) (seqQ N1 (aJ 0 (nx f200 [1,1,1] R))) w=(N1 (iY s3 a b c d f g (i64.wrap (h+1)) (jq j 0 22 [ji (i64.wrap (h+1)),jg j 23,jg j 24])) w):=by kernel_rfl
theorem tX (p0:Option Addr) (a b:Nat):fnW prog f207 [.slice p0 a b] R w=(Calls prog 208 #[.int .u64 0,.slice p0 a b] w λe w1=>∃ c,e=.returned (.int .u64 c)∧R (.int .u64 c) w1):=by kernel_rfl
theorem sR (p0:Int) (p1:Option Addr) (a b:Nat):fnW prog f208 [.int .u64 p0,.slice p1 a b] R w=(Calls prog 209 #[] w λe w1=>bZ.ex λd=>e=.returned d.val∧∀ b1 w2,b1=w1.heap.size→w2=w1.alloc (.cells (List.replicate 256 (.int .u64 0)).toArray 302)→wrAt w2 ⟨b1,0,none⟩ 0 d.cells∧∀ w3,w3=puts w2 ⟨b1,0,none⟩ 0 d.cells→Calls prog 210 #[.int .u64 (bxor .u64 18446744073709551615 p0),.pointer (some ⟨b1,0,none⟩),.slice p1 a b] w3 λe w4=>∃ c,e=.returned (.int .u64 c)∧R (.int .u64 (bxor .u64 18446744073709551615 c)) w4):=by kernel_rfl
def i0 (s0:Addr) (s3:Int) (j:LV):LV:=.pointer (some s0)::jq j 0 2 (.int .i64 s3::jq j 2 20 [])
def nL (a:Addr) (j:LV):LV:=.pointer (some a)::jq j 0 23 []
def fY (s0:Addr) (s1 s2 s3 s8:Int) (j:LV):LV:=.pointer (some s0)::.int .i64 s1::.int .u64 s2::.int .i64 s3::jq j 0 4 (.int .i64 s8::jq j 4 15 [])
def nM (a:Addr) (s1 s2 s3:Int) (j:LV):LV:=.pointer (some a)::.int .i64 s1::.int .u64 s2::.int .i64 s3::jq j 0 20 []
theorem tY  : fnW prog f209 [] R w=(∀ b1 w1,b1=w.heap.size→w1=w.alloc (.cells (List.replicate 256 (.int .u64 0)).toArray 302)→cN prog (.loop (sub (aC f209) [1,0,1,0,0])) (i0 ⟨b1,0,none⟩ 0 (uq 22 [])) (aJ 0 (nx f209 [1,1] R)) w1):=by kernel_rfl
theorem nt (s0:Addr) (s3:Int) (j:LV) (N1:LV→World→Prop):W prog (sub (aC f209) [1,0,1,0,0]) (i0 s0 s3 j) (seqQ N1 (aJ 0 (nx f209 [1,1] R))) w=((bif (decide ((s3:Int)<256)) then (cN prog (.loop (sub (aC f209) [1,0,1,0,0,1,1,0,0,1,1,0,1,0,0])) (fY s0 s3 (u64.wrap s3) s3 0 (jb (decide ((s3:Int)<256))::ji s3::ji s3::ju (u64.wrap s3)::jq j 7 15 [])) (aJ 2 (seqQ (λenv w=>W prog (sub (aC f209) [1,0,1,0,0,1,1,0,0,1,1,1]) env (aJ 1 (seqQ (λenv w=>W prog (sub (aC f209) [1,0,1,0,0,1,1,1]) env (seqQ N1 (aJ 0 (nx f209 [1,1] R))) w) (seqQ N1 (aJ 0 (nx f209 [1,1] R))))) w) (aJ 1 (seqQ (λenv w=>W prog (sub (aC f209) [1,0,1,0,0,1,1,1]) env (seqQ N1 (aJ 0 (nx f209 [1,1] R))) w) (seqQ N1 (aJ 0 (nx f209 [1,1] R))))))) w) else (W prog (sub (aC f209) [1,1]) (nL s0 (jg j 0::jg j 1::ji s3::jb (decide ((s3:Int)<256))::jq j 3 19 [])) (retQ prog f209 R) w))):=by kernel_rfl
theorem pN (a:Addr) (j:LV):W prog (sub (aC f209) [1,1]) (nL a j) (retQ prog f209 R) w=(bZ.ex λr=>aD w a 0 r.cells∧wrAt w a 0 r.cells∧∀ w1,w1=puts w a 0 r.cells→bZ.ex λb=>aD w1 a 0 b.cells∧w1=w1∧R b.val w1):=by kernel_rfl
theorem nv (s0:Addr) (s1 s2 s3 s8:Int) (j:LV) (N1:LV→World→Prop) (N2:LV→World→Prop):W prog (sub (aC f209) [1,0,1,0,0,1,1,0,0,1,1,0,1,0,0]) (fY s0 s1 s2 s3 s8 j) (seqQ N2 (aJ 2 (seqQ (λenv w=>W prog (sub (aC f209) [1,0,1,0,0,1,1,0,0,1,1,1]) env (aJ 1 (seqQ (λenv w=>W prog (sub (aC f209) [1,0,1,0,0,1,1,1]) env (seqQ N1 (aJ 0 (nx f209 [1,1] R))) w) (seqQ N1 (aJ 0 (nx f209 [1,1] R))))) w) (aJ 1 (seqQ (λenv w=>W prog (sub (aC f209) [1,0,1,0,0,1,1,1]) env (seqQ N1 (aJ 0 (nx f209 [1,1] R))) w) (seqQ N1 (aJ 0 (nx f209 [1,1] R)))))))) w=((bif (decide ((s8:Int)<8)) then ((bif (((band .u64 s2 1):Int) == 1) then (N2 (fY s0 s1 (bxor .u64 (bshr .u64 s2 1) 14514072000185962306) s3 (i64.wrap (s8+1)) (jq j 0 4 (jb (decide ((s8:Int)<8))::ju s2::ju (band .u64 s2 1)::jb (((band .u64 s2 1):Int) == 1)::ju s2::ju (bshr .u64 s2 1)::ju (bxor .u64 (bshr .u64 s2 1) 14514072000185962306)::jg j 11::jg j 12::ji (i64.wrap (s8+1))::jq j 14 5 []))) w) else (N2 (fY s0 s1 (bshr .u64 s2 1) s3 (i64.wrap (s8+1)) (jq j 0 4 (jb (decide ((s8:Int)<8))::ju s2::ju (band .u64 s2 1)::jb (((band .u64 s2 1):Int) == 1)::jg j 8::jg j 9::jg j 10::ju s2::ju (bshr .u64 s2 1)::ji (i64.wrap (s8+1))::jq j 14 5 []))) w))) else (W prog (sub (aC f209) [1,0,1,0,0,1,1,0,0,1,1,1]) (nM s0 s1 s2 s3 (jq j 0 4 (ji s8::jb (decide ((s8:Int)<8))::jq j 5 14 []))) (aJ 1 (seqQ (λenv w=>W prog (sub (aC f209) [1,0,1,0,0,1,1,1]) env (seqQ N1 (aJ 0 (nx f209 [1,1] R))) w) (seqQ N1 (aJ 0 (nx f209 [1,1] R))))) w))):=by kernel_rfl
theorem pO (a:Addr) (s1 s2 s3:Int) (j:LV) (N1:LV→World→Prop):W prog (sub (aC f209) [1,0,1,0,0,1,1,0,0,1,1,1]) (nM a s1 s2 s3 j) (aJ 1 (seqQ (λenv w=>W prog (sub (aC f209) [1,0,1,0,0,1,1,1]) env (seqQ N1 (aJ 0 (nx f209 [1,1] R))) w) (seqQ N1 (aJ 0 (nx f209 [1,1] R))))) w=(idxA a 256 s1 1 λad=>(∃ u,w.cell? ad=some u)∧w.frozen? ad=false∧∀ w1,w1=w.setCell ad (.int .u64 s2)→N1 (i0 a (i64.wrap (s3+1)) (ji s1::ju s2::jq j 0 15 [ji s1,ju s2,jp ad,ji (i64.wrap (s3+1)),jg j 19])) w1):=by kernel_rfl
def kD (s0:Int) (s1:Addr) (s9:Option Addr) (a b:Nat) (c d:Int) (j:LV):LV:=.int .u64 s0::.pointer (some s1)::jq j 0 7 (.slice s9 a b::.int .i64 c::.int .i64 d::jq j 7 16 [])
def p7 (s0:Int) (j:LV):LV:=.int .u64 s0::jq j 0 27 []
theorem wS (p0:Int) (p1:Nat) (p2:Option Addr) (a b:Nat):fnW prog f210 [.int .u64 p0,.pointer (some ⟨p1,0,none⟩),.slice p2 a b] R w=(cN prog (.loop (sub (aC f210) [1,0,1,0,0])) (kD p0 ⟨p1,0,none⟩ p2 a b (a:Nat) 0 (js p2 a b::uq 3 (ju 0::uq 18 []))) (aJ 0 (nx f210 [1,1] R)) w):=by kernel_rfl
theorem pi (s0:Int) (s1:Addr) (s9:Option Addr) (a b:Nat) (c d:Int) (j:LV) (N1:LV→World→Prop):W prog (sub (aC f210) [1,0,1,0,0]) (kD s0 s1 s9 a b c d j) (seqQ N1 (aJ 0 (nx f210 [1,1] R))) w=((bif (decide ((d:Int)<c)) then (idxS s9 a d 1 λad=>∃ x,w.cell? ad=some (.int .u8 x)∧idxA s1 256 (bxor .u8 (IntKind.u8.wrap s0) x) 1 λf=>∃ x1,w.cell? f=some (.int .u64 x1)∧N1 (kD (bxor .u64 (bshr .u64 s0 8) x1) s1 s9 a b c (i64.wrap (d+1)) (jq j 0 6 [.int .u8 x,jb (decide ((d:Int)<c)),jp ad,.int .u8 x,ju s0,ju (bshr .u64 s0 8),jp s1,ju s0,.int .u8 (IntKind.u8.wrap s0),.int .u8 x,.int .u8 (bxor .u8 (IntKind.u8.wrap s0) x),jp s1,jp f,ju x1,ju (bxor .u64 (bshr .u64 s0 8) x1),ji (i64.wrap (d+1)),jg j 22])) w) else (W prog (sub (aC f210) [1,1]) (p7 s0 (jp s1::jq j 0 7 (js s9 a b::ji c::ji d::jb (decide ((d:Int)<c))::jq j 8 15 []))) (retQ prog f210 R) w))):=by kernel_rfl
theorem rg (s0:Int) (j:LV):W prog (sub (aC f210) [1,1]) (p7 s0 j) (retQ prog f210 R) w=(R (.int .u64 s0) w):=by kernel_rfl
end Go.Proofs.YtegepanmkjemjaaGreat
namespace Go.Proofs.YtegepanmkjemjaaGreat
open Go.Eng
def Bz (r:Int):Int:=if band .u64 r 1=1 then bxor .u64 (bshr .u64 r 1) 14514072000185962306 else bshr .u64 r 1
def tZ:Nat→Int→Int
 | 0,r=>r
 |n+1,r=>Bz (tZ n r)
def vQ (i:Nat):Int:=tZ 8 i
def dY:List Int:=(List.range 256).map vQ
def tabL (i:Nat):List Int:=(List.range i).map vQ++List.replicate (256 - i) 0
theorem Ab {i:Nat} (h:i≤256):(tabL i).length=256:=by simp [tabL];omega
theorem Ac {i:Nat} (h:i<256):(tabL i).set i (vQ i)=tabL (i+1):=by
 unfold tabL
 rw [List.range_succ,List.map_append,List.set_append]
 simp only [List.length_map,List.length_range,Nat.lt_irrefl,if_false,Nat.sub_self]
 obtain ⟨m,hm⟩:∃ m,256 - i=m+1:=⟨255 - i,by omega⟩
 have e:256 - (i+1)=m:=by omega
 rw [hm,e,List.replicate_succ,List.set_cons_zero]
 simp
theorem Ad:tabL 256=dY:=by simp [tabL,dY]
theorem BA (n:Nat):us (List.replicate n 0)=List.replicate n (.int .u64 0):=by simp [us]
theorem BB (l:List Int) (i:Nat) (x:Int):(us l).set i (.int .u64 x)=us (l.set i x):=by simp [us]
theorem t0 (l:List Int):bZ.cells ⟨l⟩=us l:=rfl
abbrev TTb:TypeId:=302
set_option maxRecDepth 20000 in
theorem wT (w:World):Does 209 [] w λv w'=>v=bZ.val ⟨dY⟩∧New w w':=by
 refine does Tryz.func209 ?_
 rw [tY]
 rintro b1 w1 hb1 hw1
 obtain ⟨hz1,hn1⟩:=aM hb1 hw1
 have hz1:Blk w1 b1 (us (tabL 0)) TTb:=by
  have e:us (tabL 0)=List.replicate 256 (.int .u64 0):=BA 256
  rw [e]
  exact hz1
 clear hw1
 refine aS mix (λm env u=>∃ (i:Nat) (jj:List Value),m=256 - i∧i≤256∧env=i0 ⟨b1,0,none⟩ i jj∧New w u∧Blk u b1 (us (tabL i)) TTb) 256 ⟨0,_,rfl,by omega,rfl,hn1,hz1⟩ ?_
 rintro m env u ⟨i,jj,rfl,hi,rfl,hnu,hzu⟩
 rw [nt]
 refine aH (λhlt=>?_) (λhge=>?_)
 ·rw [wu64 (x:=(i:Int)) (by omega) (by omega)]
  refine aS mix (λm2 env2 y=>∃ (k:Nat) (jj:List Value),m2=8 - k∧k≤8∧env2=fY ⟨b1,0,none⟩ i (tZ k i) i k jj∧y=u) 8 ⟨0,_,rfl,by omega,rfl,rfl⟩ ?_
  rintro m2 env2 y ⟨k,jj2,rfl,hk,rfl,rfl⟩
  rw [nv,w64 (x:=(k:Int)+1) (by omega) (by omega)]
  refine aH (λhk8=>?_) (λhk8=>?_)
  ·refine bL (λh1=>?_) (λh1=>?_)
   ·have e:tZ (k+1) i=bxor .u64 (bshr .u64 (tZ k i) 1) 14514072000185962306:=if_pos h1
    rw [←e]
    exact ⟨8 - (k+1),by omega,k+1,_,rfl,by omega,rfl,rfl⟩
   ·have e:tZ (k+1) i=bshr .u64 (tZ k i) 1:=if_neg h1
    rw [←e]
    exact ⟨8 - (k+1),by omega,k+1,_,rfl,by omega,rfl,rfl⟩
  ·have hk8:k=8:=by omega
   subst hk8
   rw [pO,w64 (x:=(i:Int)+1) (by omega) (by omega)]
   refine jY (by omega) (by omega) ?_
   have e2:0+(i:Int).toNat * 1=i:=by omega
   rw [e2]
   refine mg hzu (o:=i) (by rw [kx,Ab hi];omega) λw2 hz2 hk2=>?_
   rw [BB,show tZ 8 (i:Int)=vQ i from rfl,Ac (by omega)] at hz2
   have hs:=hn1.size
   exact ⟨256 - (i+1),by omega,i+1,_,rfl,by omega,rfl,hnu.trans hk2 λk hlt e=>by omega,hz2⟩
 ·have hi2:i=256:=by omega
  subst hi2
  rw [pN]
  rw [Ad] at hzu
  have hl:dY.length=256:=by simp [dY]
  refine bZ.mk_ex ⟨dY⟩ hl ⟨aI hzu (by rw [t0];exact List.take_of_length_le (Nat.le_refl _)),?_⟩
  refine fK (vs:=us dY) hzu rfl (jZ _) λw2 hz2 hk2=>?_
  exact bZ.mk_ex ⟨dY⟩ hl ⟨aI hz2 (by rw [t0];exact List.take_of_length_le (Nat.le_refl _)),rfl,rfl,hnu.trans hk2 λk hlt e=>by have:=hn1.size;omega⟩
def nN (r x:Int):Int:=bxor .u64 (bshr .u64 r 8) (dY.getD (bxor .u8 (IntKind.u8.wrap r) x).toNat 0)
theorem Db (x:Int):0≤IntKind.u8.wrap x∧IntKind.u8.wrap x<256:=by
 simp only [IntKind.wrap,IntKind.bits,IntKind.signed]
 simp
 omega
def bys (l:List Int):List Value:=l.map (Value.int .u8)
theorem BC {l:List Int} {i:Nat} {x:Int} (h:l[i]?=some x):(bys l)[i]?=some (.int .u8 x):=by simp [bys,h]
theorem wU {f:Int→Int→Int} {l:List Int} {i:Nat} {x r:Int} (h:l[i]?=some x):(l.take (i+1)).foldl f r=f ((l.take i).foldl f r) x:=by
 rw [List.take_add_one,h,List.foldl_append]
 rfl
theorem Ae {w:World} (r:Int) {tb:Nat} (ht:Blk w tb (us dY) TTb) {a:Option Addr} {n c:Nat} {l:List Int} (hr:Rd w a (bys l)) (hn:n=l.length) (hf:n≤1000000) :
  Does 210 [.int .u64 r,.pointer (some ⟨tb,0,none⟩),.slice a n c] w λv w'=>v=.int .u64 (l.foldl nN r)∧w'=w:=by
 subst hn
 refine does Tryz.func210 ?_
 rw [wS]
 refine aS mix (λm env u=>∃ (i:Nat) (jj:List Value),m=l.length - i∧i≤l.length∧env=kD ((l.take i).foldl nN r) ⟨tb,0,none⟩ a l.length c l.length i jj∧u=w) l.length ⟨0,_,rfl,by omega,rfl,rfl⟩ ?_
 rintro m env u ⟨i,jj,rfl,hi,rfl,rfl⟩
 rw [pi]
 refine aH (λhlt=>?_) (λhge=>?_)
 ·obtain ⟨x,hx⟩:∃ x,l[i]?=some x:=⟨_,List.getElem?_eq_getElem (by omega)⟩
  rcases hr with he | ⟨b,o,rfl,hc⟩
  ·have h0:l.length=0:=by
    have:=congrArg List.length he
    rwa [bys,List.length_map] at this
   omega
  refine bD (by omega) (by omega) ⟨x,by simpa using hc i _ (BC hx),?_⟩
  have hin:0≤bxor .u8 (IntKind.u8.wrap ((l.take i).foldl nN r)) x∧bxor .u8 (IntKind.u8.wrap ((l.take i).foldl nN r)) x<256:=Db _
  have hl:dY.length=256:=by simp [dY]
  refine jY hin.1 hin.2 ?_
  generalize hq:bxor .u8 (IntKind.u8.wrap ((l.take i).foldl nN r)) x=q at hin ⊢
  obtain ⟨y,hy⟩:∃ y,dY[q.toNat]?=some y:=⟨_,List.getElem?_eq_getElem (by omega)⟩
  refine ⟨y,by rw [Nat.mul_one];exact Blk.cell ht (by simpa using tf hy),?_⟩
  rw [w64 (x:=(i:Int)+1) (by omega) (by omega)]
  have e:(l.take (i+1)).foldl nN r=bxor .u64 (bshr .u64 ((l.take i).foldl nN r) 8) y:=by
   rw [wU hx]
   generalize (l.take i).foldl nN r=z at hq
   show bxor .u64 (bshr .u64 z 8) (dY.getD (bxor .u8 (IntKind.u8.wrap z) x).toNat 0)=_
   rw [hq,List.getD_eq_getElem?_getD,hy]
   rfl
  rw [←e]
  exact ⟨l.length - (i+1),by omega,i+1,_,rfl,by omega,rfl,rfl⟩
 ·have hil:i=l.length:=by omega
  subst hil
  rw [rg,List.take_length]
  exact ⟨rfl,rfl⟩
def vR (r:Int) (l:List Int):Int:=bxor .u64 18446744073709551615 (l.foldl nN (bxor .u64 18446744073709551615 r))
theorem vg {w:World} (r:Int) {a:Option Addr} {n c:Nat} {l:List Int} (hr:Rd w a (bys l)) (hn:n=l.length) (hf:n≤1000000) :
  Does 208 [.int .u64 r,.slice a n c] w λv w'=>v=.int .u64 (vR r l)∧New w w':=by
 refine does Tryz.func208 ?_
 rw [sR]
 refine aE (wT w) ?_
 rintro v w1 ⟨rfl,hn1⟩
 have hl:dY.length=256:=by simp [dY]
 refine bZ.mk_ex ⟨dY⟩ hl ⟨rfl,?_⟩
 refine iI (zs:=List.replicate 256 (.int .u64 0)) (vs:=us dY) (by rw [kx,List.length_replicate];exact hl) (jZ _) λb w3 hb hz hn3=>?_
 refine aE (Ae _ hz (hr.new (hn1.new hn3)) hn hf) ?_
 rintro v w4 ⟨rfl,rfl⟩
 exact ⟨_,rfl,rfl,hn1.new hn3⟩
theorem wV {w:World} {a:Option Addr} {n c:Nat} {l:List Int} (hr:Rd w a (bys l)) (hn:n=l.length) (hf:n≤1000000) :
  Does 207 [.slice a n c] w λv w'=>v=.int .u64 (vR 0 l)∧New w w':=by
 refine does Tryz.func207 ?_
 rw [tX]
 refine aE (vg 0 hr hn hf) ?_
 rintro v w1 ⟨rfl,hn1⟩
 exact ⟨_,rfl,rfl,hn1⟩
def shr8:Nat→Int→Int
 | 0,x=>x
 |k+1,x=>bshr .u64 (shr8 k x) 8
def wby (x:Int):List Int:=(List.range 8).map λk=>IntKind.u8.wrap (shr8 k x)
theorem BD (x:Int):(wby x).length=8:=by unfold wby;rw [List.length_map,List.length_range]
def t5 (ws:List Int):List Int:=(ws.map wby).flatten
def crcW (ws:List Int):Int:=vR 0 (t5 ws)
theorem yA (ws:List Int):(t5 ws).length=8 * ws.length:=by
 induction ws with
 |nil=>rfl
 |cons x ws ih=>
  have:t5 (x::ws)=wby x++t5 ws:=rfl
  rw [this,List.length_append,ih]
  simp [wby]
  omega
theorem Af (ws:List Int):U64 (crcW ws):=by
 unfold crcW vR U64
 generalize (List.foldl nN _ _)=z
 simp only [bxor,IntKind.wrap,IntKind.bits,IntKind.signed]
 simp
 omega
abbrev TBy:TypeId:=5
def tkB (ws:List Int) (i k:Nat):List Int:=t5 (ws.take i)++((wby (ws.getD i 0)).take k)
theorem wW {w:World} {a:Option Addr} {n c:Nat} {ws:List Int} (hr:Rd w a (us ws)) (hn:n=ws.length) (hf:n≤10000) :
  Does 200 [.slice a n c] w λv w'=>v=.int .u64 (crcW ws)∧New w w':=by
 subst hn
 refine does Tryz.func200 ?_
 rw [tV,w64 (x:=8 * (ws.length:Int)) (by omega) (by omega)]
 refine ⟨by omega,by omega,by omega,by omega,?_⟩
 rintro b1 w1 hb1 hw1
 obtain ⟨hz1,hn1⟩:=aM hb1 hw1
 clear hw1
 obtain ⟨inf,hinf,hzz,hsz,hby⟩:=jm (T:=TBy) (z:=.int .u8 0) (n:=1) (m:=1) (by kernel_rfl)
 have e8:Int.toNat (8 * (ws.length:Int))=8 * ws.length:=by omega
 have hown:Owns w1 TBy 1 (some ⟨b1,0,none⟩) 0 (8 * ws.length) (bys []):=by
  refine ⟨rfl,.inr ⟨b1,_,rfl,hz1,by omega,by unfold maxLen;omega,?_,by simp [bys]⟩⟩
  rw [e8]
  simp [reps]
 refine aS mix (λm env u=>∃ (i:Nat) (pa:Option Addr) (pc:Nat) (jj:List Value),m=ws.length - i∧i≤ws.length∧env=iY pa (8 * i) pc a ws.length c ws.length i jj∧New w u∧Owns u TBy 1 pa (8 * i) pc (bys (t5 (ws.take i)))∧∀ k,isB pa k→w.heap.size≤k) ws.length
  ⟨0,some ⟨b1,0,none⟩,8 * ws.length,_,rfl,by omega,by rw [e8];rfl,hn1,hown,λk hk=>?_⟩ ?_
 ·obtain ⟨o,ho⟩:=hk
  simp at ho
  omega
 rintro m env u ⟨i,pa,pc,jj,rfl,hi,rfl,hnu,ho,hpf⟩
 rw [nq]
 refine aH (λhlt=>?_) (λhge=>?_)
 ·obtain ⟨x,hx⟩:∃ x,ws[i]?=some x:=⟨_,List.getElem?_eq_getElem (by omega)⟩
  have hxd:ws.getD i 0=x:=by rw [List.getD_eq_getElem?_getD,hx];rfl
  have hru:=hr.new hnu
  rcases hru with he | ⟨b,o,rfl,hc⟩
  ·have h0:ws.length=0:=by
    have:=congrArg List.length he
    rwa [us,List.length_map] at this
   omega
  refine bD (by omega) (by omega) ⟨x,by simpa using hc i _ (tf hx),?_⟩
  refine aS mix (λm2 env2 y=>∃ (k:Nat) (pa:Option Addr) (pc:Nat) (jj:List Value),m2=8 - k∧k≤8∧env2=iZ pa (8 * i+k) pc (shr8 k x) (some ⟨b,o,none⟩) ws.length c ws.length i k jj∧New w y∧Owns y TBy 1 pa (8 * i+k) pc (bys (tkB ws i k))∧∀ k,isB pa k→w.heap.size≤k) 8
   ⟨0,pa,pc,_,rfl,by omega,rfl,hnu,by simpa [tkB] using ho,hpf⟩ ?_
  rintro m2 env2 y ⟨k,qa,qc,jj2,rfl,hk,rfl,hny,hoy,hqf⟩
  rw [nr]
  refine aH (λhk8=>?_) (λhk8=>?_)
  ·have hoy':Owns y TBy inf.size qa (8 * i+k) qc (bys (tkB ws i k)):=by rw [hsz];exact hoy
   refine push_k (vs:=[.int .u8 (IntKind.u8.wrap (shr8 k x))]) Tryz.underlying290 hinf hzz (by rw [hsz];rfl) (by omega) hoy' (by rw [hsz];rfl) (by intro v hv;simp at hv;subst hv;rfl) (by omega) (by omega) ?_
   intro b3 ap cap' w3 hb3 h1 hk3 hap
   rw [hsz] at h1
   rw [w64 (x:=(k:Int)+1) (by omega) (by omega)]
   refine ⟨8 - (k+1),by omega,k+1,ap,cap',_,rfl,by omega,rfl,j0 hny hk3 hqf,?_,?_⟩
   ·have e:bys (tkB ws i k)++[Value.int .u8 (IntKind.u8.wrap (shr8 k x))]=bys (tkB ws i (k+1)):=by
     unfold tkB
     rw [hxd,List.take_add_one,show (wby x)[k]?=some (IntKind.u8.wrap (shr8 k x)) by simp [wby,List.getElem?_range (show k<8 by omega)]]
     simp [bys]
    rw [←e]
    exact h1
   ·intro q hq
    rcases hap q hq with e | e
    ·exact hqf q e
    ·have:=hny.size;omega
  ·have hk8:k=8:=by omega
   subst hk8
   rw [pM,w64 (x:=(i:Int)+1) (by omega) (by omega)]
   refine ⟨ws.length - (i+1),by omega,i+1,qa,qc,_,rfl,by omega,rfl,hny,?_,hqf⟩
   have e:tkB ws i 8=t5 (ws.take (i+1)):=by
    have e1:ws.take (i+1)=ws.take i++[x]:=by rw [List.take_add_one,hx];rfl
    unfold tkB t5
    rw [hxd,e1,List.map_append,List.flatten_append,List.take_of_length_le (i:=8) (by rw [BD];omega)]
    simp
   rw [e] at hoy
   exact hoy
 ·have hil:i=ws.length:=by omega
  subst hil
  rw [pL]
  rw [List.take_length] at ho
  refine aE (wV ho.rd (yA ws).symm (by omega)) ?_
  rintro v w5 ⟨rfl,hn5⟩
  exact ⟨_,rfl,rfl,hnu.new hn5⟩
end Go.Proofs.YtegepanmkjemjaaGreat
namespace Go.Proofs.YtegepanmkjemjaaGreat
open Go.Proofs.Tryz
open Go.Eng IntKind
variable (w:World) (R:Value→World→Prop)
def gB (s3:Option Addr) (a b:Nat) (c:Option Addr) (d f:Nat) (g h:Int) (j:LV):LV:=[jg j 0,jg j 1,jg j 2,(.slice s3 a b),jg j 3,jg j 4,jg j 5,jg j 6,jg j 7,jg j 8,jg j 9,jg j 10,jg j 11,jg j 12,jg j 13,jg j 14,jg j 15,jg j 16,(.slice c d f),(.int .i64 g),(.int .i64 h),jg j 17,jg j 18,jg j 19,jg j 20,jg j 21,jg j 22,jg j 23,jg j 24,jg j 25,jg j 26,jg j 27,jg j 28,jg j 29,jg j 30,jg j 31,jg j 32,jg j 33,jg j 34,jg j 35,jg j 36,jg j 37]
def lS (s3:Option Addr) (a b:Nat) (j:LV):LV:=jq j 0 3 (.slice s3 a b::jq j 3 38 [])
theorem nO (p0:aR):fnW prog f181 [p0.val] R w=(∀ b1 w1,b1=w.heap.size→w1=w.alloc (.cells p0.cells.toArray 252)→aR.ex λr=>aD w1 ⟨b1,0,none⟩ 0 r.cells∧Calls prog 142 #[r.val,.int .i64 256] w1 λe w2=>∃ a,e=.returned (.int .i64 a)∧(bif ((a:Int) != 0) then (R (.slice none 0 0) w2) else (∃ b,w2.cell? ⟨b1,0,none⟩=some (.int .i64 b)∧∃ c d f,w2.cell? ⟨b1,1,none⟩=some (.slice c d f)∧∀ b2 w3,b2=w2.heap.size→w3=w2.alloc (.cells #[.int .u64 (u64.wrap b),.int .u64 (u64.wrap (d:Nat))] 43)→∃ g h i,w3.cell? ⟨b1,1,none⟩=some (.slice g h i)∧cN prog (.loop (sub (aC f181) [1,1,1,0,1,0,0])) (gB (some ⟨b2,0,none⟩) 2 2 g h i (h:Nat) 0 (p0.val::jp ⟨b1,0,none⟩::jz::uq 2 (r.val::ji a::jb ((a:Int) != 0)::jp ⟨b1,0,none⟩::ji b::ju (u64.wrap b)::jp ⟨b1,1,none⟩::js c d f::jn d::ju (u64.wrap (d:Nat))::js (some ⟨b2,0,none⟩) 2 2::jp ⟨b1,1,none⟩::uq 21 []))) (aJ 0 (nx f181 [1,1,1,1] R)) w3))):=by kernel_rfl
theorem l7 (s3:Option Addr) (a b:Nat) (c:Option Addr) (d f:Nat) (g h:Int) (j:LV) (N1:LV→World→Prop):W prog (sub (aC f181) [1,1,1,0,1,0,0]) (gB s3 a b c d f g h j) (seqQ N1 (aJ 0 (nx f181 [1,1,1,1] R))) w=((bif (decide ((h:Int)<g)) then (idxS c d h 9 λad=>aG.ex λr=>aD w ad 0 r.cells∧∀ b1 w1,b1=w.heap.size→w1=w.alloc (.cells #[.int .i64 0,.int .u64 0,.int .u64 0,.int .u64 0,.int .u64 0,.int .u64 0,.int .u64 0,.int .u64 0,.int .u64 0] 55)→wrAt w1 ⟨b1,0,none⟩ 0 r.cells∧∀ w2,w2=puts w1 ⟨b1,0,none⟩ 0 r.cells→∃ i,w2.cell? ⟨b1,0,none⟩=some (.int .i64 i)∧∃ k,w2.cell? ⟨b1,1,none⟩=some (.int .u64 k)∧∀ b2 w3,b2=w2.heap.size→w3=w2.alloc (.cells #[.int .u64 (u64.wrap i),.int .u64 k] 43)→∃ ap l m,∃ w4,(Builtin.append_ #[104,104] 104 #[.slice s3 a b,.slice (some ⟨b2,0,none⟩) 2 2]).run prog w3=.ok (.slice ap l m) w4∧∃ n o p,∃ w5,(Builtin.append_ #[104,104] 104 #[.slice ap l m,.slice (some ⟨b1,2,none⟩) 7 7]).run prog w4=.ok (.slice n o p) w5∧N1 (gB n o p c d f g (i64.wrap (h+1)) (jq j 0 4 (jp ⟨b1,0,none⟩::jq j 5 12 (jb (decide ((h:Int)<g))::jp ad::r.val::js s3 a b::jp ⟨b1,0,none⟩::ji i::ju (u64.wrap i)::jp ⟨b1,1,none⟩::ju k::js (some ⟨b2,0,none⟩) 2 2::js ap l m::js ap l m::jp ⟨b1,2,none⟩::js (some ⟨b1,2,none⟩) 7 7::js n o p::ji (i64.wrap (h+1))::jq j 33 5 [])))) w5) else (W prog (sub (aC f181) [1,1,1,1]) (lS s3 a b (jq j 0 17 (js c d f::ji g::ji h::jb (decide ((h:Int)<g))::jq j 18 20 []))) (retQ prog f181 R) w))):=by kernel_rfl
theorem n7 (s3:Option Addr) (a b:Nat) (j:LV):W prog (sub (aC f181) [1,1,1,1]) (lS s3 a b j) (retQ prog f181 R) w=(Calls prog 200 #[.slice s3 a b] w λe w1=>∃ c,e=.returned (.int .u64 c)∧∀ b1 w2,b1=w1.heap.size→w2=w1.alloc (.cells #[.int .u64 c] 43)→∃ ap d f,∃ w3,(Builtin.append_ #[104,104] 104 #[.slice s3 a b,.slice (some ⟨b1,0,none⟩) 1 1]).run prog w2=.ok (.slice ap d f) w3∧R (.slice ap d f) w3):=by kernel_rfl
theorem qu (p0:aG) (p1:Int):fnW prog f182 [p0.val,.int .i64 p1] R w=(∀ b1 w1,b1=w.heap.size→w1=w.alloc (.cells p0.cells.toArray 55)→∃ a,w1.cell? ⟨b1,1,none⟩=some (.int .u64 a)∧Calls prog 201 #[.int .u64 a,.int .i64 p1] w1 λe w2=>∃ b c,e=.returned (.tuple #[.int .u64 b,.int .i64 c])∧R (.tuple #[.int .u64 b,.int .i64 c]) w2):=by kernel_rfl
theorem pP (p0:aG):fnW prog f205 [p0.val] R w=(∀ b1 w1,b1=w.heap.size→w1=w.alloc (.cells p0.cells.toArray 55)→∃ a,w1.cell? ⟨b1,1,none⟩=some (.int .u64 a)∧Calls prog 177 #[.int .u64 a] w1 λe w2=>∃ b c,e=.returned (.tuple #[.int .u64 b,.int .i64 c])∧(bif ((c:Int) != 0) then (R (.tuple #[.slice none 0 0,.int .i64 c]) w2) else (∀ b2 w3,b2=w2.heap.size→w3=w2.alloc (.cells #[.int .u64 b] 43)→∃ ap d f,∃ w4,(Builtin.append_ #[104,104] 104 #[.slice (some ⟨b2,0,none⟩) 1 1,.slice (some ⟨b1,2,none⟩) 7 7]).run prog w3=.ok (.slice ap d f) w4∧R (.tuple #[.slice ap d f,.int .i64 0]) w4))):=by kernel_rfl
end Go.Proofs.YtegepanmkjemjaaGreat
