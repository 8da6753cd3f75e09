import Derived.Test.YtegepanmkjemjaaGreatProg
import Derived.Test.YtegepanmkjemjaaGreatr03
import Derived.Test.YtegepanmkjemjaaGreatr02
set_option linter.unusedVariables false
namespace Go.Proofs.YtegepanmkjemjaaGreat
open Go.Proofs.Tryz
open Go.Eng IntKind
variable (w:World) (R:Value→World→Prop)
def iE (s3:Option Addr) (a b:Nat) (c:Option Addr) (d f:Nat) (g h:Int) (j:LV):LV:=[jg j 0,jg j 1,jg j 2,(.slice s3 a b),jg j 3,jg j 4,jg j 5,jg j 6,jg j 7,jg j 8,(.slice c d f),(.int .i64 g),(.int .i64 h),jg j 9,jg j 10,jg j 11,jg j 12,jg j 13,jg j 14,jg j 15,jg j 16,jg j 17,jg j 18,jg j 19,jg j 20,jg j 21,jg j 22,jg j 23,jg j 24]
def nA (s3:Option Addr) (a b:Nat) (j:LV):LV:=jq j 0 3 (.slice s3 a b::jq j 3 25 [])
def iF (s3:Option Addr) (a b:Nat) (s5:Int) (c:Option Addr) (d f:Nat) (g h i:Int) (j:LV):LV:=jq j 0 3 (.slice s3 a b::jq j 3 1 (.int .u64 s5::jq j 4 4 (.slice c d f::.int .i64 g::.int .i64 h::jq j 8 3 (.int .i64 i::jq j 11 12 []))))
def nB (s3:Option Addr) (a b:Nat) (c:Option Addr) (d f:Nat) (g h:Int) (j:LV):LV:=jq j 0 3 (.slice s3 a b::jq j 3 6 (.slice c d f::.int .i64 g::.int .i64 h::jq j 9 16 []))
theorem tO (p0:Option Addr) (a b:Nat):fnW prog f200 [.slice p0 a b] R w=(mk3 0 (i64.wrap (8 * (a:Nat))) 1 (.cells (reps (Int.toNat (i64.wrap (8 * (a:Nat)))) [.int .u8 0]).toArray 5) w λb1 w1=>cA prog (.loop (sub (aE f200) [1,1,0,1,0,0])) (iE (some ⟨b1,0,none⟩) (Int.toNat 0) (Int.toNat (i64.wrap (8 * (a:Nat)))) p0 a b (a:Nat) 0 (js p0 a b::undef::ju 0::uq 2 (js p0 a b::jn a::ji (i64.wrap (8 * (a:Nat)))::js (some ⟨b1,0,none⟩) (Int.toNat 0) (Int.toNat (i64.wrap (8 * (a:Nat))))::uq 16 []))) (aI 0 (nx f200 [1,1,1] R)) w1):=by kernel_rfl
theorem ng (s3:Option Addr) (a b:Nat) (c:Option Addr) (d f:Nat) (g h:Int) (j:LV) (N1:LV→World→Prop):W prog (sub (aE f200) [1,1,0,1,0,0]) (iE s3 a b c d f g h j) (seqQ N1 (aI 0 (nx f200 [1,1,1] R))) w=((bif (decide ((h:Int)<g)) then (idxS c d h 1 λad=>∃ x,w.cell? ad=some (.int .u64 x)∧cA prog (.loop (sub (aE f200) [1,1,0,1,0,0,1,1,0,0,1,1,0,0])) (iF s3 a b x c d f g h 0 (jq j 0 4 (jq j 5 4 (jb (decide ((h:Int)<g))::jp ad::ju x::jq j 13 12 [])))) (aI 2 (aI 1 (seqQ (λenv w=>W prog (sub (aE f200) [1,1,0,1,0,0,1,1,1]) env (seqQ N1 (aI 0 (nx f200 [1,1,1] R))) w) (seqQ N1 (aI 0 (nx f200 [1,1,1] R)))))) w) else (W prog (sub (aE f200) [1,1,1]) (nA s3 a b (jq j 0 9 (js c d f::ji g::ji h::jb (decide ((h:Int)<g))::jq j 10 15 []))) (retQ prog f200 R) w))):=by kernel_rfl
theorem pB (s3:Option Addr) (a b:Nat) (j:LV):W prog (sub (aE f200) [1,1,1]) (nA s3 a b j) (retQ prog f200 R) w=(Calls prog 207 #[.slice s3 a b] w λe w1=>∃ c,e=.returned (.int .u64 c)∧R (.int .u64 c) w1):=by kernel_rfl
theorem nh (s3:Option Addr) (a b:Nat) (s5:Int) (c:Option Addr) (d f:Nat) (g h i:Int) (j:LV) (N1:LV→World→Prop) (N2:LV→World→Prop):W prog (sub (aE f200) [1,1,0,1,0,0,1,1,0,0,1,1,0,0]) (iF s3 a b s5 c d f g h i j) (seqQ N2 (aI 2 (aI 1 (seqQ (λenv w=>W prog (sub (aE f200) [1,1,0,1,0,0,1,1,1]) env (seqQ N1 (aI 0 (nx f200 [1,1,1] R))) w) (seqQ N1 (aI 0 (nx f200 [1,1,1] R))))))) w=((bif (decide ((i:Int)<8)) then (∀ b1 w1,b1=w.heap.size→w1=w.alloc (.cells #[.int .u8 (IntKind.u8.wrap s5)] 5)→∃ ap k l,∃ w2,(Builtin.append_ #[290,290] 290 #[.slice s3 a b,.slice (some ⟨b1,0,none⟩) 1 1]).run prog w1=.ok (.slice ap k l) w2∧N2 (iF ap k l (bshr .u64 s5 8) c d f g h (i64.wrap (i+1)) (jq j 0 11 [jb (decide ((i:Int)<8)),js s3 a b,ju s5,.int .u8 (IntKind.u8.wrap s5),js (some ⟨b1,0,none⟩) 1 1,js ap k l,ju s5,ju (bshr .u64 s5 8),ji (i64.wrap (i+1)),jg j 20,jg j 21,jg j 22])) w2) else (W prog (sub (aE f200) [1,1,0,1,0,0,1,1,1]) (nB s3 a b c d f g h (jq j 0 4 (ju s5::jq j 4 7 (ji i::jb (decide ((i:Int)<8))::jq j 12 11 [])))) (seqQ N1 (aI 0 (nx f200 [1,1,1] R))) w))):=by kernel_rfl
theorem pC (s3:Option Addr) (a b:Nat) (c:Option Addr) (d f:Nat) (g h:Int) (j:LV) (N1:LV→World→Prop):W prog (sub (aE f200) [1,1,0,1,0,0,1,1,1]) (nB s3 a b c d f g h j) (seqQ N1 (aI 0 (nx f200 [1,1,1] R))) w=(N1 (iE s3 a b c d f g (i64.wrap (h+1)) (jq j 0 22 [ji (i64.wrap (h+1)),jg j 23,jg j 24])) w):=by kernel_rfl
theorem tP (p0:Option Addr) (a b:Nat):fnW prog f207 [.slice p0 a b] R w=(Calls prog 208 #[.int .u64 0,.slice p0 a b] w λe w1=>∃ c,e=.returned (.int .u64 c)∧R (.int .u64 c) w1):=by kernel_rfl
theorem sH (p0:Int) (p1:Option Addr) (a b:Nat):fnW prog f208 [.int .u64 p0,.slice p1 a b] R w=(Calls prog 209 #[] w λe w1=>bR.ex λd=>e=.returned d.val∧∀ b1 w2,b1=w1.heap.size→w2=w1.alloc (.cells (List.replicate 256 (.int .u64 0)).toArray 302)→wrAt w2 ⟨b1,0,none⟩ 0 d.cells∧∀ w3,w3=puts w2 ⟨b1,0,none⟩ 0 d.cells→Calls prog 210 #[.int .u64 (bxor .u64 18446744073709551615 p0),.pointer (some ⟨b1,0,none⟩),.slice p1 a b] w3 λe w4=>∃ c,e=.returned (.int .u64 c)∧R (.int .u64 (bxor .u64 18446744073709551615 c)) w4):=by kernel_rfl
def iG (s0:Addr) (s3:Int) (j:LV):LV:=.pointer (some s0)::jq j 0 2 (.int .i64 s3::jq j 2 20 [])
def nC (a:Addr) (j:LV):LV:=.pointer (some a)::jq j 0 23 []
def fN (s0:Addr) (s1 s2 s3 s8:Int) (j:LV):LV:=.pointer (some s0)::.int .i64 s1::.int .u64 s2::.int .i64 s3::jq j 0 4 (.int .i64 s8::jq j 4 15 [])
def nD (a:Addr) (s1 s2 s3:Int) (j:LV):LV:=.pointer (some a)::.int .i64 s1::.int .u64 s2::.int .i64 s3::jq j 0 20 []
theorem tQ  : fnW prog f209 [] R w=(∀ b1 w1,b1=w.heap.size→w1=w.alloc (.cells (List.replicate 256 (.int .u64 0)).toArray 302)→cA prog (.loop (sub (aE f209) [1,0,1,0,0])) (iG ⟨b1,0,none⟩ 0 (uq 22 [])) (aI 0 (nx f209 [1,1] R)) w1):=by kernel_rfl
theorem ni (s0:Addr) (s3:Int) (j:LV) (N1:LV→World→Prop):W prog (sub (aE f209) [1,0,1,0,0]) (iG s0 s3 j) (seqQ N1 (aI 0 (nx f209 [1,1] R))) w=((bif (decide ((s3:Int)<256)) then (cA prog (.loop (sub (aE f209) [1,0,1,0,0,1,1,0,0,1,1,0,1,0,0])) (fN s0 s3 (u64.wrap s3) s3 0 (jb (decide ((s3:Int)<256))::ji s3::ji s3::ju (u64.wrap s3)::jq j 7 15 [])) (aI 2 (seqQ (λenv w=>W prog (sub (aE f209) [1,0,1,0,0,1,1,0,0,1,1,1]) env (aI 1 (seqQ (λenv w=>W prog (sub (aE f209) [1,0,1,0,0,1,1,1]) env (seqQ N1 (aI 0 (nx f209 [1,1] R))) w) (seqQ N1 (aI 0 (nx f209 [1,1] R))))) w) (aI 1 (seqQ (λenv w=>W prog (sub (aE f209) [1,0,1,0,0,1,1,1]) env (seqQ N1 (aI 0 (nx f209 [1,1] R))) w) (seqQ N1 (aI 0 (nx f209 [1,1] R))))))) w) else (W prog (sub (aE f209) [1,1]) (nC s0 (jg j 0::jg j 1::ji s3::jb (decide ((s3:Int)<256))::jq j 3 19 [])) (retQ prog f209 R) w))):=by kernel_rfl
theorem pD (a:Addr) (j:LV):W prog (sub (aE f209) [1,1]) (nC a j) (retQ prog f209 R) w=(bR.ex λr=>aD w a 0 r.cells∧wrAt w a 0 r.cells∧∀ w1,w1=puts w a 0 r.cells→bR.ex λb=>aD w1 a 0 b.cells∧w1=w1∧R b.val w1):=by kernel_rfl
theorem nj (s0:Addr) (s1 s2 s3 s8:Int) (j:LV) (N1:LV→World→Prop) (N2:LV→World→Prop):W prog (sub (aE f209) [1,0,1,0,0,1,1,0,0,1,1,0,1,0,0]) (fN s0 s1 s2 s3 s8 j) (seqQ N2 (aI 2 (seqQ (λenv w=>W prog (sub (aE f209) [1,0,1,0,0,1,1,0,0,1,1,1]) env (aI 1 (seqQ (λenv w=>W prog (sub (aE f209) [1,0,1,0,0,1,1,1]) env (seqQ N1 (aI 0 (nx f209 [1,1] R))) w) (seqQ N1 (aI 0 (nx f209 [1,1] R))))) w) (aI 1 (seqQ (λenv w=>W prog (sub (aE f209) [1,0,1,0,0,1,1,1]) env (seqQ N1 (aI 0 (nx f209 [1,1] R))) w) (seqQ N1 (aI 0 (nx f209 [1,1] R)))))))) w=((bif (decide ((s8:Int)<8)) then ((bif (((band .u64 s2 1):Int) == 1) then (N2 (fN s0 s1 (bxor .u64 (bshr .u64 s2 1) 14514072000185962306) s3 (i64.wrap (s8+1)) (jq j 0 4 (jb (decide ((s8:Int)<8))::ju s2::ju (band .u64 s2 1)::jb (((band .u64 s2 1):Int) == 1)::ju s2::ju (bshr .u64 s2 1)::ju (bxor .u64 (bshr .u64 s2 1) 14514072000185962306)::jg j 11::jg j 12::ji (i64.wrap (s8+1))::jq j 14 5 []))) w) else (N2 (fN s0 s1 (bshr .u64 s2 1) s3 (i64.wrap (s8+1)) (jq j 0 4 (jb (decide ((s8:Int)<8))::ju s2::ju (band .u64 s2 1)::jb (((band .u64 s2 1):Int) == 1)::jg j 8::jg j 9::jg j 10::ju s2::ju (bshr .u64 s2 1)::ji (i64.wrap (s8+1))::jq j 14 5 []))) w))) else (W prog (sub (aE f209) [1,0,1,0,0,1,1,0,0,1,1,1]) (nD s0 s1 s2 s3 (jq j 0 4 (ji s8::jb (decide ((s8:Int)<8))::jq j 5 14 []))) (aI 1 (seqQ (λenv w=>W prog (sub (aE f209) [1,0,1,0,0,1,1,1]) env (seqQ N1 (aI 0 (nx f209 [1,1] R))) w) (seqQ N1 (aI 0 (nx f209 [1,1] R))))) w))):=by kernel_rfl
theorem pE (a:Addr) (s1 s2 s3:Int) (j:LV) (N1:LV→World→Prop):W prog (sub (aE f209) [1,0,1,0,0,1,1,0,0,1,1,1]) (nD a s1 s2 s3 j) (aI 1 (seqQ (λenv w=>W prog (sub (aE f209) [1,0,1,0,0,1,1,1]) env (seqQ N1 (aI 0 (nx f209 [1,1] R))) w) (seqQ N1 (aI 0 (nx f209 [1,1] R))))) w=(idxA a 256 s1 1 λad=>(∃ u,w.cell? ad=some u)∧w.frozen? ad=false∧∀ w1,w1=w.setCell ad (.int .u64 s2)→N1 (iG a (i64.wrap (s3+1)) (ji s1::ju s2::jq j 0 15 [ji s1,ju s2,jp ad,ji (i64.wrap (s3+1)),jg j 19])) w1):=by kernel_rfl
def kn (s0:Int) (s1:Addr) (s9:Option Addr) (a b:Nat) (c d:Int) (j:LV):LV:=.int .u64 s0::.pointer (some s1)::jq j 0 7 (.slice s9 a b::.int .i64 c::.int .i64 d::jq j 7 16 [])
def pS (s0:Int) (j:LV):LV:=.int .u64 s0::jq j 0 27 []
theorem wD (p0:Int) (p1:Nat) (p2:Option Addr) (a b:Nat):fnW prog f210 [.int .u64 p0,.pointer (some ⟨p1,0,none⟩),.slice p2 a b] R w=(cA prog (.loop (sub (aE f210) [1,0,1,0,0])) (kn p0 ⟨p1,0,none⟩ p2 a b (a:Nat) 0 (js p2 a b::uq 3 (ju 0::uq 18 []))) (aI 0 (nx f210 [1,1] R)) w):=by kernel_rfl
theorem oZ (s0:Int) (s1:Addr) (s9:Option Addr) (a b:Nat) (c d:Int) (j:LV) (N1:LV→World→Prop):W prog (sub (aE f210) [1,0,1,0,0]) (kn s0 s1 s9 a b c d j) (seqQ N1 (aI 0 (nx f210 [1,1] R))) w=((bif (decide ((d:Int)<c)) then (idxS s9 a d 1 λad=>∃ x,w.cell? ad=some (.int .u8 x)∧idxA s1 256 (bxor .u8 (IntKind.u8.wrap s0) x) 1 λf=>∃ x1,w.cell? f=some (.int .u64 x1)∧N1 (kn (bxor .u64 (bshr .u64 s0 8) x1) s1 s9 a b c (i64.wrap (d+1)) (jq j 0 6 [.int .u8 x,jb (decide ((d:Int)<c)),jp ad,.int .u8 x,ju s0,ju (bshr .u64 s0 8),jp s1,ju s0,.int .u8 (IntKind.u8.wrap s0),.int .u8 x,.int .u8 (bxor .u8 (IntKind.u8.wrap s0) x),jp s1,jp f,ju x1,ju (bxor .u64 (bshr .u64 s0 8) x1),ji (i64.wrap (d+1)),jg j 22])) w) else (W prog (sub (aE f210) [1,1]) (pS s0 (jp s1::jq j 0 7 (js s9 a b::ji c::ji d::jb (decide ((d:Int)<c))::jq j 8 15 []))) (retQ prog f210 R) w))):=by kernel_rfl
theorem qV (s0:Int) (j:LV):W prog (sub (aE f210) [1,1]) (pS s0 j) (retQ prog f210 R) w=(R (.int .u64 s0) w):=by kernel_rfl
end Go.Proofs.YtegepanmkjemjaaGreat
namespace Go.Proofs.YtegepanmkjemjaaGreat
open Go.Eng
def Bd (r:Int):Int:=if band .u64 r 1=1 then bxor .u64 (bshr .u64 r 1) 14514072000185962306 else bshr .u64 r 1
def tR:Nat→Int→Int
 | 0,r=>r
 |n+1,r=>Bd (tR n r)
def vE (i:Nat):Int:=tR 8 i
def dN:List Int:=(List.range 256).map vE
def tabL (i:Nat):List Int:=(List.range i).map vE++List.replicate (256 - i) 0
theorem zD {i:Nat} (h:i≤256):(tabL i).length=256:=by simp [tabL];omega
theorem zE {i:Nat} (h:i<256):(tabL i).set i (vE i)=tabL (i+1):=by
 unfold tabL
 rw [List.range_succ,List.map_append,List.set_append]
 simp only [List.length_map,List.length_range,Nat.lt_irrefl,if_false,Nat.sub_self]
 obtain ⟨m,hm⟩:∃ m,256 - i=m+1:=⟨255 - i,by omega⟩
 have e:256 - (i+1)=m:=by omega
 rw [hm,e,List.replicate_succ,List.set_cons_zero]
 simp
theorem zF:tabL 256=dN:=by simp [tabL,dN]
theorem Be (n:Nat):us (List.replicate n 0)=List.replicate n (.int .u64 0):=by simp [us]
theorem Bf (l:List Int) (i:Nat) (x:Int):(us l).set i (.int .u64 x)=us (l.set i x):=by simp [us]
theorem tS (l:List Int):bR.cells ⟨l⟩=us l:=rfl
abbrev TTb:TypeId:=302
set_option maxRecDepth 20000 in
theorem wE (w:World):Does 209 [] w λv w'=>v=bR.val ⟨dN⟩∧New w w':=by
 refine does Tryz.func209 ?_
 rw [tQ]
 rintro b1 w1 hb1 hw1
 obtain ⟨hz1,hn1⟩:=aM hb1 hw1
 have hz1:Blk w1 b1 (us (tabL 0)) TTb:=by
  have e:us (tabL 0)=List.replicate 256 (.int .u64 0):=Be 256
  rw [e]
  exact hz1
 clear hw1
 refine aR mix (λm env u=>∃ (i:Nat) (jj:List Value),m=256 - i∧i≤256∧env=iG ⟨b1,0,none⟩ i jj∧New w u∧Blk u b1 (us (tabL i)) TTb) 256 ⟨0,_,rfl,by omega,rfl,hn1,hz1⟩ ?_
 rintro m env u ⟨i,jj,rfl,hi,rfl,hnu,hzu⟩
 rw [ni]
 refine aH (λhlt=>?_) (λhge=>?_)
 ·rw [wu64 (x:=(i:Int)) (by omega) (by omega)]
  refine aR mix (λm2 env2 y=>∃ (k:Nat) (jj:List Value),m2=8 - k∧k≤8∧env2=fN ⟨b1,0,none⟩ i (tR k i) i k jj∧y=u) 8 ⟨0,_,rfl,by omega,rfl,rfl⟩ ?_
  rintro m2 env2 y ⟨k,jj2,rfl,hk,rfl,rfl⟩
  rw [nj,w64 (x:=(k:Int)+1) (by omega) (by omega)]
  refine aH (λhk8=>?_) (λhk8=>?_)
  ·refine bH (λh1=>?_) (λh1=>?_)
   ·have e:tR (k+1) i=bxor .u64 (bshr .u64 (tR k i) 1) 14514072000185962306:=if_pos h1
    rw [←e]
    exact ⟨8 - (k+1),by omega,k+1,_,rfl,by omega,rfl,rfl⟩
   ·have e:tR (k+1) i=bshr .u64 (tR k i) 1:=if_neg h1
    rw [←e]
    exact ⟨8 - (k+1),by omega,k+1,_,rfl,by omega,rfl,rfl⟩
  ·have hk8:k=8:=by omega
   subst hk8
   rw [pE,w64 (x:=(i:Int)+1) (by omega) (by omega)]
   refine kp (by omega) (by omega) ?_
   have e2:0+(i:Int).toNat * 1=i:=by omega
   rw [e2]
   refine lY hzu (o:=i) (by rw [ke,zD hi];omega) λw2 hz2 hk2=>?_
   rw [Bf,show tR 8 (i:Int)=vE i from rfl,zE (by omega)] at hz2
   have hs:=hn1.size
   exact ⟨256 - (i+1),by omega,i+1,_,rfl,by omega,rfl,hnu.trans hk2 λk hlt e=>by omega,hz2⟩
 ·have hi2:i=256:=by omega
  subst hi2
  rw [pD]
  rw [zF] at hzu
  have hl:dN.length=256:=by simp [dN]
  refine bR.mk_ex ⟨dN⟩ hl ⟨aJ hzu (by rw [tS];exact List.take_of_length_le (Nat.le_refl _)),?_⟩
  refine fJ (vs:=us dN) hzu rfl (jK _) λw2 hz2 hk2=>?_
  exact bR.mk_ex ⟨dN⟩ hl ⟨aJ hz2 (by rw [tS];exact List.take_of_length_le (Nat.le_refl _)),rfl,rfl,hnu.trans hk2 λk hlt e=>by have:=hn1.size;omega⟩
def nE (r x:Int):Int:=bxor .u64 (bshr .u64 r 8) (dN.getD (bxor .u8 (IntKind.u8.wrap r) x).toNat 0)
theorem C2 (x:Int):0≤IntKind.u8.wrap x∧IntKind.u8.wrap x<256:=by
 simp only [IntKind.wrap,IntKind.bits,IntKind.signed]
 simp
 omega
def bys (l:List Int):List Value:=l.map (Value.int .u8)
theorem Bg {l:List Int} {i:Nat} {x:Int} (h:l[i]?=some x):(bys l)[i]?=some (.int .u8 x):=by simp [bys,h]
theorem wF {f:Int→Int→Int} {l:List Int} {i:Nat} {x r:Int} (h:l[i]?=some x):(l.take (i+1)).foldl f r=f ((l.take i).foldl f r) x:=by
 rw [List.take_add_one,h,List.foldl_append]
 rfl
theorem zG {w:World} (r:Int) {tb:Nat} (ht:Blk w tb (us dN) TTb) {a:Option Addr} {n c:Nat} {l:List Int} (hr:Rd w a (bys l)) (hn:n=l.length) (hf:n≤1000000) :
  Does 210 [.int .u64 r,.pointer (some ⟨tb,0,none⟩),.slice a n c] w λv w'=>v=.int .u64 (l.foldl nE r)∧w'=w:=by
 subst hn
 refine does Tryz.func210 ?_
 rw [wD]
 refine aR mix (λm env u=>∃ (i:Nat) (jj:List Value),m=l.length - i∧i≤l.length∧env=kn ((l.take i).foldl nE r) ⟨tb,0,none⟩ a l.length c l.length i jj∧u=w) l.length ⟨0,_,rfl,by omega,rfl,rfl⟩ ?_
 rintro m env u ⟨i,jj,rfl,hi,rfl,rfl⟩
 rw [oZ]
 refine aH (λhlt=>?_) (λhge=>?_)
 ·obtain ⟨x,hx⟩:∃ x,l[i]?=some x:=⟨_,List.getElem?_eq_getElem (by omega)⟩
  rcases hr with he | ⟨b,o,rfl,hc⟩
  ·have h0:l.length=0:=by
    have:=congrArg List.length he
    rwa [bys,List.length_map] at this
   omega
  refine aY (by omega) (by omega) ⟨x,by simpa using hc i _ (Bg hx),?_⟩
  have hin:0≤bxor .u8 (IntKind.u8.wrap ((l.take i).foldl nE r)) x∧bxor .u8 (IntKind.u8.wrap ((l.take i).foldl nE r)) x<256:=C2 _
  have hl:dN.length=256:=by simp [dN]
  refine kp hin.1 hin.2 ?_
  generalize hq:bxor .u8 (IntKind.u8.wrap ((l.take i).foldl nE r)) x=q at hin ⊢
  obtain ⟨y,hy⟩:∃ y,dN[q.toNat]?=some y:=⟨_,List.getElem?_eq_getElem (by omega)⟩
  refine ⟨y,by rw [Nat.mul_one];exact Blk.cell ht (by simpa using sV hy),?_⟩
  rw [w64 (x:=(i:Int)+1) (by omega) (by omega)]
  have e:(l.take (i+1)).foldl nE r=bxor .u64 (bshr .u64 ((l.take i).foldl nE r) 8) y:=by
   rw [wF hx]
   generalize (l.take i).foldl nE r=z at hq
   show bxor .u64 (bshr .u64 z 8) (dN.getD (bxor .u8 (IntKind.u8.wrap z) x).toNat 0)=_
   rw [hq,List.getD_eq_getElem?_getD,hy]
   rfl
  rw [←e]
  exact ⟨l.length - (i+1),by omega,i+1,_,rfl,by omega,rfl,rfl⟩
 ·have hil:i=l.length:=by omega
  subst hil
  rw [qV,List.take_length]
  exact ⟨rfl,rfl⟩
def vF (r:Int) (l:List Int):Int:=bxor .u64 18446744073709551615 (l.foldl nE (bxor .u64 18446744073709551615 r))
theorem uS {w:World} (r:Int) {a:Option Addr} {n c:Nat} {l:List Int} (hr:Rd w a (bys l)) (hn:n=l.length) (hf:n≤1000000) :
  Does 208 [.int .u64 r,.slice a n c] w λv w'=>v=.int .u64 (vF r l)∧New w w':=by
 refine does Tryz.func208 ?_
 rw [sH]
 refine aF (wE w) ?_
 rintro v w1 ⟨rfl,hn1⟩
 have hl:dN.length=256:=by simp [dN]
 refine bR.mk_ex ⟨dN⟩ hl ⟨rfl,?_⟩
 refine gP (zs:=List.replicate 256 (.int .u64 0)) (vs:=us dN) (by rw [ke,List.length_replicate];exact hl) (jK _) λb w3 hb hz hn3=>?_
 refine aF (zG _ hz (hr.new (hn1.new hn3)) hn hf) ?_
 rintro v w4 ⟨rfl,rfl⟩
 exact ⟨_,rfl,rfl,hn1.new hn3⟩
theorem wG {w:World} {a:Option Addr} {n c:Nat} {l:List Int} (hr:Rd w a (bys l)) (hn:n=l.length) (hf:n≤1000000) :
  Does 207 [.slice a n c] w λv w'=>v=.int .u64 (vF 0 l)∧New w w':=by
 refine does Tryz.func207 ?_
 rw [tP]
 refine aF (uS 0 hr hn hf) ?_
 rintro v w1 ⟨rfl,hn1⟩
 exact ⟨_,rfl,rfl,hn1⟩
def shr8:Nat→Int→Int
 | 0,x=>x
 |k+1,x=>bshr .u64 (shr8 k x) 8
def wby (x:Int):List Int:=(List.range 8).map λk=>IntKind.u8.wrap (shr8 k x)
theorem Bh (x:Int):(wby x).length=8:=by unfold wby;rw [List.length_map,List.length_range]
def tT (ws:List Int):List Int:=(ws.map wby).flatten
def crcW (ws:List Int):Int:=vF 0 (tT ws)
theorem yh (ws:List Int):(tT ws).length=8 * ws.length:=by
 induction ws with
 |nil=>rfl
 |cons x ws ih=>
  have:tT (x::ws)=wby x++tT ws:=rfl
  rw [this,List.length_append,ih]
  simp [wby]
  omega
theorem zH (ws:List Int):U64 (crcW ws):=by
 unfold crcW vF U64
 generalize (List.foldl nE _ _)=z
 simp only [bxor,IntKind.wrap,IntKind.bits,IntKind.signed]
 simp
 omega
abbrev TBy:TypeId:=5
def tkB (ws:List Int) (i k:Nat):List Int:=tT (ws.take i)++((wby (ws.getD i 0)).take k)
theorem wH {w:World} {a:Option Addr} {n c:Nat} {ws:List Int} (hr:Rd w a (us ws)) (hn:n=ws.length) (hf:n≤10000) :
  Does 200 [.slice a n c] w λv w'=>v=.int .u64 (crcW ws)∧New w w':=by
 subst hn
 refine does Tryz.func200 ?_
 rw [tO,w64 (x:=8 * (ws.length:Int)) (by omega) (by omega)]
 refine ⟨by omega,by omega,by omega,by omega,?_⟩
 rintro b1 w1 hb1 hw1
 obtain ⟨hz1,hn1⟩:=aM hb1 hw1
 clear hw1
 obtain ⟨inf,hinf,hzz,hsz,hby⟩:=iK (T:=TBy) (z:=.int .u8 0) (n:=1) (m:=1) (by kernel_rfl)
 have e8:Int.toNat (8 * (ws.length:Int))=8 * ws.length:=by omega
 have hown:Owns w1 TBy 1 (some ⟨b1,0,none⟩) 0 (8 * ws.length) (bys []):=by
  refine ⟨rfl,.inr ⟨b1,_,rfl,hz1,by omega,by unfold maxLen;omega,?_,by simp [bys]⟩⟩
  rw [e8]
  simp [reps]
 refine aR mix (λm env u=>∃ (i:Nat) (pa:Option Addr) (pc:Nat) (jj:List Value),m=ws.length - i∧i≤ws.length∧env=iE pa (8 * i) pc a ws.length c ws.length i jj∧New w u∧Owns u TBy 1 pa (8 * i) pc (bys (tT (ws.take i)))∧∀ k,isB pa k→w.heap.size≤k) ws.length
  ⟨0,some ⟨b1,0,none⟩,8 * ws.length,_,rfl,by omega,by rw [e8];rfl,hn1,hown,λk hk=>?_⟩ ?_
 ·obtain ⟨o,ho⟩:=hk
  simp at ho
  omega
 rintro m env u ⟨i,pa,pc,jj,rfl,hi,rfl,hnu,ho,hpf⟩
 rw [ng]
 refine aH (λhlt=>?_) (λhge=>?_)
 ·obtain ⟨x,hx⟩:∃ x,ws[i]?=some x:=⟨_,List.getElem?_eq_getElem (by omega)⟩
  have hxd:ws.getD i 0=x:=by rw [List.getD_eq_getElem?_getD,hx];rfl
  have hru:=hr.new hnu
  rcases hru with he | ⟨b,o,rfl,hc⟩
  ·have h0:ws.length=0:=by
    have:=congrArg List.length he
    rwa [us,List.length_map] at this
   omega
  refine aY (by omega) (by omega) ⟨x,by simpa using hc i _ (sV hx),?_⟩
  refine aR mix (λm2 env2 y=>∃ (k:Nat) (pa:Option Addr) (pc:Nat) (jj:List Value),m2=8 - k∧k≤8∧env2=iF pa (8 * i+k) pc (shr8 k x) (some ⟨b,o,none⟩) ws.length c ws.length i k jj∧New w y∧Owns y TBy 1 pa (8 * i+k) pc (bys (tkB ws i k))∧∀ k,isB pa k→w.heap.size≤k) 8
   ⟨0,pa,pc,_,rfl,by omega,rfl,hnu,by simpa [tkB] using ho,hpf⟩ ?_
  rintro m2 env2 y ⟨k,qa,qc,jj2,rfl,hk,rfl,hny,hoy,hqf⟩
  rw [nh]
  refine aH (λhk8=>?_) (λhk8=>?_)
  ·have hoy':Owns y TBy inf.size qa (8 * i+k) qc (bys (tkB ws i k)):=by rw [hsz];exact hoy
   refine push_k (vs:=[.int .u8 (IntKind.u8.wrap (shr8 k x))]) Tryz.underlying290 hinf hzz (by rw [hsz];rfl) (by omega) hoy' (by rw [hsz];rfl) (by intro v hv;simp at hv;subst hv;rfl) (by omega) (by omega) ?_
   intro b3 ap cap' w3 hb3 h1 hk3 hap
   rw [hsz] at h1
   rw [w64 (x:=(k:Int)+1) (by omega) (by omega)]
   refine ⟨8 - (k+1),by omega,k+1,ap,cap',_,rfl,by omega,rfl,iL hny hk3 hqf,?_,?_⟩
   ·have e:bys (tkB ws i k)++[Value.int .u8 (IntKind.u8.wrap (shr8 k x))]=bys (tkB ws i (k+1)):=by
     unfold tkB
     rw [hxd,List.take_add_one,show (wby x)[k]?=some (IntKind.u8.wrap (shr8 k x)) by simp [wby,List.getElem?_range (show k<8 by omega)]]
     simp [bys]
    rw [←e]
    exact h1
   ·intro q hq
    rcases hap q hq with e | e
    ·exact hqf q e
    ·have:=hny.size;omega
  ·have hk8:k=8:=by omega
   subst hk8
   rw [pC,w64 (x:=(i:Int)+1) (by omega) (by omega)]
   refine ⟨ws.length - (i+1),by omega,i+1,qa,qc,_,rfl,by omega,rfl,hny,?_,hqf⟩
   have e:tkB ws i 8=tT (ws.take (i+1)):=by
    have e1:ws.take (i+1)=ws.take i++[x]:=by rw [List.take_add_one,hx];rfl
    unfold tkB tT
    rw [hxd,e1,List.map_append,List.flatten_append,List.take_of_length_le (i:=8) (by rw [Bh];omega)]
    simp
   rw [e] at hoy
   exact hoy
 ·have hil:i=ws.length:=by omega
  subst hil
  rw [pB]
  rw [List.take_length] at ho
  refine aF (wG ho.rd (yh ws).symm (by omega)) ?_
  rintro v w5 ⟨rfl,hn5⟩
  exact ⟨_,rfl,rfl,hnu.new hn5⟩
end Go.Proofs.YtegepanmkjemjaaGreat
namespace Go.Proofs.YtegepanmkjemjaaGreat
open Go.Proofs.Tryz
open Go.Eng IntKind
variable (w:World) (R:Value→World→Prop)
def fR (s3:Option Addr) (a b:Nat) (c:Option Addr) (d f:Nat) (g h:Int) (j:LV):LV:=[jg j 0,jg j 1,jg j 2,(.slice s3 a b),jg j 3,jg j 4,jg j 5,jg j 6,jg j 7,jg j 8,jg j 9,jg j 10,jg j 11,jg j 12,jg j 13,jg j 14,jg j 15,jg j 16,(.slice c d f),(.int .i64 g),(.int .i64 h),jg j 17,jg j 18,jg j 19,jg j 20,jg j 21,jg j 22,jg j 23,jg j 24,jg j 25,jg j 26,jg j 27,jg j 28,jg j 29,jg j 30,jg j 31,jg j 32,jg j 33,jg j 34,jg j 35,jg j 36,jg j 37]
def lE (s3:Option Addr) (a b:Nat) (j:LV):LV:=jq j 0 3 (.slice s3 a b::jq j 3 38 [])
theorem nF (p0:aQ):fnW prog f181 [p0.val] R w=(∀ b1 w1,b1=w.heap.size→w1=w.alloc (.cells p0.cells.toArray 252)→aQ.ex λr=>aD w1 ⟨b1,0,none⟩ 0 r.cells∧Calls prog 142 #[r.val,.int .i64 256] w1 λe w2=>∃ a,e=.returned (.int .i64 a)∧(bif ((a:Int) != 0) then (R (.slice none 0 0) w2) else (∃ b,w2.cell? ⟨b1,0,none⟩=some (.int .i64 b)∧∃ c d f,w2.cell? ⟨b1,1,none⟩=some (.slice c d f)∧∀ b2 w3,b2=w2.heap.size→w3=w2.alloc (.cells #[.int .u64 (u64.wrap b),.int .u64 (u64.wrap (d:Nat))] 43)→∃ g h i,w3.cell? ⟨b1,1,none⟩=some (.slice g h i)∧cA prog (.loop (sub (aE f181) [1,1,1,0,1,0,0])) (fR (some ⟨b2,0,none⟩) 2 2 g h i (h:Nat) 0 (p0.val::jp ⟨b1,0,none⟩::jz::uq 2 (r.val::ji a::jb ((a:Int) != 0)::jp ⟨b1,0,none⟩::ji b::ju (u64.wrap b)::jp ⟨b1,1,none⟩::js c d f::jn d::ju (u64.wrap (d:Nat))::js (some ⟨b2,0,none⟩) 2 2::jp ⟨b1,1,none⟩::uq 21 []))) (aI 0 (nx f181 [1,1,1,1] R)) w3))):=by kernel_rfl
theorem lQ (s3:Option Addr) (a b:Nat) (c:Option Addr) (d f:Nat) (g h:Int) (j:LV) (N1:LV→World→Prop):W prog (sub (aE f181) [1,1,1,0,1,0,0]) (fR s3 a b c d f g h j) (seqQ N1 (aI 0 (nx f181 [1,1,1,1] R))) w=((bif (decide ((h:Int)<g)) then (idxS c d h 9 λad=>aG.ex λr=>aD w ad 0 r.cells∧∀ b1 w1,b1=w.heap.size→w1=w.alloc (.cells #[.int .i64 0,.int .u64 0,.int .u64 0,.int .u64 0,.int .u64 0,.int .u64 0,.int .u64 0,.int .u64 0,.int .u64 0] 55)→wrAt w1 ⟨b1,0,none⟩ 0 r.cells∧∀ w2,w2=puts w1 ⟨b1,0,none⟩ 0 r.cells→∃ i,w2.cell? ⟨b1,0,none⟩=some (.int .i64 i)∧∃ k,w2.cell? ⟨b1,1,none⟩=some (.int .u64 k)∧∀ b2 w3,b2=w2.heap.size→w3=w2.alloc (.cells #[.int .u64 (u64.wrap i),.int .u64 k] 43)→∃ ap l m,∃ w4,(Builtin.append_ #[104,104] 104 #[.slice s3 a b,.slice (some ⟨b2,0,none⟩) 2 2]).run prog w3=.ok (.slice ap l m) w4∧∃ n o p,∃ w5,(Builtin.append_ #[104,104] 104 #[.slice ap l m,.slice (some ⟨b1,2,none⟩) 7 7]).run prog w4=.ok (.slice n o p) w5∧N1 (fR n o p c d f g (i64.wrap (h+1)) (jq j 0 4 (jp ⟨b1,0,none⟩::jq j 5 12 (jb (decide ((h:Int)<g))::jp ad::r.val::js s3 a b::jp ⟨b1,0,none⟩::ji i::ju (u64.wrap i)::jp ⟨b1,1,none⟩::ju k::js (some ⟨b2,0,none⟩) 2 2::js ap l m::js ap l m::jp ⟨b1,2,none⟩::js (some ⟨b1,2,none⟩) 7 7::js n o p::ji (i64.wrap (h+1))::jq j 33 5 [])))) w5) else (W prog (sub (aE f181) [1,1,1,1]) (lE s3 a b (jq j 0 17 (js c d f::ji g::ji h::jb (decide ((h:Int)<g))::jq j 18 20 []))) (retQ prog f181 R) w))):=by kernel_rfl
theorem nW (s3:Option Addr) (a b:Nat) (j:LV):W prog (sub (aE f181) [1,1,1,1]) (lE s3 a b j) (retQ prog f181 R) w=(Calls prog 200 #[.slice s3 a b] w λe w1=>∃ c,e=.returned (.int .u64 c)∧∀ b1 w2,b1=w1.heap.size→w2=w1.alloc (.cells #[.int .u64 c] 43)→∃ ap d f,∃ w3,(Builtin.append_ #[104,104] 104 #[.slice s3 a b,.slice (some ⟨b1,0,none⟩) 1 1]).run prog w2=.ok (.slice ap d f) w3∧R (.slice ap d f) w3):=by kernel_rfl
theorem qe (p0:aG) (p1:Int):fnW prog f182 [p0.val,.int .i64 p1] R w=(∀ b1 w1,b1=w.heap.size→w1=w.alloc (.cells p0.cells.toArray 55)→∃ a,w1.cell? ⟨b1,1,none⟩=some (.int .u64 a)∧Calls prog 201 #[.int .u64 a,.int .i64 p1] w1 λe w2=>∃ b c,e=.returned (.tuple #[.int .u64 b,.int .i64 c])∧R (.tuple #[.int .u64 b,.int .i64 c]) w2):=by kernel_rfl
theorem pF (p0:aG):fnW prog f205 [p0.val] R w=(∀ b1 w1,b1=w.heap.size→w1=w.alloc (.cells p0.cells.toArray 55)→∃ a,w1.cell? ⟨b1,1,none⟩=some (.int .u64 a)∧Calls prog 177 #[.int .u64 a] w1 λe w2=>∃ b c,e=.returned (.tuple #[.int .u64 b,.int .i64 c])∧(bif ((c:Int) != 0) then (R (.tuple #[.slice none 0 0,.int .i64 c]) w2) else (∀ b2 w3,b2=w2.heap.size→w3=w2.alloc (.cells #[.int .u64 b] 43)→∃ ap d f,∃ w4,(Builtin.append_ #[104,104] 104 #[.slice (some ⟨b2,0,none⟩) 1 1,.slice (some ⟨b1,2,none⟩) 7 7]).run prog w3=.ok (.slice ap d f) w4∧R (.tuple #[.slice ap d f,.int .i64 0]) w4))):=by kernel_rfl
end Go.Proofs.YtegepanmkjemjaaGreat
namespace Go.Proofs.YtegepanmkjemjaaGreat
open Go.Proofs.Tryz
open Go.Eng IntKind
variable (w:World) (R:Value→World→Prop)
theorem jW (p0:Nat) (p1:aC) (p2:aK):fnW prog f183 [(.pointer (some ⟨p0,0,none⟩)),p1.val,p2.val] R w=(∀ b1 w1,b1=w.heap.size→w1=w.alloc (.cells p1.cells.toArray 103)→∀ b2 w2,b2=w1.heap.size→w2=w1.alloc (.cells p2.cells.toArray 166)→∀ b3 w3,b3=w2.heap.size→w3=w2.alloc (.cells #[(.int .i64 0),(.int .i64 0),(.int .i64 0),(.int .i64 0),(.int .u64 0),(.int .u64 0),(.slice none 0 0),(.int .u64 0),(.int .i64 0)] 166)→∀ w4,w4=w3.drew→∃ Sx:World→Prop,Sx w4∧aN.ex λa=>(∀ u,Sx u→aD u ⟨p0,3,none⟩ 0 a.cells)∧aC.ex λr=>(∀ u,Sx u→aD u ⟨b1,0,none⟩ 0 r.cells)∧aK.ex λr1=>(∀ u,Sx u→aD u ⟨b2,0,none⟩ 0 r1.cells)∧Calls prog 202 #[a.val,r.val,(.bool true),r1.val] w4 λe w5=>aK.ex λb=>e=.returned b.val∧wrAt w5 ⟨b3,0,none⟩ 0 b.cells∧∀ w6,w6=puts w5 ⟨b3,0,none⟩ 0 b.cells→aK.ex λc=>aD w6 ⟨b3,0,none⟩ 0 c.cells∧w6=w6∧R c.val w6):=by kernel_rfl
theorem kY (p0:Nat) (p1:Option Addr) (a b:Nat) (p2:Int):fnW prog f184 [.pointer (some ⟨p0,0,none⟩),.slice p1 a b,.int .i64 p2] R w=(∀ b1 w1,b1=w.heap.size→w1=w.alloc (.cells #[.int .i64 0,.int .i64 0] 162)→∃ t,w1.cell? ⟨p0,7,none⟩=some (.pointer t)∧Calls prog 98 #[.pointer t,.slice p1 a b] w1 λe w2=>∃ c d f g,e=.returned (.tuple #[.slice c d f,.bool g])∧(bif (!g) then (wrAt w2 ⟨b1,0,none⟩ 0 [.int .i64 0,.int .i64 0]∧∀ w3,w3=puts w2 ⟨b1,0,none⟩ 0 [.int .i64 0,.int .i64 0]→aA.ex λi=>aD w3 ⟨b1,0,none⟩ 0 i.cells∧w3=w3∧R (.tuple #[.slice none 0 0,i.val,.bool false]) w3) else (Calls prog 203 #[.slice c d f] w2 λe w4=>∃ h,e=.returned (.int .i64 h)∧(bif ((h:Int) != 0) then (wrAt w4 ⟨b1,0,none⟩ 0 [.int .i64 h,.int .i64 p2]∧∀ w5,w5=puts w4 ⟨b1,0,none⟩ 0 [.int .i64 h,.int .i64 p2]→aA.ex λk=>aD w5 ⟨b1,0,none⟩ 0 k.cells∧w5=w5∧R (.tuple #[.slice none 0 0,k.val,.bool false]) w5) else (wrAt w4 ⟨b1,0,none⟩ 0 [.int .i64 0,.int .i64 0]∧∀ w6,w6=puts w4 ⟨b1,0,none⟩ 0 [.int .i64 0,.int .i64 0]→aA.ex λl=>aD w6 ⟨b1,0,none⟩ 0 l.cells∧w6=w6∧R (.tuple #[.slice c d f,l.val,.bool true]) w6))))):=by kernel_rfl
def cM (s0 s3:Addr) (s5:Option Addr) (a b:Nat) (c:Option Addr) (d f:Nat) (g h:Int) (j:LV):LV:=.pointer (some s0)::jq j 0 2 (.pointer (some s3)::jq j 2 1 (.slice s5 a b::jq j 3 8 (.slice c d f::.int .i64 g::.int .i64 h::jq j 11 21 [])))
def e7 (s5:Option Addr) (a b:Nat) (j:LV):LV:=jq j 0 5 (.slice s5 a b::jq j 5 32 [])
theorem ky (p0:Nat) (p1:aC):fnW prog f188 [.pointer (some ⟨p0,0,none⟩),p1.val] R w=(∀ b1 w1,b1=w.heap.size→w1=w.alloc (.cells p1.cells.toArray 103)→∃ a b c,w1.cell? ⟨p0,6,none⟩=some (.slice a b c)∧cA prog (.loop (sub (aE f188) [1,1,0,1,0,0])) (cM ⟨p0,0,none⟩ ⟨b1,0,none⟩ none 0 0 a b c (b:Nat) 0 (p1.val::undef::jz::uq 4 (jp ⟨p0,0,none⟩::jp ⟨p0,0,none⟩::jp ⟨p0,0,none⟩::jp ⟨p0,6,none⟩::uq 21 []))) (aI 0 (nx f188 [1,1,1] R)) w1):=by kernel_rfl
theorem gN (s0 s3:Addr) (s5:Option Addr) (a b:Nat) (c:Option Addr) (d f:Nat) (g h:Int) (j:LV) (N1:LV→World→Prop):W prog (sub (aE f188) [1,1,0,1,0,0]) (cM s0 s3 s5 a b c d f g h j) (seqQ N1 (aI 0 (nx f188 [1,1,1] R))) w=((bif (decide ((h:Int)<g)) then (idxS c d h 9 λad=>aG.ex λr=>aD w ad 0 r.cells∧∀ b1 w1,b1=w.heap.size→w1=w.alloc (.cells #[.int .i64 0,.int .u64 0,.int .u64 0,.int .u64 0,.int .u64 0,.int .u64 0,.int .u64 0,.int .u64 0,.int .u64 0] 55)→wrAt w1 ⟨b1,0,none⟩ 0 r.cells∧∀ w2,w2=puts w1 ⟨b1,0,none⟩ 0 r.cells→aG.ex λr1=>aD w2 ⟨b1,0,none⟩ 0 r1.cells∧Calls prog 205 #[r1.val] w2 λe w3=>∃ (i:Option Addr) (k l:Nat) (m:Int),e=.returned (.tuple #[.slice i k l,.int .i64 m])∧∀ w4,w4=w3.drew→∃ Sx:World→Prop,Sx w4∧aC.ex λr2=>(∀ u,Sx u→aD u s3 0 r2.cells)∧∃ n,(∀ u,Sx u→u.cell? ⟨b1,0,none⟩=some (.int .i64 n))∧Calls prog 95 #[.int .i64 n] w4 λe w5=>∃ (o:Int),e=.returned (.int .i64 o)∧Sx w5∧Calls prog 183 #[.pointer (some s0),r2.val,.agg #[.int .i64 2,.int .i64 0,.int .i64 o,.int .i64 0,.int .u64 0,.int .u64 0,.slice i k l,.int .u64 0,.int .i64 0]] w5 λe w6=>aK.ex λs=>e=.returned s.val∧Sx w6∧∀ b2 w7,b2=w6.heap.size→w7=w6.alloc (.cells s.cells.toArray 166)→Sx w7∧∃ (ap:Option Addr) (p q:Nat),∃ w8,(Builtin.append_ #[128,128] 128 #[.slice s5 a b,.slice (some ⟨b2,0,none⟩) 1 1]).run prog w7=.ok (.slice ap p q) w8∧Sx w8∧N1 (cM s0 s3 ap p q c d f g (i64.wrap (h+1)) (jq j 0 4 (jp ⟨b1,0,none⟩::js i k l::ji m::jq j 7 4 [jb (decide ((h:Int)<g)),jp ad,r.val,.tuple #[.slice i k l,.int .i64 m],r1.val,.tuple #[.slice i k l,.int .i64 m],js i k l,ji m,js s5 a b,jp s0,r2.val,jp ⟨b1,0,none⟩,ji n,ji o,js i k l,.agg #[.int .i64 2,.int .i64 0,.int .i64 o,.int .i64 0,.int .u64 0,.int .u64 0,.slice i k l,.int .u64 0,.int .i64 0],s.val,js (some ⟨b2,0,none⟩) 1 1,js ap p q,ji (i64.wrap (h+1)),jg j 31]))) w8) else (W prog (sub (aE f188) [1,1,1]) (e7 s5 a b (jp s0::jg j 0::jg j 1::jp s3::jq j 2 9 (js c d f::ji g::ji h::jb (decide ((h:Int)<g))::jq j 12 20 []))) (retQ prog f188 R) w))):=by kernel_rfl
theorem iQ (s5:Option Addr) (a b:Nat) (j:LV):W prog (sub (aE f188) [1,1,1]) (e7 s5 a b j) (retQ prog f188 R) w=(R (.slice s5 a b) w):=by kernel_rfl
theorem kz (p0:Nat) (p1:aC):fnW prog f189 [.pointer (some ⟨p0,0,none⟩),p1.val] R w=(∀ b1 w1,b1=w.heap.size→w1=w.alloc (.cells p1.cells.toArray 103)→∀ b2 w2,b2=w1.heap.size→w2=w1.alloc (.cells #[.int .i64 0,.int .i64 0,.int .i64 0,.int .i64 0,.int .u64 0,.int .u64 0,.slice none 0 0,.int .u64 0,.int .i64 0] 166)→∀ w3,w3=w2.drew→∃ Sx:World→Prop,Sx w3∧aC.ex λr=>(∀ u,Sx u→aD u ⟨b1,0,none⟩ 0 r.cells)∧∃ a,(∀ u,Sx u→u.cell? ⟨p0,0,none⟩=some (.int .i64 a))∧∃ b,(∀ u,Sx u→u.cell? ⟨p0,1,none⟩=some (.int .i64 b))∧(Calls prog 206 #[.int .i64 a] w3 λe w4=>∃ c,e=.returned (.int .i64 c)∧Sx w4∧∀ b3 w5,b3=w4.heap.size→w5=w4.alloc (.cells #[.int .u64 (u64.wrap b)] 43)→Sx w5∧Calls prog 183 #[.pointer (some ⟨p0,0,none⟩),r.val,.agg #[.int .i64 2,.int .i64 0,.int .i64 c,.int .i64 0,.int .u64 0,.int .u64 0,.slice (some ⟨b3,0,none⟩) 1 1,.int .u64 0,.int .i64 0]] w5 λe w6=>aK.ex λf=>e=.returned f.val∧Sx w6∧wrAt w6 ⟨b2,0,none⟩ 0 f.cells∧∀ w7,w7=puts w6 ⟨b2,0,none⟩ 0 f.cells→aK.ex λg=>aD w7 ⟨b2,0,none⟩ 0 g.cells∧w7=w7∧R g.val w7)∧(∀ b4 w8,b4=w3.heap.size→w8=w3.alloc (.cells #[.int .u64 (u64.wrap b)] 43)→Sx w8∧Calls prog 206 #[.int .i64 a] w8 λe w9=>∃ d,e=.returned (.int .i64 d)∧Sx w9∧Calls prog 183 #[.pointer (some ⟨p0,0,none⟩),r.val,.agg #[.int .i64 2,.int .i64 0,.int .i64 d,.int .i64 0,.int .u64 0,.int .u64 0,.slice (some ⟨b4,0,none⟩) 1 1,.int .u64 0,.int .i64 0]] w9 λe h=>aK.ex λi=>e=.returned i.val∧Sx h∧wrAt h ⟨b2,0,none⟩ 0 i.cells∧∀ k,k=puts h ⟨b2,0,none⟩ 0 i.cells→aK.ex λl=>aD k ⟨b2,0,none⟩ 0 l.cells∧k=k∧R l.val k)):=by kernel_rfl
def cX (s0 s3:Addr) (s5:Option Addr) (a b:Nat) (c:Option Addr) (d f:Nat) (g h:Int) (j:LV):LV:=.pointer (some s0)::jq j 0 2 (.pointer (some s3)::jq j 2 1 (.slice s5 a b::jq j 3 7 (.slice c d f::.int .i64 g::.int .i64 h::jq j 10 12 [])))
def fO (s5:Option Addr) (a b:Nat) (j:LV):LV:=jq j 0 5 (.slice s5 a b::jq j 5 22 [])
theorem ly (p0:Nat) (p1:aK):fnW prog f198 [.pointer (some ⟨p0,0,none⟩),p1.val] R w=(∀ b1 w1,b1=w.heap.size→w1=w.alloc (.cells p1.cells.toArray 166)→∃ a b c,w1.cell? ⟨p0,4,none⟩=some (.slice a b c)∧cA prog (.loop (sub (aE f198) [1,1,0,1,0,0])) (cX ⟨p0,0,none⟩ ⟨b1,0,none⟩ none 0 0 a b c (b:Nat) 0 (p1.val::undef::jz::uq 2 (jp ⟨p0,0,none⟩::jp ⟨p0,0,none⟩::jp ⟨p0,0,none⟩::jp ⟨p0,3,none⟩::jp ⟨p0,4,none⟩::uq 12 []))) (aI 0 (nx f198 [1,1,1] R)) w1):=by kernel_rfl
theorem im (s0 s3:Addr) (s5:Option Addr) (a b:Nat) (c:Option Addr) (d f:Nat) (g h:Int) (j:LV) (N1:LV→World→Prop):W prog (sub (aE f198) [1,1,0,1,0,0]) (cX s0 s3 s5 a b c d f g h j) (seqQ N1 (aI 0 (nx f198 [1,1,1] R))) w=((bif (decide ((h:Int)<g)) then (idxS c d h 3 λad=>aC.ex λr=>aD w ad 0 r.cells∧∀ b1 w1,b1=w.heap.size→w1=w.alloc (.cells #[.int .i64 0,.int .i64 0,.bool false] 103)→wrAt w1 ⟨b1,0,none⟩ 0 r.cells∧∀ w2,w2=puts w1 ⟨b1,0,none⟩ 0 r.cells→aC.ex λr1=>aD w2 ⟨b1,0,none⟩ 0 r1.cells∧aK.ex λr2=>aD w2 s3 0 r2.cells∧Calls prog 183 #[.pointer (some s0),r1.val,r2.val] w2 λe w3=>aK.ex λl=>e=.returned l.val∧∀ b2 w4,b2=w3.heap.size→w4=w3.alloc (.cells l.cells.toArray 166)→∃ ap i k,∃ w5,(Builtin.append_ #[128,128] 128 #[.slice s5 a b,.slice (some ⟨b2,0,none⟩) 1 1]).run prog w4=.ok (.slice ap i k) w5∧N1 (cX s0 s3 ap i k c d f g (i64.wrap (h+1)) (jq j 0 4 (jp ⟨b1,0,none⟩::jq j 5 5 [jb (decide ((h:Int)<g)),jp ad,r.val,js s5 a b,jp s0,r1.val,r2.val,l.val,js (some ⟨b2,0,none⟩) 1 1,js ap i k,ji (i64.wrap (h+1)),jg j 21]))) w5) else (W prog (sub (aE f198) [1,1,1]) (fO s5 a b (jp s0::jg j 0::jg j 1::jp s3::jq j 2 8 (js c d f::ji g::ji h::jb (decide ((h:Int)<g))::jq j 11 11 []))) (retQ prog f198 R) w))):=by kernel_rfl
theorem jx (s5:Option Addr) (a b:Nat) (j:LV):W prog (sub (aE f198) [1,1,1]) (fO s5 a b j) (retQ prog f198 R) w=(R (.slice s5 a b) w):=by kernel_rfl
end Go.Proofs.YtegepanmkjemjaaGreat
