/- A part of the proof. -/
import Derived.Test.YtafopfaomkklpaaGreatProg
import Derived.Test.YtafopfaomkklpaaGreatp03
import Derived.Test.YtafopfaomkklpaaGreatp31
import Derived.Test.YtafopfaomkklpaaGreatp13
set_option linter.unusedVariables false
namespace Go.Proofs.YtafopfaomkklpaaGreat
open Go.Proofs.Tryz
open Go.Eng IntKind
variable (w:World) (R:Value→World→Prop)
theorem qK (p0:iO) (p1:Option Addr) (a b:Nat):fnW prog f8 [p0.val,(.slice p1 a b)] R w=(∀ b1 w1,b1=w.heap.size→w1=w.alloc (.cells p0.cells.toArray 40)→∀ b2 w2,b2=w1.heap.size→w2=w1.alloc (.cells #[(.int .i64 0),(.int .i64 0),(.int .i64 0),(.slice none 0 0),(.int .i64 0),(.bool false),(.int .u64 0),(.slice none 0 0),(.slice none 0 0),(.slice none 0 0)] 36)→∃ c,w2.cell? ⟨b1,0,none⟩=some (.int .i64 c)∧(bif (decide ((c:Int)<1)) then (wrAt w2 ⟨b2,0,none⟩ 0 [(.int .i64 1),(.int .i64 0),(.int .i64 0),(.slice none 0 0),(.int .i64 0),(.bool false),(.int .u64 0),(.slice none 0 0),(.slice none 0 0),(.slice none 0 0)]∧∀ w3,w3=puts w2 ⟨b2,0,none⟩ 0 [(.int .i64 1),(.int .i64 0),(.int .i64 0),(.slice none 0 0),(.int .i64 0),(.bool false),(.int .u64 0),(.slice none 0 0),(.slice none 0 0),(.slice none 0 0)]→aB.ex λx=>aH w3 ⟨b2,0,none⟩ 0 x.cells∧w3=w3∧R (.tuple #[(.slice none 0 0),x.val,(.bool true)]) w3) else (∃ d,w2.cell? ⟨b1,0,none⟩=some (.int .i64 d)∧(bif (decide ((d:Int)>5)) then (wrAt w2 ⟨b2,0,none⟩ 0 [(.int .i64 1),(.int .i64 0),(.int .i64 0),(.slice none 0 0),(.int .i64 0),(.bool false),(.int .u64 0),(.slice none 0 0),(.slice none 0 0),(.slice none 0 0)]∧∀ w4,w4=puts w2 ⟨b2,0,none⟩ 0 [(.int .i64 1),(.int .i64 0),(.int .i64 0),(.slice none 0 0),(.int .i64 0),(.bool false),(.int .u64 0),(.slice none 0 0),(.slice none 0 0),(.slice none 0 0)]→aB.ex λy=>aH w4 ⟨b2,0,none⟩ 0 y.cells∧w4=w4∧R (.tuple #[(.slice none 0 0),y.val,(.bool true)]) w4) else (Calls prog 26 #[(.slice p1 a b)] w2 λe w5=>∃ (f:Option Addr),e=.returned (.pointer f)∧∃ g,w5.cell? ⟨b1,0,none⟩=some (.int .i64 g)∧Calls prog 28 #[(.int .i64 g)] w5 λe w6=>∃ (h:Option Addr) (i k:Nat),e=.returned (.slice h i k)∧Calls prog 27 #[(.pointer f),(.slice h i k)] w6 λe w7=>∃ (l:Option Addr) (m n:Nat) (o:Bool),e=.returned (.tuple #[(.slice l m n),(.bool o)])∧Calls prog 29 #[(.pointer f)] w7 λe w8=>∃ (p:Option Addr) (q r:Nat) (s:Bool),e=.returned (.tuple #[(.slice p q r),(.bool s)])∧(bif s then (wrAt w8 ⟨b2,0,none⟩ 0 [(.int .i64 0),(.int .i64 0),(.int .i64 0),(.slice none 0 0),(.int .i64 0),(.bool false),(.int .u64 0),(.slice none 0 0),(.slice none 0 0),(.slice none 0 0)]∧∀ w9,w9=puts w8 ⟨b2,0,none⟩ 0 [(.int .i64 0),(.int .i64 0),(.int .i64 0),(.slice none 0 0),(.int .i64 0),(.bool false),(.int .u64 0),(.slice none 0 0),(.slice none 0 0),(.slice none 0 0)]→aB.ex λz=>aH w9 ⟨b2,0,none⟩ 0 z.cells∧w9=w9∧R (.tuple #[(.slice p q r),z.val,(.bool false)]) w9) else ((bif (!o) then (wrAt w8 ⟨b2,0,none⟩ 0 [(.int .i64 6),(.int .i64 0),(.int .i64 0),(.slice none 0 0),(.int .i64 0),(.bool false),(.int .u64 0),(.slice none 0 0),(.slice none 0 0),(.slice none 0 0)]∧∀ aa,aa=puts w8 ⟨b2,0,none⟩ 0 [(.int .i64 6),(.int .i64 0),(.int .i64 0),(.slice none 0 0),(.int .i64 0),(.bool false),(.int .u64 0),(.slice none 0 0),(.slice none 0 0),(.slice none 0 0)]→aB.ex λab=>aH aa ⟨b2,0,none⟩ 0 ab.cells∧aa=aa∧R (.tuple #[(.slice none 0 0),ab.val,(.bool true)]) aa) else (Calls prog 30 #[(.pointer f)] w8 λe ac=>∃ (t:Bool),e=.returned (.bool t)∧(bif t then (wrAt ac ⟨b2,0,none⟩ 0 [(.int .i64 6),(.int .i64 0),(.int .i64 0),(.slice none 0 0),(.int .i64 0),(.bool false),(.int .u64 0),(.slice none 0 0),(.slice none 0 0),(.slice none 0 0)]∧∀ ad,ad=puts ac ⟨b2,0,none⟩ 0 [(.int .i64 6),(.int .i64 0),(.int .i64 0),(.slice none 0 0),(.int .i64 0),(.bool false),(.int .u64 0),(.slice none 0 0),(.slice none 0 0),(.slice none 0 0)]→aB.ex λae=>aH ad ⟨b2,0,none⟩ 0 ae.cells∧ad=ad∧R (.tuple #[(.slice none 0 0),ae.val,(.bool true)]) ad) else (∃ v,ac.cell? ⟨b1,0,none⟩=some (.int .i64 v)∧Calls prog 15 #[(.int .i64 v),(.slice l m n)] ac λe af=>aB.ex λag=>e=.returned ag.val∧wrAt af ⟨b2,0,none⟩ 0 ag.cells∧∀ ah,ah=puts af ⟨b2,0,none⟩ 0 ag.cells→aB.ex λai=>aH ah ⟨b2,0,none⟩ 0 ai.cells∧ah=ah∧R (.tuple #[(.slice none 0 0),ai.val,(.bool true)]) ah))))))))))):=by kernel_rfl
theorem Ax (p0:Option Addr) (a b:Nat):fnW prog f26 [.slice p0 a b] R w=(∀ b1 w1,b1=w.heap.size→w1=w.alloc (.cells #[.slice p0 a b,.slice none 0 0,.bool false] 176)→R (.pointer (some ⟨b1,0,none⟩)) w1):=by kernel_rfl
theorem uh (p0:Nat) (p1:Option Addr) (a b:Nat):fnW prog f27 [.pointer (some ⟨p0,0,none⟩),.slice p1 a b] R w=((bif (((a:Nat):Int) == 0) then (R (.tuple #[.slice none 0 0,.bool true]) w) else (∃ c d f,w.cell? ⟨p0,0,none⟩=some (.slice c d f)∧(bif (((d:Nat):Int) == 0) then ((∃ u,w.cell? ⟨p0,1,none⟩=some u)∧w.frozen? ⟨p0,1,none⟩=false∧∀ w1,w1=w.setCell ⟨p0,1,none⟩ (.slice p1 a b)→R (.tuple #[.slice none 0 0,.bool false]) w1) else (∃ g h i,w.cell? ⟨p0,0,none⟩=some (.slice g h i)∧idxS g h 0 1 λad=>∃ x k l,w.cell? ad=some (.slice x k l)∧Calls prog 82 #[.slice p1 a b,.slice x k l] w λe w2=>∃ m,e=.returned (.bool m)∧(bif (!m) then ((∃ u,w2.cell? ⟨p0,2,none⟩=some u)∧w2.frozen? ⟨p0,2,none⟩=false∧∀ w3,w3=w2.setCell ⟨p0,2,none⟩ (.bool true)→R (.tuple #[.slice none 0 0,.bool false]) w3) else (∀ w4,w4=w2.drew→∃ Sx:World→Prop,Sx w4∧∃ n o p,(∀ u,Sx u→u.cell? ⟨p0,0,none⟩=some (.slice n o p))∧idxS n o 0 1 λy=>∃ x1 q r,(∀ u,Sx u→u.cell? y=some (.slice x1 q r))∧∃ s t v,(∀ u,Sx u→u.cell? ⟨p0,0,none⟩=some (.slice s t v))∧sl3 s t v 1 (t:Nat) (v:Nat) 1 λxa xl xc=>(∃ u,w4.cell? ⟨p0,0,none⟩=some u)∧w4.frozen? ⟨p0,0,none⟩=false∧∀ w5,w5=w4.setCell ⟨p0,0,none⟩ (.slice xa xl xc)→R (.tuple #[.slice x1 q r,.bool true]) w5))))))):=by kernel_rfl
def iw (s3:Option Addr) (a b:Nat) (s5 s6:Int) (j:LV):LV:=jq j 0 3 (.slice s3 a b::jq j 3 1 (.int .i64 s5::.int .i64 s6::jq j 4 9 []))
def nD (s3:Option Addr) (a b:Nat) (j:LV):LV:=jq j 0 3 (.slice s3 a b::jq j 3 12 [])
theorem uH (p0:Int):fnW prog f28 [.int .i64 p0] R w=(bT prog (.loop (sub (aA f28) [1,1,0,1,0,0])) (iw none 0 0 p0 0 (ji p0::undef::jz::uq 10 [])) (aI 0 (nx f28 [1,1,1] R)) w):=by kernel_rfl
theorem px (s3:Option Addr) (a b:Nat) (s5 s6:Int) (j:LV) (N1:LV→World→Prop):W prog (sub (aA f28) [1,1,0,1,0,0]) (iw s3 a b s5 s6 j) (seqQ N1 (aI 0 (nx f28 [1,1,1] R))) w=((bif (decide ((s6:Int)<s5)) then (∀ b1 w1,b1=w.heap.size→w1=w.alloc (.cells #[.int .i64 1,.int .i64 s6,.int .i64 0,.int .i64 32,.int .u64 0,.int .u64 0,.slice none 0 0,.int .u64 0,.int .i64 0] 91)→∃ ap c d,∃ w2,(Builtin.append_ #[27,27] 27 #[.slice s3 a b,.slice (some ⟨b1,0,none⟩) 1 1]).run prog w1=.ok (.slice ap c d) w2∧N1 (iw ap c d s5 (i64.wrap (s6+1)) [jg j 0,jg j 1,jg j 2,ji s6,jb (decide ((s6:Int)<s5)),ji s6,js s3 a b,ji s6,.agg #[.int .i64 1,.int .i64 s6,.int .i64 0,.int .i64 32,.int .u64 0,.int .u64 0,.slice none 0 0,.int .u64 0,.int .i64 0],js (some ⟨b1,0,none⟩) 1 1,js ap c d,ji (i64.wrap (s6+1)),jg j 12]) w2) else (W prog (sub (aA f28) [1,1,1]) (nD s3 a b (jq j 0 4 (ji s5::ji s6::jb (decide ((s6:Int)<s5))::jq j 5 8 []))) (retQ prog f28 R) w))):=by kernel_rfl
theorem qX (s3:Option Addr) (a b:Nat) (j:LV):W prog (sub (aA f28) [1,1,1]) (nD s3 a b j) (retQ prog f28 R) w=(R (.slice s3 a b) w):=by kernel_rfl
theorem tl (p0:Nat):fnW prog f29 [.pointer (some ⟨p0,0,none⟩)] R w=(∀ w1,w1=w.drew→∃ Sx:World→Prop,Sx w1∧∃ a b c,(∀ u,Sx u→u.cell? ⟨p0,1,none⟩=some (.slice a b c))∧∃ d f g,(∀ u,Sx u→u.cell? ⟨p0,1,none⟩=some (.slice d f g))∧R (.tuple #[.slice a b c,.bool (decide (((f:Nat):Int)>0))]) w1):=by kernel_rfl
theorem sf (p0:Nat):fnW prog f30 [.pointer (some ⟨p0,0,none⟩)] R w=(∃ a,w.cell? ⟨p0,2,none⟩=some (.bool a)∧(bif a then (R (.bool true) w) else (∃ b c d,w.cell? ⟨p0,0,none⟩=some (.slice b c d)∧R (.bool (decide (((c:Nat):Int)>0))) w))):=by kernel_rfl
def mK (s1:Option Addr) (a b:Nat) (c:Option Addr) (d f:Nat) (g h:Int) (j:LV):LV:=jq j 0 1 (.slice s1 a b::jq j 1 10 (.slice c d f::.int .i64 g::.int .i64 h::jq j 11 12 []))
def ui  (j:LV):LV:=jq j 0 27 []
theorem Ay (p0:Option Addr) (a b:Nat) (p1:Option Addr) (c d:Nat):fnW prog f82 [.slice p0 a b,.slice p1 c d] R w=((bif (((a:Nat):Int) != (c:Nat)) then (R (.bool false) w) else (bT prog (.loop (sub (aA f82) [1,1,0,1,0,0])) (mK p1 c d p0 a b (a:Nat) 0 (js p0 a b::uq 2 (jb false::uq 2 (js p0 a b::jn a::js p1 c d::jn c::jb (((a:Nat):Int) != (c:Nat))::uq 12 [])))) (aI 0 (nx f82 [1,1,1] R)) w))):=by kernel_rfl
theorem tm (s1:Option Addr) (a b:Nat) (c:Option Addr) (d f:Nat) (g h:Int) (j:LV) (N1:LV→World→Prop):W prog (sub (aA f82) [1,1,0,1,0,0]) (mK s1 a b c d f g h j) (seqQ N1 (aI 0 (nx f82 [1,1,1] R))) w=((bif (decide ((h:Int)<g)) then (idxS c d h 9 λad=>bA.ex λr=>aH w ad 0 r.cells∧∀ b1 w1,b1=w.heap.size→w1=w.alloc (.cells #[.int .i64 0,.int .i64 0,.int .i64 0,.int .i64 0,.int .u64 0,.int .u64 0,.slice none 0 0,.int .u64 0,.int .i64 0] 91)→wrAt w1 ⟨b1,0,none⟩ 0 r.cells∧∀ w2,w2=puts w1 ⟨b1,0,none⟩ 0 r.cells→∀ w3,w3=w2.drew→∃ Sx:World→Prop,Sx w3∧bA.ex λr1=>(∀ u,Sx u→aH u ⟨b1,0,none⟩ 0 r1.cells)∧idxS s1 a h 2 λk=>aY.ex λr2=>(∀ u,Sx u→aH u k 0 r2.cells)∧Calls prog 122 #[r1.val,r2.val] w3 λe w4=>∃ i,e=.returned (.bool i)∧(bif (!i) then (R (.bool false) w4) else (N1 (mK s1 a b c d f g (i64.wrap (h+1)) (jq j 0 4 (ji h::jp ⟨b1,0,none⟩::jq j 6 5 [jb (decide ((h:Int)<g)),ji h,jp ad,r.val,r1.val,js s1 a b,ji h,jp k,r2.val,jb i,jb (!i),ji (i64.wrap (h+1))]))) w4))) else (W prog (sub (aA f82) [1,1,1]) (ui  (jg j 0::js s1 a b::jq j 1 10 (js c d f::ji g::ji h::jb (decide ((h:Int)<g))::jq j 12 11 []))) (retQ prog f82 R) w))):=by kernel_rfl
theorem vg  (j:LV):W prog (sub (aA f82) [1,1,1]) (ui  j) (retQ prog f82 R) w=(R (.bool true) w):=by kernel_rfl
theorem zo (p0:bA) (p1:aY):fnW prog f122 [p0.val,p1.val] R w=(∀ b1 w1,b1=w.heap.size→w1=w.alloc (.cells p0.cells.toArray 91)→∀ b2 w2,b2=w1.heap.size→w2=w1.alloc (.cells p1.cells.toArray 53)→∃ a,w2.cell? ⟨b2,0,none⟩=some (.int .i64 a)∧(bif ((a:Int) == 0) then (∀ w3,w3=w2.drew→∃ Sx:World→Prop,Sx w3∧∃ b c d,(∀ u,Sx u→u.cell? ⟨b2,1,none⟩=some (.slice b c d))∧bA.ex λr=>(∀ u,Sx u→aH u ⟨b1,0,none⟩ 0 r.cells)∧Calls prog 149 #[r.val] w3 λe w4=>∃ f,e=.returned (.int .i64 f)∧Sx w4∧R (.bool (((c:Nat):Int) == f)) w4) else ((bif ((a:Int) == 4) then ((bif ((a:Int) == 4) then (∃ g h i,w2.cell? ⟨b2,1,none⟩=some (.slice g h i)∧R (.bool (((h:Nat):Int) == 0)) w2) else (R (.bool false) w2))) else ((bif ((a:Int) == 5) then (∃ k l m,w2.cell? ⟨b2,1,none⟩=some (.slice k l m)∧R (.bool (((l:Nat):Int) == 0)) w2) else (R (.bool false) w2))))))):=by kernel_rfl
theorem wx (p0:bA):fnW prog f149 [p0.val] R w=(∀ b1 w1,b1=w.heap.size→w1=w.alloc (.cells p0.cells.toArray 91)→∃ a,w1.cell? ⟨b1,0,none⟩=some (.int .i64 a)∧(bif ((a:Int) == 1) then (∃ N_,w1.cell? ⟨b1,3,none⟩=some (.int .i64 N_)∧R (.int .i64 N_) w1) else ((bif ((a:Int) == 3) then ((bif ((a:Int) == 3) then (R (.int .i64 1) w1) else (R (.int .i64 0) w1))) else ((bif ((a:Int) == 4) then (R (.int .i64 1) w1) else (R (.int .i64 0) w1))))))):=by kernel_rfl
end Go.Proofs.YtafopfaomkklpaaGreat
namespace Go.Proofs.YtafopfaomkklpaaGreat
open Go.Eng
theorem Cq (w:World) {v:bA} (hk:v.Kind=1):Does 149 [v.val] w λx w'=>x=.int .i64 v.N∧New w w':=by
 refine does Tryz.func149 ?_
 rw [wx]
 rintro b1 w1 hb1 hw1
 obtain ⟨hz1,hn1⟩:=aR hb1 hw1
 have hz1:Blk w1 b1 v.cells TVb:=hz1
 clear hw1
 exact ⟨_,hz1.cell (i:=0) rfl,bC (λe=>⟨_,hz1.cell (i:=3) rfl,rfl,hn1⟩) (λe=>absurd hk e)⟩
theorem DU {v:bA} (hk:v.Kind=1):retV v=v.N:=by unfold retV;rw [if_pos hk]
theorem GP {w:World} {v:bA} (hk:v.Kind=1) {d:aY} {x:Done} (hd:wP w d x):Does 122 [v.val,d.val] w λy w'=>∃ b:Bool,y=.bool b∧(b=true↔fit1 (retV v) x)∧New w w':=by
 refine does Tryz.func122 ?_
 rw [zo]
 rintro b1 w1 hb1 hw1
 obtain ⟨hz1,hn1⟩:=aR hb1 hw1
 have hz1:Blk w1 b1 v.cells TVb:=hz1
 clear hw1
 rintro b2 w2 hb2 hw2
 obtain ⟨hz2,hn2⟩:=aR hb2 hw2
 have hz2:Blk w2 b2 d.cells 53:=hz2
 clear hw2
 have hz12:=New.blk hn2 hz1
 have hn02:=hn1.new hn2
 have hcode:=hd.code
 have hwl:=hd.len
 rw [DU hk]
 unfold fit1
 refine ⟨_,hz2.cell (i:=0) rfl,bC (λh0=>?_) (λh0=>bC (λh4=>bC (λ_=>⟨_,_,_,hz2.cell (i:=1) rfl,_,rfl,?_,hn02⟩) (λe=>absurd h4 e)) (λh4=>bC (λh5=>⟨_,_,_,hz2.cell (i:=1) rfl,_,rfl,?_,hn02⟩) (λh5=>⟨_,rfl,?_,hn02⟩)))⟩
 ·rintro w3 hw3
  have hn3:New w2 w3:=by rw [hw3];exact aW _
  clear hw3
  refine ⟨λy=>New w3 y,Keep.refl _ _,_,_,_,λy hy=>(New.blk hy (New.blk hn3 hz2)).cell (i:=1) rfl,bA.mk_ex v ⟨λy hy=>aK (New.blk hy (New.blk hn3 hz12)) rfl,?_⟩⟩
  refine aG (Cq w3 hk) ?_
  rintro xv w4 ⟨rfl,hn4⟩
  refine ⟨_,rfl,hn4,_,rfl,?_,(hn02.new hn3).new hn4⟩
  rw [beq_iff_eq]
  omega
 ·rw [beq_iff_eq];omega
 ·rw [beq_iff_eq];omega
 ·refine ⟨λe=>(nomatch e),λe=>?_⟩
  omega
set_option maxHeartbeats 1000000 in
theorem HU {w:World} {a:Option Addr} {n cap:Nat} {l:List bA} (hn:n=l.length) (hl:Rd w a (kQ l).flatten) (hk:∀ v ∈ l,v.Kind=1) {a2:Option Addr} {n2 cap2:Nat} {raw:List aY} {ds:List Done} (hn2:n2=raw.length) (hr:Rd w a2 (gS raw).flatten) (hd:Ds w raw ds) (hfew:raw.length≤1000000) :
  Does 82 [.slice a n cap,.slice a2 n2 cap2] w (FitR w (l.map retV) ds):=by
 subst hn hn2
 refine does Tryz.func82 ?_
 rw [Ay]
 refine bE (λe=>⟨false,rfl,?_,Keep.refl _ _⟩) (λe=>?_)
 ·refine ⟨λh=>(nomatch h),λh=>?_⟩
  have:=h.1
  rw [List.length_map,←hd.1] at this
  omega
 have hll:l.length=raw.length:=by omega
 refine aS mix (λm env u=>∃ (i:Nat) (jj:List Value),m=raw.length - i∧i≤raw.length∧env=mK a2 raw.length cap2 a l.length cap l.length i jj∧New w u∧∀ (k:Nat) (r:Int) (d:Done),k<i→(l.map retV)[k]?=some r→ds[k]?=some d→fit1 r d) raw.length
  ⟨0,_,by omega,by omega,rfl,Keep.refl _ _,λk r d h=>by omega⟩ ?_
 rintro m env u ⟨i,jj,rfl,hi,rfl,hnu,hok⟩
 rw [tm]
 refine aE (λhq=>?_) (λhq=>?_)
 ·have hlt:i<raw.length:=by omega
  have hg:raw[i]?=some raw[i]:=List.getElem?_eq_getElem hlt
  have hgl:l[i]?=some l[i]:=List.getElem?_eq_getElem (by omega)
  have hkv:l[i].Kind=1:=hk _ (List.getElem_mem (by omega))
  obtain ⟨x,hgd⟩:∃ x,ds[i]?=some x:=⟨_,List.getElem?_eq_getElem (by rw [←hd.1];exact hlt)⟩
  have hda:=hd.2 i _ _ hg hgd
  generalize raw[i]=d at hg hda
  generalize l[i]=v at hgl hkv
  have hrv:(l.map retV)[i]?=some (retV v):=by rw [List.getElem?_map,hgl];rfl
  refine fY (cells:=bA.cells) bA.len (by omega) (hl.new hnu) hgl rfl rfl λb o hcc _=>bA.mk_ex v ⟨hcc,?_⟩
  refine kE (vs:=v.cells) rfl (bA.single _) λb1 w2 hb1 hz2 hn2=>?_
  have hz2:Blk w2 b1 v.cells TVb:=hz2
  rintro w3 hw3
  have hn3:New w2 w3:=by rw [hw3];exact aW _
  clear hw3
  have hn03:=(hnu.new hn2).new hn3
  refine ⟨λy=>New w3 y,Keep.refl _ _,bA.mk_ex v ⟨λy hy=>aK (New.blk hy (New.blk hn3 hz2)) rfl,?_⟩⟩
  refine vZ (cells:=aY.cells) aY.len (by omega) (S:=λy=>New w3 y) (λy hy=>hr.new (hn03.new hy)) (Keep.refl _ _) hg rfl rfl ?_
  rintro b o hcc
  refine aY.mk_ex d ⟨λy hy=>fM (hcc y hy),?_⟩
  refine aG (GP hkv (hda.new hn03)) ?_
  rintro y w4 ⟨fb,rfl,hfb,hn4⟩
  refine ⟨_,rfl,?_⟩
  cases fb
  ·exact cG rfl ⟨false,rfl,⟨λe=>(nomatch e),λe=>by have:=hfb.2 (e.2 i _ _ hrv hgd);cases this⟩,hn03.new hn4⟩
  ·refine dM rfl ?_
   rw [w64 (x:=(i:Int)+1) (by omega) (by omega)]
   refine ⟨raw.length - (i+1),by omega,i+1,_,rfl,by omega,rfl,hn03.new hn4,λk r d hk h1 h2=>?_⟩
   by_cases e:k=i
   ·subst e
    rw [hrv] at h1
    rw [hgd] at h2
    cases h1;cases h2
    exact hfb.1 rfl
   ·exact hok k r d (by omega) h1 h2
 ·rw [vg]
  refine ⟨true,rfl,⟨λ_=>⟨by rw [List.length_map,←hd.1];exact hll,λk r d h1 h2=>hok k r d ?_ h1 h2⟩,λ_=>rfl⟩,hnu⟩
  have:=dF h2
  have:=hd.1
  omega
def BatR (w:World) (n:Nat) (x:Value) (w':World):Prop:=∃ (a:Option Addr) (cap:Nat),x=.slice a n cap∧Rd w' a (kQ (rdB n)).flatten∧(∀ k,isB a k→w.heap.size≤k∧k<w'.heap.size)∧New w w'
theorem GQ (w:World) {n:Nat} (hn:n≤5):Does 28 [.int .i64 n] w (BatR w n):=by
 refine does Tryz.func28 ?_
 rw [uH]
 refine aS mix (λm env u=>∃ (i:Nat) (a:Option Addr) (cap:Nat) (jj:List Value),m=n - i∧i≤n∧env=iw a i cap n i jj∧New w u∧Owns u TVb 9 a i cap (kQ (rdB i)).flatten∧∀ k,isB a k→w.heap.size≤k) n
  ⟨0,none,0,_,by omega,by omega,rfl,Keep.refl _ _,Owns.nil _ _ _,λk hk=>absurd hk noB⟩ ?_
 rintro m env u ⟨i,a,cap,jj,rfl,hi,rfl,hnu,ho,hfr⟩
 rw [px]
 refine aE (λhq=>?_) (λhq=>?_)
 ·rintro b1 w2 hb1 hw2
  obtain ⟨hz2,hn2⟩:=aR hb1 hw2
  have hz2:Blk w2 b1 (rdV i 0 32).cells TVb:=hz2
  clear hw2
  have hs:=hnu.size
  have hs2:=hn2.size
  refine Fy (m:=1) (l2:=[rdV i 0 32]) (Owns.new hn2 ho) (eV hz2 rfl) rfl (by omega) λap cap' w3 ho3 hk3 hap=>?_
  rw [←Bc] at ho3
  rw [w64 (x:=(i:Int)+1) (by omega) (by omega)]
  refine ⟨n - (i+1),by omega,i+1,ap,cap',_,rfl,by omega,rfl,(hnu.new hn2).trans hk3 λk hlt hk=>?_,ho3,λk hk=>?_⟩
  ·have:=hfr k hk;omega
  ·rcases hap k hk with e | e
   ·exact hfr k e
   ·omega
 ·have hin:i=n:=by omega
  subst hin
  rw [qX]
  exact ⟨a,cap,rfl,ho.rd,λk hk=>⟨hfr k hk,Owns.lt ho hk⟩,hnu⟩
abbrev TTt:TypeId:=176
def ttC (ga:Option Addr) (gn gc:Nat) (aa:Option Addr) (an ac:Nat) (wrong:Bool):List Value:=[.slice ga gn gc,.slice aa an ac,.bool wrong]
def Iw (w:World) (b:Nat) (ga:Option Addr) (gn gc:Nat) (a:Option Addr) (n cap:Nat) (rs:List Int) (xa:Option Addr) (xl xc:Nat) (ds:List Done) (x:Value) (w':World):Prop:=
 Keep (λk=>k=b) w w'∧
  ((gn=0∧x=.tuple #[.slice none 0 0,.bool false]∧Blk w' b (ttC ga gn gc a n cap false) TTt)∨
   (gn≠0∧fitM rs ds∧x=.tuple #[.slice xa xl xc,.bool true]∧∃ ga' gc',Blk w' b (ttC ga' (gn - 1) gc' none 0 0 false) TTt)∨
   (gn≠0∧¬ fitM rs ds∧x=.tuple #[.slice none 0 0,.bool false]∧Blk w' b (ttC ga gn gc none 0 0 true) TTt))
theorem Fb {w0 w:World} {b:Nat} (h0w:New w0 w) (hb:w0.heap.size≤b) {ga:Option Addr} {gn gc:Nat} (hgc:gn≤gc) (hz:Blk w b (ttC ga gn gc none 0 0 false) TTt) {a:Option Addr} {n cap:Nat} {l:List bA} (hn:n=l.length) (hl:Rd w a (kQ l).flatten) (hkd:∀ v ∈ l,v.Kind=1) (h0:0<n) {xa:Option Addr} {xl xc:Nat} {raw:List aY} {ds:List Done} (hg:gn≠0→Got w0 ga gn xa xl xc raw ds) :
  Does 27 [.pointer (some ⟨b,0,none⟩),.slice a n cap] w (Iw w b ga gn gc a n cap (l.map retV) xa xl xc ds):=by
 refine does Tryz.func27 ?_
 rw [uh]
 refine bC (λe=>by omega) (λ_=>⟨_,_,_,hz.cell (i:=0) rfl,bC (λe=>?_) (λe=>?_)⟩)
 ·refine ⟨⟨_,hz.cell (i:=1) rfl⟩,hz.frozen,?_⟩
  rintro w2 hw2
  have hk2:Keep (λk=>k=b) w w2:=by rw [hw2];exact aN _ _ _ _
  have hz2:=hz.setCell (i:=1) (.slice a n cap)
  have hw2':w2=w.setCell ⟨b,1,none⟩ (.slice a n cap):=hw2
  rw [←hw2'] at hz2
  exact ⟨hk2,.inl ⟨by omega,rfl,hz2⟩⟩
 ·have hgn:gn≠0:=by omega
  have hg:=hg hgn
  have hgw:=hg.new h0w
  obtain ⟨gb,go,rfl,hgc'⟩:=hg.one
  have hgp:=hg.pos
  refine ⟨_,_,_,hz.cell (i:=0) rfl,bG (by omega) (by omega) ⟨xa,xl,xc,rh h0w hgc' id,?_⟩⟩
  refine aG (HU hn hl hkd hgw.len hgw.rd hgw.ds hgw.few) ?_
  rintro x w5 ⟨fb,rfl,hfit,hn5⟩
  have hz5:=New.blk hn5 hz
  refine ⟨_,rfl,?_⟩
  cases fb
  ·refine cG rfl ⟨⟨_,hz5.cell (i:=2) rfl⟩,hz5.frozen,?_⟩
   rintro w6 hw6
   have hk6:Keep (λk=>k=b) w5 w6:=by rw [hw6];exact aN _ _ _ _
   have hz6:=hz5.setCell (i:=2) (.bool true)
   have hw6':w6=w5.setCell ⟨b,2,none⟩ (.bool true):=hw6
   rw [←hw6'] at hz6
   exact ⟨(Keep.of_new hn5).trans hk6 λ_ _ e=>e,.inr (.inr ⟨hgn,λe=>(by have:=hfit.2 e;cases this),rfl,hz6⟩)⟩
  ·refine dM rfl ?_
   rintro w6 hw6
   have hn6:New w5 w6:=by rw [hw6];exact aW _
   clear hw6
   have hz6:=New.blk hn6 hz5
   refine ⟨λy=>y=w6,rfl,_,_,_,λy hy=>by rw [hy];exact hz6.cell (i:=0) rfl,bG (by omega) (by omega) ⟨xa,xl,xc,λy hy=>by rw [hy];exact rh ((h0w.new hn5).new hn6) hgc' id,_,_,_,λy hy=>by rw [hy];exact hz6.cell (i:=0) rfl,?_⟩⟩
   refine Fk (by omega) (by omega) (by omega) (by omega) hgc λga' hga'=>?_
   refine ⟨⟨_,hz6.cell (i:=0) rfl⟩,hz6.frozen,?_⟩
   rintro w7 hw7
   have hk7:Keep (λk=>k=b) w6 w7:=by rw [hw7];exact aN _ _ _ _
   have hz7:=hz6.setCell (i:=0) (.slice ga' (gn - 1) (gc - 1))
   have hw7':w7=w6.setCell ⟨b,0,none⟩ (.slice ga' (gn - 1) (gc - 1)):=hw7
   rw [←hw7'] at hz7
   exact ⟨(Keep.of_new (hn5.new hn6)).trans hk7 λ_ _ e=>e,.inr (.inl ⟨hgn,hfit.1 rfl,rfl,ga',_,hz7⟩)⟩
theorem HV (w:World) (ga:Option Addr) (gn gc:Nat):Does 26 [.slice ga gn gc] w λx w'=>∃ b,x=.pointer (some ⟨b,0,none⟩)∧b=w.heap.size∧Blk w' b (ttC ga gn gc none 0 0 false) TTt∧New w w':=by
 refine does Tryz.func26 ?_
 rw [Ax]
 rintro b1 w1 hb1 hw1
 obtain ⟨hz1,hn1⟩:=aR hb1 hw1
 exact ⟨b1,rfl,hb1,hz1,hn1⟩
theorem wy {w:World} {b:Nat} {ga:Option Addr} {gn gc:Nat} {aa:Option Addr} {an ac:Nat} {bad:Bool} (hz:Blk w b (ttC ga gn gc aa an ac bad) TTt):Does 29 [.pointer (some ⟨b,0,none⟩)] w λx w'=>x=.tuple #[.slice aa an ac,.bool (decide ((an:Int)>0))]∧New w w':=by
 refine does Tryz.func29 ?_
 rw [tl]
 rintro w1 hw1
 have hn1:New w w1:=by rw [hw1];exact aW _
 have hz1:=New.blk hn1 hz
 exact ⟨λy=>y=w1,rfl,_,_,_,λy hy=>by rw [hy];exact hz1.cell (i:=1) rfl,_,_,_,λy hy=>by rw [hy];exact hz1.cell (i:=1) rfl,rfl,hn1⟩
theorem Az {w:World} {b:Nat} {ga:Option Addr} {gn gc:Nat} {aa:Option Addr} {an ac:Nat} {bad:Bool} (hz:Blk w b (ttC ga gn gc aa an ac bad) TTt):Does 30 [.pointer (some ⟨b,0,none⟩)] w λx w'=>x=.bool (bad || decide ((gn:Int)>0))∧New w w':=by
 refine does Tryz.func30 ?_
 rw [sf]
 refine ⟨bad,hz.cell (i:=2) rfl,?_⟩
 cases bad
 ·exact dM rfl ⟨_,_,_,hz.cell (i:=0) rfl,rfl,Keep.refl _ _⟩
 ·exact cG rfl ⟨rfl,Keep.refl _ _⟩
theorem Fc {w w':World} {M:Nat→Prop} {a:Option Addr} {xs:List Value} {n0:Nat} (hk:Keep M w w') (h:Rd w a xs) (hf:xs=[]∨Fr0 n0 a) (hM:∀ k,M k→k<n0):Rd w' a xs:=by
 rcases hf with e | hf
 ·rw [e];exact .inl rfl
 ·exact ko hk h λk _ hb hm=>by have:=hf k hb;have:=hM k hm;omega
theorem lN.keep {w w':World} {M:Nat→Prop} {r:aB} {f:Fnd} {n0:Nat} (h:lN w r f) (hf:Frs n0 r f) (hk:Keep M w w') (hM:∀ k,M k→k<n0):lN w' r f:=by
 obtain ⟨N,hv⟩:=h.view
 exact ⟨h.code,h.number,⟨N,hv.num,hv.len,hv.cap,Fc hk hv.rd hf.view hM,hv.off,hv.small⟩,h.status,h.opened,h.hint,⟨Fc hk h.boots.1 hf.boots hM,h.boots.2⟩,⟨Fc hk h.keys.1 hf.keys hM,h.keys.2⟩,⟨Fc hk h.doors.1 hf.doors hM,h.doors.2⟩⟩
def FJ (w':World) (r:aB) (n gn:Nat) (ds:List Done):Prop:=
 (fitM ((rdB n).map retV) ds∧gn=1∧lN w' r (qH n ds))∨(¬ (fitM ((rdB n).map retV) ds∧gn=1)∧lN w' r (Fnd.err 6))
def Fd (w:World) (n gn:Nat) (ds:List Done) (x:Value) (w':World):Prop:=New w w'∧
 ((gn=0∧∃ (a:Option Addr) (cap:Nat) (r:aB),x=.tuple #[.slice a n cap,r.val,.bool false]∧Rd w' a (kQ (rdB n)).flatten∧∀ k,isB a k→w.heap.size≤k∧k<w'.heap.size)∨
  (gn≠0∧∃ r:aB,x=.tuple #[.slice none 0 0,r.val,.bool true]∧FJ w' r n gn ds))
theorem By {n:Nat}:∀ v ∈ rdB n,v.Kind=1:=λv hv=>by
 obtain ⟨i,_,rfl⟩:=List.mem_map.1 hv
 rfl
set_option maxHeartbeats 1000000 in
theorem DV {w:World} {n:Nat} (hn:1≤n∧n≤5) {ga:Option Addr} {gn gc:Nat} (hgc:gn≤gc) {xa:Option Addr} {xl xc:Nat} {raw:List aY} {ds:List Done} (hg:gn≠0→Got w ga gn xa xl xc raw ds) :
  Does 8 [(iO.val ⟨n⟩),.slice ga gn gc] w (Fd w n gn ds):=by
 refine does Tryz.func8 ?_
 rw [qK]
 rintro b1 w1 hb1 hw1
 obtain ⟨hz1,hn1⟩:=aR hb1 hw1
 have hz1:Blk w1 b1 [.int .i64 n] 40:=hz1
 clear hw1
 rintro b2 w2 hb2 hw2
 obtain ⟨hz2,hn2⟩:=aR hb2 hw2
 have hz2:Blk w2 b2 out0 TOut:=hz2
 clear hw2
 have hz12:=New.blk hn2 hz1
 have hn02:=hn1.new hn2
 have hs1:=hn1.size
 have hs2:=hn2.size
 have hb2l:=hz2.lt
 refine ⟨_,hz12.cell (i:=0) rfl,aE (λe=>absurd e (by omega)) (λ_=>⟨_,hz12.cell (i:=0) rfl,aE (λe=>absurd e (by omega)) (λ_=>?_)⟩)⟩
 refine aG (HV w2 ga gn gc) ?_
 rintro x w5 ⟨b3,rfl,hb3,hz5,hn5⟩
 have hz15:=New.blk hn5 hz12
 have hz25:=New.blk hn5 hz2
 have hs5:=hn5.size
 refine ⟨_,rfl,_,hz15.cell (i:=0) rfl,?_⟩
 refine aG (GQ w5 hn.2) ?_
 rintro x w6 ⟨a,cap,rfl,hrd,hfr,hn6⟩
 have hz36:=New.blk hn6 hz5
 have hz26:=New.blk hn6 hz25
 have hz16:=New.blk hn6 hz15
 have hs6:=hn6.size
 have hb3l:=hz5.lt
 have hn06:=(hn02.new hn5).new hn6
 refine ⟨_,_,_,rfl,?_⟩
 refine aG (Fb (w0:=w) hn06 (by omega) hgc hz36 (uB n).symm hrd By (by omega) hg) ?_
 rintro x w7 ⟨hk7,hcase⟩
 have hn07:=hn06.trans hk7 λk hlt e=>by omega
 have hz27:=hk7.blk hz26 (by omega)
 have hz17:=hk7.blk hz16 (by omega)
 rcases hcase with ⟨hg0,rfl,hz7⟩ | ⟨hg0,hfit,rfl,ga',gc',hz7⟩ | ⟨hg0,hfit,rfl,hz7⟩
 ·refine ⟨_,_,_,_,rfl,?_⟩
  refine aG (wy hz7) ?_
  rintro x w8 ⟨rfl,hn8⟩
  refine ⟨_,_,_,_,rfl,aE (λ_=>?_) (λe=>absurd (by omega) e)⟩
  refine vR (c:=0) (R:=λv w'=>Fd w n gn ds (.tuple #[.slice a n cap,v,.bool false]) w') (New.blk hn8 hz27) λw9 hk9=>⟨(hn07.new hn8).trans hk9 λk hlt e=>by omega,.inl ⟨hg0,a,cap,_,rfl,?_,λk hb=>⟨?_,?_⟩⟩⟩
  ·refine ko hk9 ((ko hk7 hrd λk _ hb e=>?_).new hn8) λk _ hb e=>?_
   ·have:=(hfr k hb).1;omega
   ·have:=(hfr k hb).1;omega
  ·have:=(hfr k hb).1;omega
  ·have:=(hfr k hb).2
   have:=hk7.size
   have:=hn8.size
   have:=hk9.size
   omega
 ·refine ⟨_,_,_,_,rfl,?_⟩
  refine aG (wy hz7) ?_
  rintro x w8 ⟨rfl,hn8⟩
  refine ⟨_,_,_,_,rfl,aE (λe=>absurd e (by omega)) (λ_=>dM rfl ?_)⟩
  refine aG (Az (New.blk hn8 hz7)) ?_
  rintro x w9 ⟨rfl,hn9⟩
  have hn89:=hn8.new hn9
  have hn09:=hn07.new hn89
  have hz29:=New.blk hn89 hz27
  have hz19:=New.blk hn89 hz17
  refine ⟨_,rfl,aE (λe=>?_) (λe=>?_)⟩
  ·exact vR (c:=6) (R:=λv w'=>Fd w n gn ds (.tuple #[.slice none 0 0,v,.bool true]) w') hz29 λw' hk'=>⟨hn09.trans hk' λk hlt e=>by omega,.inr ⟨hg0,_,rfl,.inr ⟨λh=>by have:=h.2;omega,zE w' 6⟩⟩⟩
  ·have hg:=(hg hg0).new hn09
   have hfew:=hg.few
   have hdl:=hg.ds.1
   have hlen:=hg.len
   subst hlen
   refine ⟨_,hz19.cell (i:=0) rfl,?_⟩
   refine aG (F0 hg.rd hg.ds (by omega) n) ?_
   rintro x w13 ⟨r,rfl,⟨hr,hfr⟩,hn13⟩
   refine aB.mk_ex r ⟨rfl,?_⟩
   have hs09:=hn09.size
   have hs79:=hn89.size
   have hs7:=hk7.size
   refine qL (New.blk hn13 hz29) (by rfl) (aB.single r) λw14 hz14 hk14=>?_
   exact aB.mk_ex r ⟨aK hz14 rfl,rfl,(hn09.new hn13).trans hk14 λk hlt e=>by omega,.inr ⟨hg0,r,rfl,.inl ⟨hfit,by omega,hr.keep hfr hk14 λk e=>by omega⟩⟩⟩
 ·refine ⟨_,_,_,_,rfl,?_⟩
  refine aG (wy hz7) ?_
  rintro x w8 ⟨rfl,hn8⟩
  refine ⟨_,_,_,_,rfl,aE (λe=>absurd e (by omega)) (λ_=>cG rfl ?_)⟩
  exact vR (c:=6) (R:=λv w'=>Fd w n gn ds (.tuple #[.slice none 0 0,v,.bool true]) w') (New.blk hn8 hz27) λw' hk'=>⟨(hn07.new hn8).trans hk' λk hlt e=>by omega,.inr ⟨hg0,_,rfl,.inr ⟨λh=>hfit h.1,zE w' 6⟩⟩⟩
theorem DW (w:World) {n:Int} (hn:n<1∨5<n):Does 8 [(iO.val ⟨n⟩),.slice none 0 0] w λx w'=>New w w'∧∃ r:aB,x=.tuple #[.slice none 0 0,r.val,.bool true]∧r.Code=1:=by
 refine does Tryz.func8 ?_
 rw [qK]
 rintro b1 w1 hb1 hw1
 obtain ⟨hz1,hn1⟩:=aR hb1 hw1
 have hz1:Blk w1 b1 [.int .i64 n] 40:=hz1
 clear hw1
 rintro b2 w2 hb2 hw2
 obtain ⟨hz2,hn2⟩:=aR hb2 hw2
 have hz2:Blk w2 b2 out0 TOut:=hz2
 clear hw2
 have hz12:=New.blk hn2 hz1
 have hs1:=hn1.size
 have out:=vR (c:=1) (R:=λv w'=>New w w'∧∃ r:aB,Value.tuple #[.slice none 0 0,v,.bool true]=.tuple #[.slice none 0 0,r.val,.bool true]∧r.Code=1) hz2 λw' hk'=>⟨(hn1.new hn2).trans hk' λk hlt e=>by omega,_,rfl,rfl⟩
 exact ⟨_,hz12.cell (i:=0) rfl,aE (λ_=>out) (λh1=>⟨_,hz12.cell (i:=0) rfl,aE (λ_=>out) (λh2=>by omega)⟩)⟩
end Go.Proofs.YtafopfaomkklpaaGreat
namespace Go.Proofs.YtafopfaomkklpaaGreat
open Go.Eng
def GR (w:World) (n gn:Nat) (ds:List Done) (x:Value) (w':World):Prop:=New w w'∧∃ r:FoR,x=.tuple #[.slice none 0 0,r.val,.bool true]∧FJ w' (BL r) n gn ds
set_option maxHeartbeats 1000000 in
theorem AA {w:World} {n:Nat} (hn:1≤n∧n≤5) {ga:Option Addr} {gn gc:Nat} (hg0:gn≠0) {xa:Option Addr} {xl xc:Nat} {raw:List aY} {ds:List Done} (hg:Got w ga gn xa xl xc raw ds) :
  Does 9 [.int .i64 n,.slice ga gn gc] w (GR w n gn ds):=by
 refine does Tryz.func9 ?_
 rw [kR]
 rintro b1 w1 hb1 hw1
 obtain ⟨hz1,hn1⟩:=aR hb1 hw1
 have hz1:Blk w1 b1 out0 TFo:=hz1
 clear hw1
 refine aE (λe=>absurd e (by omega)) (λ_=>aE (λe=>absurd e (by omega)) (λ_=>?_))
 rintro b2 w4 hb2 hw4
 obtain ⟨hz4,hn4⟩:=aR hb2 hw4
 have hz4:Blk w4 b2 (tkC ga gn gc 0 none 0 0 false) TTk:=hz4
 clear hw4
 have hz14:=New.blk hn4 hz1
 have hs1:=hn1.size
 have hs4:=hn4.size
 have hb1l:=hz1.lt
 have hb2l:=hz4.lt
 have hn04:=hn1.new hn4
 refine aG (Fz (w0:=w) hn04 (by omega) hz4 hn (λ_=>hg)) ?_
 rintro x w5 ⟨a,cap,⟨hk5,hcase⟩,hrd,hfr⟩
 have hz15:=hk5.blk hz14 (by omega)
 have hn05:=hn04.trans hk5 λk hlt e=>by omega
 rcases hcase with ⟨e,_⟩ | ⟨_,hfit,rfl,hz5⟩ | ⟨_,hfit,rfl,hz5⟩
 ·exact absurd e hg0
 ·refine ⟨_,_,_,_,rfl,?_⟩
  refine aG (zO hz5 true) ?_
  rintro x w6 ⟨rfl,hn6⟩
  have hz16:=New.blk hn6 hz15
  have hn06:=hn05.new hn6
  refine ⟨_,_,rfl,dM rfl (iL (λe=>?_) (λe=>?_))⟩
  ·have e:gn≠1:=by
    rintro rfl
    simp at e
   exact rG (c:=6) (R:=λv w'=>GR w n gn ds (.tuple #[.slice none 0 0,v,.bool true]) w') hz16 λw' hk'=>⟨hn06.trans hk' λk hlt e=>by omega,_,rfl,.inr ⟨λh=>e h.2,zE w' 6⟩⟩
  ·have e:gn=1:=by
    simp at e
    omega
   have hg6:=hg.new hn06
   have hfew:=hg6.few
   have hdl:=hg6.ds.1
   have hlen:=hg6.len
   subst hlen
   refine aG (Ek hg6.rd hg6.ds (by omega) n) ?_
   rintro x w9 ⟨r,rfl,⟨hr,hfr⟩,hn9⟩
   refine aD.mk_ex r ⟨rfl,?_⟩
   have hs5:=hk5.size
   have hs6:=hn6.size
   refine qL (New.blk hn9 hz16) (by rfl) (aD.single r) λw10 hz10 hk10=>?_
   exact aD.mk_ex r ⟨aK hz10 rfl,rfl,(hn06.new hn9).trans hk10 λk hlt e=>by omega,r,rfl,.inl ⟨hfit,e,hr.keep hfr hk10 λk e=>by omega⟩⟩
 ·refine ⟨_,_,_,_,rfl,?_⟩
  refine aG (zO hz5 false) ?_
  rintro x w6 ⟨rfl,hn6⟩
  refine ⟨_,_,rfl,dM rfl (cG rfl ?_)⟩
  exact rG (c:=6) (R:=λv w'=>GR w n gn ds (.tuple #[.slice none 0 0,v,.bool true]) w') (New.blk hn6 hz15) λw' hk'=>⟨(hn05.new hn6).trans hk' λk hlt e=>by omega,_,rfl,.inr ⟨λh=>hfit h.1,zE w' 6⟩⟩
theorem GS (w:World) {v:bA} (hk:v.Kind=1):Does 33 [v.val,v.val] w λx w'=>x=.bool true∧New w w':=by
 refine does Tryz.func33 ?_
 rw [tZ]
 rintro b1 w1 hb1 hw1
 obtain ⟨hz1,hn1⟩:=aR hb1 hw1
 have hz1:Blk w1 b1 v.cells TVb:=hz1
 clear hw1
 rintro b2 w2 hb2 hw2
 obtain ⟨hz2,hn2⟩:=aR hb2 hw2
 have hz2:Blk w2 b2 v.cells TVb:=hz2
 clear hw2
 have hz12:=New.blk hn2 hz1
 exact ⟨_,hz12.cell (i:=0) rfl,_,hz2.cell (i:=0) rfl,bE (λe=>absurd rfl e) (λ_=>⟨_,hz12.cell (i:=1) rfl,_,hz2.cell (i:=1) rfl,bE (λe=>absurd rfl e) (λ_=>⟨_,hz12.cell (i:=2) rfl,_,hz2.cell (i:=2) rfl,bE (λe=>absurd rfl e) (λ_=>⟨_,hz12.cell (i:=7) rfl,_,hz2.cell (i:=7) rfl,bE (λe=>absurd rfl e) (λ_=>⟨_,hz12.cell (i:=8) rfl,_,hz2.cell (i:=8) rfl,bE (λe=>absurd rfl e) (λ_=>⟨_,hz12.cell (i:=0) rfl,bC (λ_=>⟨_,hz12.cell (i:=3) rfl,_,hz2.cell (i:=3) rfl,by simp,hn1.new hn2⟩) (λe=>absurd hk e)⟩)⟩)⟩)⟩)⟩)⟩
theorem Cr {w:World} {a a2:Option Addr} {n cap cap2:Nat} {l:List bA} (hn:n=l.length) (hfew:n≤1000000) (hl:Rd w a (kQ l).flatten) (hl2:Rd w a2 (kQ l).flatten) (hk:∀ v ∈ l,v.Kind=1) :
  Does 10 [.slice a n cap,.slice a2 n cap2] w λx w'=>x=.bool true∧New w w':=by
 subst hn
 refine does Tryz.func10 ?_
 rw [rR]
 refine bE (λe=>absurd rfl e) (λ_=>?_)
 refine aS mix (λm env u=>∃ (i:Nat) (jj:List Value),m=l.length - i∧i≤l.length∧env=fJ a l.length cap a2 l.length cap2 i jj∧New w u) l.length
  ⟨0,_,by omega,by omega,rfl,Keep.refl _ _⟩ ?_
 rintro m env u ⟨i,jj,rfl,hi,rfl,hnu⟩
 rw [lZ]
 refine aE (λhq=>?_) (λhq=>?_)
 ·have hgl:l[i]?=some l[i]:=List.getElem?_eq_getElem (by omega)
  have hkv:l[i].Kind=1:=hk _ (List.getElem_mem (by omega))
  generalize l[i]=v at hgl hkv
  rintro w1 hw1
  have hn1:New u w1:=by rw [hw1];exact aW _
  clear hw1
  have hn01:=hnu.new hn1
  refine ⟨λy=>New w1 y,Keep.refl _ _,?_⟩
  refine vZ (cells:=bA.cells) bA.len (by omega) (S:=λy=>New w1 y) (λy hy=>hl.new (hn01.new hy)) (Keep.refl _ _) hgl rfl rfl ?_
  rintro b o hcc
  refine bA.mk_ex v ⟨λy hy=>fM (hcc y hy),?_⟩
  refine vZ (cells:=bA.cells) bA.len (by omega) (S:=λy=>New w1 y) (λy hy=>hl2.new (hn01.new hy)) (Keep.refl _ _) hgl rfl rfl ?_
  rintro b' o' hcc'
  refine bA.mk_ex v ⟨λy hy=>fM (hcc' y hy),?_⟩
  refine aG (GS w1 hkv) ?_
  rintro x w2 ⟨rfl,hn2⟩
  refine ⟨_,rfl,dM rfl ?_⟩
  rw [w64 (x:=(i:Int)+1) (by omega) (by omega)]
  exact ⟨l.length - (i+1),by omega,i+1,_,rfl,by omega,rfl,hn01.new hn2⟩
 ·rw [oy]
  exact ⟨rfl,hnu⟩
end Go.Proofs.YtafopfaomkklpaaGreat
