import Derived.Test.YtmkljjbioomepaaGreatProg
import Derived.Test.YtmkljjbioomepaaGreatb03
import Derived.Test.YtmkljjbioomepaaGreatb14
set_option linter.all false
set_option maxHeartbeats 4000000
set_option maxRecDepth 100000
namespace Go.Proofs.YtmkljjbioomepaaGreat
open Go.Proofs.Tryz Go.bu
variable {a:an} {c cA n:Nat} {r:dv} {w:ak}
section
open IntKind
variable (w:ak) (R:cB) {A:aS} {s:an} {a b:Nat} {i k l:Int} {j:aq} {X:a2}
def si (s1:aS) (a:an) (b c:Nat) (d f:Int) (j:aq):aq:=ag j 0 1 (.pointer (some s1)::ag j 1 46 (ae a b c::ab d::ab f::ag j 47 45 []))
def Gk (a:aS) (j:aq):aq:=ag j 0 1 (.pointer (some a)::ag j 1 94 [])
def ii (s1:aS) (a:an) (b c:Nat) (d f:Int) (j:aq):aq:=ag j 0 1 (.pointer (some s1)::ag j 1 60 (ae a b c::ab d::ab f::ag j 61 31 []))
def qr  (j:aq):aq:=ag j 0 96 []
theorem Vy (B:dv):bf prog f124 [B.val] R w=(aQ w B.cells.toArray 39 λe u=>bS u (af e 0) λa=>cond (a<0) (R (ab 1) u) (bS u (af e 0) λb=>cond (b>=6) (R (ab 1) u) (lS u (af e 3) λD=>cm 166 #[D.val,ab 5] u λc j=>cond (c != 0) (R (ab c) j) (bS j (af e 2) λd=>cond (d<98) (R (ab 18) j) (bS j (af e 2) λf=>cond (f>256) (R (ab 18) j) (b5 j (af e 6) λg h i=>cond ((h:Int)>0) (ct j λG C=>uN C (af e 0) λr=>cN C (af e 2) λk=>Gs 168 #[r.val] G λE F=>C F/\cm 167 #[E.val,ab k] F λl A=>C A/\cond (l != 0) (R (ab l) A) (b5 A (af e 5) λm n o=>cond ((n:Int)>24) (R (ab 18) A) (b5 A (af e 5) λp q s=>cv prog (c0 f124 [1,1,1,1,1,1,0,1,0,0]) (si (af e 0) p q s (q:Nat) 0 (B.val::ab 0::ab c::ab l::bb 4 (jp (af e 0)::ab a::ad (a<0)::ad false::jp (af e 0)::ab b::ad (b>=6)::ad (b>=6)::jp (af e 3)::D.val::ab c::ab c::ad ((c:Int) != 0)::undef::jp (af e 2)::ab d::ad (d<98)::ad false::jp (af e 2)::ab f::ad (f>256)::ad (f>256)::jp (af e 6)::ae g h i::cX h::ad ((h:Int)>0)::r.val::E.val::jp (af e 2)::ab k::ab l::ab l::ad ((l:Int) != 0)::undef::jp (af e 5)::ae m n o::cX n::ad ((n:Int)>24)::jp (af e 5)::bb 45 []))) (aM 0 (aP f124 [1,1,1,1,1,1,1] R)) A))) (b5 j (af e 5) λt v x=>cond ((v:Int)>24) (R (ab 18) j) (b5 j (af e 5) λy z H=>cv prog (c0 f124 [1,1,1,1,1,1,0,1,0,0]) (si (af e 0) y z H (z:Nat) 0 (B.val::ab 0::ab c::bb 5 (jp (af e 0)::ab a::ad (a<0)::ad false::jp (af e 0)::ab b::ad (b>=6)::ad (b>=6)::jp (af e 3)::D.val::ab c::ab c::ad ((c:Int) != 0)::undef::jp (af e 2)::ab d::ad (d<98)::ad false::jp (af e 2)::ab f::ad (f>256)::ad (f>256)::jp (af e 6)::ae g h i::cX h::ad ((h:Int)>0)::bb 8 (jp (af e 5)::ae t v x::cX v::ad ((v:Int)>24)::jp (af e 5)::bb 45 [])))) (aM 0 (aP f124 [1,1,1,1,1,1,1] R)) j)))))))):=by kernel_rfl
theorem SI (f:aq->aE):W prog (sb f124 [1,1,1,1,1,1,0,1,0,0]) (si A s a b i k j) (aU f (aM 0 (aP f124 [1,1,1,1,1,1,1] R))) w=(cond (k<i) (bm s a k 2 λl=>Au w l λr=>aQ w #[ab 0,ah 0] 274 λd n=>a' n (af d 0) 0 r.cells λe=>bS e (af d 0) λg=>bS e (bT A 2) λh=>de 169 #[ab g,ab h] e λc m=>cond (!c) (R (ab 2) m) (f (si A s a b i (i64.wrap (k+1)) (ag j 0 5 (jp (af d 0)::ag j 6 41 (ad (k<i)::jp l::r.val::jp (af d 0)::ab g::bq A 2::ab h::ad c::ad (!c)::ab (i64.wrap (k+1))::ag j 57 35 [])))) m)) (W prog (sb f124 [1,1,1,1,1,1,1]) (Gk A (ag j 0 47 (ae s a b::ab i::ab k::ad (k<i)::ag j 48 44 []))) (bZ f124 R) w)):=by kernel_rfl
theorem Ug:W prog (sb f124 [1,1,1,1,1,1,1]) (Gk A j) (bZ f124 R) w=(b5 w (bT A 5) λb c d=>cv prog (c0 f124 [1,1,1,1,1,1,1,0,1,0,0]) (ii A b c d (c:Nat) 0 (ag j 0 60 (bq A 5::ag j 64 31 []))) (aM 2 (aP f124 [1,1,1,1,1,1,1,1] R)) w):=by kernel_rfl
theorem SJ (u:aq->aE):W prog (sb f124 [1,1,1,1,1,1,1,0,1,0,0]) (ii A s a b i k j) (aU u (aM 2 (aP f124 [1,1,1,1,1,1,1,1] R))) w=(cond (k<i) (bm s a k 2 λC=>Au w C λr=>aQ w #[ab 0,ah 0] 274 λe a7=>a' a7 (af e 0) 0 r.cells λa6=>ct a6 λE f=>cond (k>0) (cN f (af e 0) λg=>e5 f (bT A 5) λh c G=>bm h c (i64.wrap (k - 1)) 2 λx=>cN f x λl=>cond (g<=l) (R (ab 1) E) (jM f (af e 1) λm=>de 170 #[ah m] E λn D=>f D/\cond (!n) (R (ab 1) D) (uN f A λF=>cN f (af e 0) λo=>de 171 #[F.val,ab o] D λp y=>f y/\cond p (R (ab 1) y) (u (ii A s a b i (i64.wrap (k+1)) (ag j 0 6 (ab k::jp (af e 0)::ag j 8 53 [ad (k<i),ab k,jp C,r.val,ab k,ad (k>0),ad true,jp (af e 0),ab g,bq A 5,ae h c G,ab k,ab (i64.wrap (k - 1)),jp x,jp x,ab l,ad (g<=l),ad (g<=l),ad false,jp (af e 1),ah m,ad n,ad (!n),ad (!n),ad false,F.val,jp (af e 0),ab o,ad p,ad p,ab (i64.wrap (k+1))]))) y)))) (jM f (af e 1) λq=>de 170 #[ah q] E λd z=>f z/\cond (!d) (R (ab 1) z) (uN f A λH=>cN f (af e 0) λt=>de 171 #[H.val,ab t] z λv B=>f B/\cond v (R (ab 1) B) (u (ii A s a b i (i64.wrap (k+1)) (ag j 0 6 (ab k::jp (af e 0)::ag j 8 53 (ad (k<i)::ab k::jp C::r.val::ab k::ad (k>0)::ad false::bb 10 [ad false,ad false,jp (af e 1),ah q,ad d,ad (!d),ad (!d),ad false,H.val,jp (af e 0),ab t,ad v,ad v,ab (i64.wrap (k+1))])))) B)))) (W prog (sb f124 [1,1,1,1,1,1,1,1]) (qr  (aF j 0::jp A::ag j 1 60 (ae s a b::ab i::ab k::ad (k<i)::ag j 62 30 []))) (bZ f124 R) w)):=by kernel_rfl
theorem Uh:W prog (sb f124 [1,1,1,1,1,1,1,1]) (qr  j) (bZ f124 R) w=(R (ab 0) w):=by kernel_rfl
def qG (s2:aS) (a:an) (b c:Nat) (d f:Int) (j:aq):aq:=ag j 0 2 (.pointer (some s2)::ag j 2 39 (ae a b c::ab d::ab f::ag j 41 41 []))
def Gl (a:aS) (j:aq):aq:=ag j 0 2 (.pointer (some a)::ag j 2 83 [])
def xl (a:an) (b c:Nat) (d f:Int) (j:aq):aq:=ag j 0 65 (ae a b c::ab d::ab f::ag j 65 18 [])
def Gm  (j:aq):aq:=ag j 0 86 []
theorem Vz (u:bY):bf prog f167 [u.val,ab i] R w=(aQ w u.cells.toArray 271 λj z=>aQ z #[ab i] 3 λt y=>bS y (af t 0) λx=>de 203 #[ab x] y λa s=>cond (!a) (R (ab 18) s) (bS s (af j 0) λb=>cond (b<1) (R (ab 1) s) (bS s (af j 0) λc=>cond (c>=1073741824) (R (ab 1) s) (b5 s (af j 1) λd f g=>cond ((f:Int)<1) (R (ab 1) s) (b5 s (af j 1) λh e k=>cond ((e:Int)>12) (R (ab 1) s) (b5 s (af j 1) λl m n=>de 204 #[ae l m n,.func (.func 205) #[] #[a_ t]] s λo v=>cond o (R (ab 2) v) (b5 v (af j 1) λp q r=>cv prog (c0 f167 [1,1,0,1,0,0]) (qG (af j 0) p q r (q:Nat) 0 (u.val::ab i::jp (af t 0)::ab 0::bb 6 (ad (!a)::ab x::ad a::ad (!a)::ad ((e:Int)>12)::jp (af j 0)::ab b::ad (b<1)::ad false::jp (af j 0)::ab c::ad (c>=1073741824)::ad (c>=1073741824)::ad false::jp (af j 1)::ae d f g::cX f::ad ((f:Int)<1)::ad ((f:Int)<1)::ad false::jp (af j 1)::ae h e k::cX e::ad ((e:Int)>12)::ad ((e:Int)>12)::ad o::jp (af j 1)::ae l m n::.func (.func 205) #[] #[a_ t]::ad o::jp (af j 1)::bb 41 []))) (aM 1 (aP f167 [1,1,1] R)) v))))))):=by kernel_rfl
theorem SK (e:aq->aE):W prog (sb f167 [1,1,0,1,0,0]) (qG A s a b i k j) (aU e (aM 1 (aP f167 [1,1,1] R))) w=(cond (k<i) (bm s a k 9 λf=>hv w f λr=>aQ w #[ab 0,ah 0,ah 0,ah 0,ah 0,ah 0,ah 0,ah 0,ah 0] 73 λd q=>a' q (af d 0) 0 r.cells λt=>ct t λn o=>cond (k>0) (cN o (af d 0) λg=>e5 o (bT A 1) λh c p=>bm h c (i64.wrap (k - 1)) 9 λm=>cN o m λl=>cond (g<=l) (R (ab 1) n) (e (qG A s a b i (i64.wrap (k+1)) (ag j 0 4 (ab k::jp (af d 0)::ag j 6 35 (ad (k<i)::ab k::jp f::r.val::ab k::ad (k>0)::ad true::jp (af d 0)::ab g::bq A 1::ae h c p::ab k::ab (i64.wrap (k - 1))::jp m::jp m::ab l::ad (g<=l)::ad (g<=l)::ab (i64.wrap (k+1))::ag j 60 22 [])))) n)) (e (qG A s a b i (i64.wrap (k+1)) (ag j 0 4 (ab k::jp (af d 0)::ag j 6 35 (ad (k<i)::ab k::jp f::r.val::ab k::ad (k>0)::ad false::bb 10 (ad false::ab (i64.wrap (k+1))::ag j 60 22 []))))) n)) (W prog (sb f167 [1,1,1]) (Gl A (ag j 0 41 (ae s a b::ab i::ab k::ad (k<i)::ag j 42 40 []))) (bZ f167 R) w)):=by kernel_rfl
theorem Ui:W prog (sb f167 [1,1,1]) (Gl A j) (bZ f167 R) w=(b5 w (bT A 1) λb c d=>cv prog (c0 f167 [1,1,1,0,1,0,0]) (xl b c d (c:Nat) 0 (aF j 0::aF j 1::jp A::ag j 2 61 (bq A 1::ag j 67 18 []))) (aM 3 (aP f167 [1,1,1,1] R)) w):=by kernel_rfl
theorem Tw (p:aq->aE):W prog (sb f167 [1,1,1,0,1,0,0]) (xl s a b i k j) (aU p (aM 3 (aP f167 [1,1,1,1] R))) w=(cond (k<i) (bm s a k 9 λn=>hv w n λr=>aQ w #[ab 0,ah 0,ah 0,ah 0,ah 0,ah 0,ah 0,ah 0,ah 0] 73 λd q=>a' q (af d 0) 0 r.cells λm=>dr m (af d 1) λg=>ht 206 #[ah g] m λh c e=>cond (c != 0) (R (ab 1) e) (dr e (af d 1) λf=>de 170 #[ah f] e λl o=>cond (!l) (R (ab 1) o) (p (xl s a b i (i64.wrap (k+1)) (ag j 0 8 (jp (af d 0)::ah h::ab c::ag j 11 54 [ad (k<i),jp n,r.val,.tuple #[ah h,ab c],jp (af d 1),ah g,.tuple #[ah h,ab c],ah h,ab c,ab c,ad ((c:Int) != 0),ad false,jp (af d 1),ah f,ad l,ad (!l),ad (!l),ab (i64.wrap (k+1))]))) o))) (W prog (sb f167 [1,1,1,1]) (Gm  (ag j 0 65 (ae s a b::ab i::ab k::ad (k<i)::ag j 66 17 []))) (bZ f167 R) w)):=by kernel_rfl
theorem Uj:W prog (sb f167 [1,1,1,1]) (Gm  j) (bZ f167 R) w=(R (ab 0) w):=by kernel_rfl
theorem Uk (j:dv):bf prog f168 [j.val] R w=(aQ w j.cells.toArray 39 λi k=>aQ k #[ab 0,a5] 271 λh g=>bS g (af i 1) λa=>b5 g (af i 6) λb c d=>a' g (af h 0) 0 [ab a,ae b c d] λe=>hN e (af h 0) λf=>e=e/\R f.val e):=by kernel_rfl
def w4 (s1:Int) (s8:an) (a b:Nat) (d c:Int) (j:aq):aq:=ag j 0 1 (ab s1::ag j 1 6 (ae s8 a b::ab d::ab c::ag j 7 8 []))
def FU  (j:aq):aq:=ag j 0 19 []
theorem Ul (d:dv):bf prog f171 [d.val,ab i] R w=(aQ w d.cells.toArray 39 λe f=>b5 f (af e 6) λa b c=>cv prog (c0 f171 [1,0,1,0,0]) (w4 i a b c (b:Nat) 0 (d.val::jp (af e 0)::undef::ad false::bb 2 (jp (af e 6)::bb 8 []))) (aM 0 (aP f171 [1,1] R)) f):=by kernel_rfl
theorem Rs (f:aq->aE):W prog (sb f171 [1,0,1,0,0]) (w4 i s a b k l j) (aU f (aM 0 (aP f171 [1,1] R))) w=(cond (l<k) (bm s a l 9 λg=>hv w g λr=>aQ w #[ab 0,ah 0,ah 0,ah 0,ah 0,ah 0,ah 0,ah 0,ah 0] 73 λc h=>a' h (af c 0) 0 r.cells λe=>bS e (af c 0) λd=>cond (d == i) (R (ad true) e) (f (w4 i s a b k (i64.wrap (l+1)) (ag j 0 5 [jp (af c 0),aF j 6,ad (l<k),jp g,r.val,jp (af c 0),ab d,ab i,ad ((d:Int) == i),ab (i64.wrap (l+1))])) e)) (W prog (sb f171 [1,1]) (FU  (aF j 0::ab i::ag j 1 6 (ae s a b::ab k::ab l::ad (l<k)::ag j 8 7 []))) (bZ f171 R) w)):=by kernel_rfl
theorem So:W prog (sb f171 [1,1]) (FU  j) (bZ f171 R) w=(R (ad false) w):=by kernel_rfl
theorem GB:bf prog f203 [ab i] R w=(cond (i>=98) (R (ad (i<=256)) w) (R (ad false) w)):=by kernel_rfl
theorem P4:bf prog f204 [ae s a b,X] R w=(cm 235 #[ae s a b,X] w λc d=>R (ad (c>=0)) d):=by kernel_rfl
theorem U7 (e:aK):bf prog f205 [e.val,a_ a] R w=(aQ w e.cells.toArray 73 λf c=>bS c (af f 0) λd=>cond (d<96) (R (ad true) c) (bS c (af f 0) λb=>bS c (af a 0) λx=>R (ad (b>=x)) c)):=by kernel_rfl
def wA (c:an) (a b:Nat) (s1:a2) (d s8:Int) (j:aq):aq:=ae c a b::s1::ag j 0 5 (ab d::ab s8::ag j 5 10 [])
def Fg  (j:aq):aq:=ag j 0 19 []
theorem Qa:bf prog f235 [ae s a b,X] R w=(cv prog (c0 f235 [1,0,1,0,0]) (wA s a b X (a:Nat) 0 (bb 2 (ab 0::undef::ae s a b::bb 10 []))) (aM 0 (aP f235 [1,1] R)) w):=by kernel_rfl
theorem P1 (d:aq->aE):W prog (sb f235 [1,0,1,0,0]) (wA s a b X i k j) (aU d (aM 0 (aP f235 [1,1] R))) w=(cond (k<i) (bm s a k 9 λg=>hv w g λr=>iX prog X #[r.val] w λe f=>∃ c,e=.returned (ad c)/\cond c (R (ab k) f) (d (wA s a b X i (i64.wrap (k+1)) [aF j 0,aF j 1,aF j 2,ab k,aF j 4,ad (k<i),ab k,X,ae s a b,ab k,jp g,r.val,ad c,aF j 13,ab (i64.wrap (k+1))]) f)) (W prog (sb f235 [1,1]) (Fg  (ae s a b::X::ag j 0 5 (ab i::ab k::ad (k<i)::ag j 6 9 []))) (bZ f235 R) w)):=by kernel_rfl
theorem P7:W prog (sb f235 [1,1]) (Fg  j) (bZ f235 R) w=(R (ab (-1)) w):=by kernel_rfl
end
section
abbrev et:TypeId:=73
def h4 (l:List aK):List ax:=l.map aK.cells
def hG:aK:=⟨0,0,0,0,0,0,0,0,0⟩
def lV (h:Int):Bool:=fx .u64 h 255 == 0
def pp (h:Int):Bool:=decide (1<=db .u64 h 8/\db .u64 h 8<=281474976710654)
def j8 (p:aK):Bool:=pp p.Head && lV p.Head
def j0 (l:List aK) (i:Nat):Bool:=decide (i=0) || decide ((l.getD (i - 1) hG).bo<(l.getD i hG).bo)
def fy (seq:Int) (W:List aK) (lines:Int):Int:=
 if ¬ (98<=lines/\lines<=256) then 18 else if seq<1\/1073741824<=seq\/W.length<1\/12<W.length then 1
 else if W.all (λp=>iB p.bo lines)=false then 2 else if (List.range W.length).all (λi=>j0 W i && j8 (W.getD i hG))=false then 1 else 0
theorem My {h:Int} (a:ca h):0<=db .u64 h 8/\db .u64 h 8<18446744073709551615:=by
 have e:db .u64 h 8=h / 256:=by show Int.fdiv h 256=_;rw [va _ (by decide)]
 have:=a.1;have:=a.2;omega
theorem wa (w:ak) (h:Int):a9 170 [.int .u64 h] w λv w'=>v=.bool (lV h)/\w'=w:=by refine bc Tryz.func170 ?_;rw [Vl];exact ⟨rfl,rfl⟩
theorem DJ (w:ak) (h:Int):a9 236 [.int .u64 h] w λv w'=>v=.tuple #[.int .u64 (db .u64 h 8),.int .i64 (IntKind.i64.wrap (fx .u64 h 255))]/\w'=w:=by refine bc Tryz.func236 ?_;rw [Uw];exact ⟨rfl,rfl⟩
theorem EJ {a b c:Int} (h:b=c):∃ x,Value.tuple #[.int .u64 a,.int .i64 b]=.tuple #[.int .u64 x,.int .i64 c]/\w=w:=⟨a,by rw [h],rfl⟩
theorem Mz (w:ak) (h:Int):a9 206 [.int .u64 h] w λv w'=>∃ x,v=.tuple #[.int .u64 x,.int .i64 (if pp h=true then 0 else 2)]/\w'=w:=by
 refine bc Tryz.func206 ?_;rw [Hl];refine aC (DJ w h) ?_;rintro v w1 ⟨rfl,rfl⟩;refine ⟨_,_,rfl,?_⟩;refine aC (A0 w1 _ 1 281474976710654) ?_;rintro v c ⟨rfl,rfl⟩;refine ⟨_,rfl,ev (λa=>EJ ?_) (λb=>EJ ?_)⟩
 ·rw [if_neg (by unfold pp;rw [a];simp)]
 ·rw [if_pos (by unfold pp;exact b)]
structure fh (w:ak) (a:an) (n:Nat) (W:List aK):Prop where
 rd:bh w a (h4 W).flatten
 len:n=W.length
 eD:W.length<=1000000
 u64:∀ p ∈ W,ca p.Head
theorem fh.new {w w':ak} {a:an} {n:Nat} {W:List aK} (h:fh w a n W) (b:ai w w'):fh w' a n W:=⟨h.rd.new b,h.len,h.eD,h.u64⟩
theorem Sb:ij prog 205=true:=by kernel_rfl
theorem PE (w:ak) (p:aK) {lines:Int} (d:w.cell? ⟨cA,0,none⟩=some (.int .i64 lines)):a9 205 [p.val,.pointer (some ⟨cA,0,none⟩)] w λv w'=>v=.bool (decide (p.bo<96) || decide (lines<=p.bo))/\ai w w':=by
 refine bc Tryz.func205 ?_;rw [U7];rintro b1 w1 b a;obtain ⟨au,c⟩:=bl b a;have au:av w1 b1 p.cells et:=au;clear a;refine ⟨_,au.cell (i:=0) rfl,a8 (λh=>⟨?_,c⟩) (λh=>⟨_,au.cell (i:=0) rfl,_,jE c d id,?_,c⟩)⟩
 ·rw [decide_eq_true h];rfl
 ·rw [decide_eq_false h];rfl
section
attribute [local irreducible] ij iX mT
theorem Kg {lines:Int} {W:List aK} (h:fh w a n W) (t:w.cell? ⟨cA,0,none⟩=some (.int .i64 lines)) :
  a9 235 [.slice a n c,.func (.func 205) #[] #[.pointer (some ⟨cA,0,none⟩)]] w λv w'=>∃ z:Int,v=.int .i64 z/\(decide (z>=0)=W.any λp=>decide (p.bo<96) || decide (lines<=p.bo))/\ai w w':=by
 have x:=h.len;subst x;have l:=h.eD;refine bc Tryz.func235 ?_;rw [Qa];refine c2 mix (λm env u=>∃ (i:Nat) (r:ax),m=W.length - i/\i<=W.length/\env=wA a W.length c (.func (.func 205) #[] #[.pointer (some ⟨cA,0,none⟩)]) W.length i r/\ai w u/\((W.take i).any λp=>decide (p.bo<96) || decide (lines<=p.bo))=false) W.length
  ⟨0,_,by omega,by omega,rfl,ao.refl _ _,rfl⟩ ?_
 rintro m env u ⟨i,r,rfl,A,rfl,f,d⟩;rw [P1];refine a8 (λy=>?_) (λy=>?_)
 ·have e:i<W.length:=by omega
  have q:W[i]?=some W[i]:=bD e;refine er (cells:=aK.cells) aK.len (by omega) (h.rd.new f) q rfl rfl λb o j _=>aK.aR W[i] ⟨j,?_⟩
  refine q2 Sb (xs:=#[W[i].val,.pointer (some ⟨cA,0,none⟩)]) (by simp) ?_;refine aC (PE u W[i] (jE f t id)) ?_;rintro v bE ⟨rfl,g⟩;refine ⟨_,rfl,fX (λk=>⟨i,rfl,?_,f.new g⟩) (λk=>?_)⟩
  ·have s:(W.any λp=>decide (p.bo<96) || decide (lines<=p.bo))=true:=p6.2 ⟨W[i],jS e,k⟩;rw [s];simp
  ·rw [bC (by omega) (by omega)];refine ⟨W.length - (i+1),by omega,i+1,_,rfl,by omega,rfl,f.new g,?_⟩;rw [fc,q,List.any_append,d];simpa using k
 ·rw [P7];have:W.take i=W:=hS (by omega);rw [this] at d;exact ⟨-1,rfl,by rw [d];decide,f⟩
end
theorem Ie {lines:Int} {W:List aK} (h:fh w a n W) (b:w.cell? ⟨cA,0,none⟩=some (.int .i64 lines)) :
  a9 204 [.slice a n c,.func (.func 205) #[] #[.pointer (some ⟨cA,0,none⟩)]] w λv w'=>v=.bool (W.any λp=>decide (p.bo<96) || decide (lines<=p.bo))/\ai w w':=by
 refine bc Tryz.func204 ?_;rw [P4];refine aC (Kg h b) ?_;rintro v w1 ⟨z,rfl,au,d⟩;exact ⟨_,rfl,by rw [au],d⟩
theorem Lz {W:List aK} {lines:Int} (b:98<=lines/\lines<=256):(W.any λp=>decide (p.bo<96) || decide (lines<=p.bo))=!(W.all λp=>iB p.bo lines):=by
 induction W with
 |nil=>rfl
 |cons p W a=>rw [List.any_cons,List.all_cons,a,Bool.not_and];congr 1;unfold iB;rw [Bool.eq_iff_iff];simp;omega
theorem yW {p q:Nat->Bool}:((List.range n).all λi=>p i && q i)=false↔(List.range n).all p=false\/(List.range n).all q=false:=by
 have:((List.range n).all λi=>p i && q i)=((List.range n).all p && (List.range n).all q):=by rw [Bool.eq_iff_iff];simp only [gU,e1];exact ⟨λh=>⟨λx a=>(h x a).1,λx a=>(h x a).2⟩,λh x a=>⟨h.1 x a,h.2 x a⟩⟩
 rw [this,Bool.and_eq_false_iff]
theorem ye {r:bY} {W:List aK} (h:fh w r.eu r.dO W) (lines:Int):a9 167 [r.val,.int .i64 lines] w λx w'=>x=.int .i64 (fy r.Seq W lines)/\ai w w':=by
 refine bc Tryz.func167 ?_;rw [Vz];rintro b1 w1 V3 U;obtain ⟨I,V9⟩:=bl V3 U;have I:av w1 b1 r.cells 271:=I;clear U;rintro aA Wc V4 V;obtain ⟨B,P⟩:=bl V4 V;have B:av Wc aA [.int .i64 lines] 3:=B;clear V;have a:=ai.aj P I;have E:=V9.new P;have hlen:=h.len;have Wd:=h.eD;refine ⟨_,B.cell (i:=0) rfl,?_⟩;have V8:a9 203 [.int .i64 lines] Wc λv w'=>v=.bool (decide (98<=lines/\lines<=256))/\w'=Wc:=by
  refine bc Tryz.func203 ?_;rw [GB];refine a8 (λh=>⟨?_,rfl⟩) (λh=>⟨?_,rfl⟩)
  ·have h:98<=lines:=h;congr 1;simp [h]
  ·have h:¬ 98<=lines:=h;congr 1;simp [h]
 refine aC V8 ?_;rintro x Wp ⟨rfl,rfl⟩;unfold fy;refine ⟨_,rfl,ev (λM=>?_) (λS=>?_)⟩
 ·rw [if_pos (by simpa using M)];exact ⟨rfl,E⟩
 have Wf:98<=lines/\lines<=256:=by simpa using S
 rw [if_neg (λe=>e Wf)];refine ⟨_,a.cell (i:=0) rfl,a8 (λWk=>?_) (λWk=>⟨_,a.cell (i:=0) rfl,a8 (λV_=>?_) (λV_=>⟨_,_,_,a.cell (i:=1) rfl,a8 (λV'=>?_) (λV'=>⟨_,_,_,a.cell (i:=1) rfl,a8 (λWa=>?_) (λWa=>⟨_,_,_,a.cell (i:=1) rfl,?_⟩)⟩)⟩)⟩)⟩
 ·rw [if_pos (by omega)];exact ⟨rfl,E⟩
 ·rw [if_pos (by omega)];exact ⟨rfl,E⟩
 ·rw [if_pos (by omega)];exact ⟨rfl,E⟩
 ·rw [if_pos (by omega)];exact ⟨rfl,E⟩
 rw [if_neg (by omega)];refine aC (Ie (h.new E) (B.cell (i:=0) rfl)) ?_;rintro x Wg ⟨rfl,H⟩;rw [Lz Wf];refine ⟨_,rfl,ev (λM=>?_) (λS=>?_)⟩
 ·rw [if_pos M];exact ⟨rfl,E.new H⟩
 rw [if_neg (by rw [S];simp)];have t:=ai.aj H a;have c:=E.new H;refine ⟨_,_,_,t.cell (i:=1) rfl,?_⟩;refine c2 mix (λm env u=>∃ (i:Nat) (J:ax),m=W.length - i/\i<=W.length/\env=qG ⟨b1,0,none⟩ r.eu r.dO r.gX r.dO i J/\ai Wg u/\∀ k,k<i->j0 W k=true) W.length
  ⟨0,_,by omega,by omega,rfl,ao.refl _ _,λk j=>by omega⟩ ?_
 rintro m env u ⟨i,J,rfl,We,rfl,A,l⟩;rw [SK];refine a8 (λZ=>?_) (λZ=>?_)
 ·have p:i<W.length:=by omega
  have N:W[i]?=some W[i]:=bD p;have n:=oG (d:=hG) N;refine er (cells:=aK.cells) aK.len (by omega) (h.rd.new (c.new A)) N rfl hlen λb o V6 _=>aK.aR W[i] ⟨V6,?_⟩
  refine ea (vs:=W[i].cells) rfl (aK.single _) λWh Wl V5 C q=>?_
  rintro bk T;have F:ai Wl bk:=by rw [T];exact cE _
  clear T;have Y:=ai.aj F C;have g:=(A.new q).new F;have go:j0 W i=true->∀ K,∃ bW,bW<W.length - i/\∃ (V2:Nat) (J:ax),bW=W.length - V2/\V2<=W.length/\qG ⟨b1,0,none⟩ r.eu r.dO r.gX r.dO (IntKind.i64.wrap ((i:Int)+1)) K=qG ⟨b1,0,none⟩ r.eu r.dO r.gX r.dO V2 J/\ai Wg bk/\∀ k,k<V2->j0 W k=true:=by
   intro Wj K;rw [bC (by omega) (by omega)];refine ⟨W.length - (i+1),by omega,i+1,K,rfl,by omega,rfl,g,λk j=>?_⟩;rcases p4.1 j with j | rfl
   ·exact l k j
   ·exact Wj
  refine ⟨λy=>ai bk y,ao.refl _ _,a8 (λWi=>⟨_,λy X=>(ai.aj X Y).cell (i:=0) rfl,_,_,_,λy X=>(ai.aj (g.new X) t).cell (i:=1) rfl,?_⟩) (λWi=>go (by unfold j0;simp;omega) _)⟩;have O:W[i - 1]?=some W[i - 1]:=bD (by omega);have D:=oG (d:=hG) O;refine iW (cells:=aK.cells) aK.len (by omega) (h.rd.new (c.new g)) O (by rw [bC (by omega) (by omega)];omega) hlen λb' Wo V7=>⟨_,λy X=>V7 y X 0 _ rfl,a8 (λWb=>?_) (λWb=>go (by unfold j0;rw [n,D];simp;omega) _)⟩
  rw [if_pos (yW.2 (.inl (xC p (by unfold j0;rw [n,D];simp;omega))))];exact ⟨rfl,c.new g⟩
 have L:(List.range W.length).all (j0 W)=true:=by rw [gU];intro k j;exact l k (by have:=fJ.1 j;omega)
 rw [Ui];refine ⟨_,_,_,(ai.aj A t).cell (i:=1) rfl,?_⟩;clear Z We l;refine c2 mix (λm env z=>∃ (i:Nat) (J:ax),m=W.length - i/\i<=W.length/\env=xl r.eu r.dO r.gX r.dO i J/\ai u z/\∀ k,k<i->j8 (W.getD k hG)=true) W.length
  ⟨0,_,by omega,by omega,rfl,ao.refl _ _,λk j=>by omega⟩ ?_
 rintro m env z ⟨i,J,rfl,We,rfl,R,l⟩;have f:=(c.new A).new R;rw [Tw];refine a8 (λZ=>?_) (λZ=>?_)
 ·have p:i<W.length:=by omega
  have N:W[i]?=some W[i]:=bD p;have n:=oG (d:=hG) N;have bad:j8 W[i]=false->(if ((List.range W.length).all λi=>j0 W i && j8 (W.getD i hG))=false then 1 else (0:Int))=1:=λe=>by rw [if_pos (yW.2 (.inr (xC p (by rw [n];exact e))))]
  refine er (cells:=aK.cells) aK.len (by omega) (h.rd.new f) N rfl hlen λb o V6 _=>aK.aR W[i] ⟨V6,?_⟩
  refine ea (vs:=W[i].cells) rfl (aK.single _) λWh Wm V5 C q=>?_
  refine ⟨_,C.cell (i:=1) rfl,?_⟩;refine aC (Mz Wm W[i].Head) ?_;rintro x Wn ⟨y,rfl,rfl⟩;refine ⟨_,_,rfl,dw (λQ=>?_) (λhe=>⟨_,C.cell (i:=1) rfl,?_⟩)⟩
  ·rw [bad (by unfold j8;cases s:pp W[i].Head with
    |true=>rw [s] at Q;simp at Q
    |false=>rfl)]
   exact ⟨rfl,f.new q⟩
  have s:pp W[i].Head=true:=by
   cases s:pp W[i].Head with
   |true=>rfl
   |false=>rw [s] at he;simp at he
  refine aC (wa Wn W[i].Head) ?_;rintro x Wq ⟨rfl,rfl⟩;refine ⟨_,rfl,ev (λM=>?_) (λS=>?_)⟩
  ·rw [bad (by unfold j8;rw [M,Bool.and_false])];exact ⟨rfl,f.new q⟩
  ·rw [bC (by omega) (by omega)];refine ⟨W.length - (i+1),by omega,i+1,_,rfl,by omega,rfl,R.new q,λk j=>?_⟩;rcases p4.1 j with j | rfl
   ·exact l k j
   ·rw [n];unfold j8;rw [s,S];rfl
 ·rw [Uj];have G:(List.range W.length).all (λi=>j8 (W.getD i hG))=true:=by rw [gU];intro k j;exact l k (by have:=fJ.1 j;omega)
  rw [if_neg (λe=>by
   rcases yW.1 e with e | e
   ·rw [L] at e;cases e
   ·rw [G] at e;cases e)]
  exact ⟨rfl,f⟩
end
section
def Ee (l:List eQ):List ax:=l.map eQ.cells
def pC:eQ:=⟨0,0⟩
def qx (R:List eQ) (i:Nat):Bool:=decide (i=0) || decide ((R.getD (i - 1) pC).bo<(R.getD i pC).bo)
def has (W:List aK) (line:Int):Bool:=W.any λp=>decide (p.bo=line)
def mJ (R:List eQ) (W:List aK) (i:Nat):Bool:=(qx R i && lV (R.getD i pC).Head) && !has W (R.getD i pC).bo
structure cU where
 a1:Int
 seq:Int
 lines:Int
 v:jf
 reads:List eQ
 writes:List aK
def cU.valid (j:cU):Int:=
 if j.a1<0\/6<=j.a1 then 1 else if j.v.valid 5≠0 then j.v.valid 5 else if j.lines<98\/256<j.lines then 18
 else if 0<j.writes.length/\fy j.seq j.writes j.lines≠0 then fy j.seq j.writes j.lines else if 24<j.reads.length then 18
 else if j.reads.all (λs=>iB s.bo j.lines)=false then 2 else if (List.range j.reads.length).all (mJ j.reads j.writes)=false then 1 else 0
structure pY (w:ak) (r:dv) (j:cU):Prop where
 a1:r.Client=j.a1
 seq:r.Seq=j.seq
 lines:r.gw=j.lines
 view:∃ M,gd M w r.View j.v
 rd:bh w r.Reads (Ee j.reads).flatten
 len:r.jX=j.reads.length
 eD:j.reads.length<=1000000
 bQ:fh w r.eu r.dO j.writes
theorem pY.new {w w':ak} {r:dv} {j:cU} (h:pY w r j) (a:ai w w'):pY w' r j:=⟨h.a1,h.seq,h.lines,h.view.imp λ_ h=>h.new a,h.rd.new a,h.len,h.eD,h.bQ.new a⟩
theorem CS (w:ak) (r:dv):a9 168 [r.val] w λx w'=>x=bY.val ⟨r.Seq,r.eu,r.dO,r.gX⟩/\ai w w':=by
 refine bc Tryz.func168 ?_;rw [Uk];rintro b1 w1 j g;obtain ⟨b,d⟩:=bl j g;have b:av w1 b1 r.cells 39:=b;clear g;rintro aA q l h;obtain ⟨c,f⟩:=bl l h;have c:av q aA (bY.cells ⟨0,none,0,0⟩) 271:=c;clear h;have a:=ai.aj f b;have s:=d.size;refine ⟨_,a.cell (i:=1) rfl,_,_,_,a.cell (i:=6) rfl,?_⟩;refine dQ (vs:=bY.cells ⟨r.Seq,r.eu,r.dO,r.gX⟩) c rfl (bY.single _) λt o n=>?_
 refine bY.aR ⟨r.Seq,r.eu,r.dO,r.gX⟩ ⟨bJ o rfl,rfl,rfl,?_⟩;exact (d.new f).trans n λk p e=>by omega
theorem Ca {W:List aK} (h:fh w r.eu r.dO W) (line:Int):a9 171 [r.val,.int .i64 line] w λx w'=>x=.bool (has W line)/\ai w w':=by
 refine bc Tryz.func171 ?_;rw [Ul];rintro b1 w1 j g;obtain ⟨d,k⟩:=bl j g;have d:av w1 b1 r.cells 39:=d;clear g;have hlen:=h.len;have n:=h.eD;refine ⟨_,_,_,d.cell (i:=6) rfl,?_⟩;refine c2 mix (λm env u=>∃ (i:Nat) (q:ax),m=W.length - i/\i<=W.length/\env=w4 line r.eu r.dO r.gX r.dO i q/\ai w u/\has (W.take i) line=false) W.length
  ⟨0,_,by omega,by omega,rfl,k,rfl⟩ ?_
 rintro m env u ⟨i,q,rfl,B,rfl,a,c⟩;rw [Rs];refine a8 (λy=>?_) (λy=>?_)
 ·have e:i<W.length:=by omega
  have p:W[i]?=some W[i]:=bD e;refine er (cells:=aK.cells) aK.len (by omega) (h.rd.new a) p rfl hlen λb o t _=>aK.aR W[i] ⟨t,?_⟩
  refine ea (vs:=W[i].cells) rfl (aK.single _) λA C s l f=>?_
  refine ⟨_,l.cell (i:=0) rfl,dY (λhe=>⟨?_,a.new f⟩) (λhe=>?_)⟩
  ·have:has W line=true:=p6.2 ⟨W[i],jS e,by simpa using he⟩;rw [this]
  ·rw [bC (by omega) (by omega)];refine ⟨W.length - (i+1),by omega,i+1,_,rfl,by omega,rfl,a.new f,?_⟩;unfold has;rw [fc,p,List.any_append];have:=c;unfold has at this;rw [this];simpa using he
 ·rw [So];have z:W.take i=W:=hS (by omega);rw [z] at c;exact ⟨by rw [c],a⟩
end
section
def cU.tail (j:cU):Int:=if j.reads.all (λs=>iB s.bo j.lines)=false then 2 else if (List.range j.reads.length).all (mJ j.reads j.writes)=false then 1 else 0
theorem uP {R:List eQ} {W:List aK} {i:Nat} (h:qx R i=false\/lV (R.getD i pC).Head=false\/has W (R.getD i pC).bo=true):mJ R W i=false:=by
 unfold mJ;rcases h with h | h | h
 ·rw [h];rfl
 ·rw [h,Bool.and_false];rfl
 ·rw [h];simp
theorem Ef {u:ak} {j:cU} {b1:Nat} (h:pY w r j) (au:av u b1 r.cells 39) (V8:ai w u) (K:ax) {R:cB} (F:∀ w',ai w w'->R (.int .i64 j.tail) w') :
  cv prog (.loop (sub (bp f124) [1,1,1,1,1,1,0,1,0,0])) (si ⟨b1,0,none⟩ r.Reads r.jX r.m8 r.jX 0 K) (aM 0 (aU (λenv w=>W prog (sub (bp f124) [1,1,1,1,1,1,1]) env (dD prog f124 R) w) (dD prog f124 R))) u:=by
 have hlen:=h.len;have V3:=h.eD;have O:=h.lines;unfold cU.tail at F;refine c2 mix (λm env z=>∃ (i:Nat) (K:ax),m=j.reads.length - i/\i<=j.reads.length/\env=si ⟨b1,0,none⟩ r.Reads r.jX r.m8 r.jX i K/\ai u z/\(j.reads.take i).all (λs=>iB s.bo j.lines)=true) j.reads.length
  ⟨0,_,by omega,by omega,rfl,ao.refl _ _,rfl⟩ ?_
 rintro m env z ⟨i,K,rfl,V4,rfl,E,f⟩;have t:=V8.new E;rw [SI];refine a8 (λT=>?_) (λT=>?_)
 ·have p:i<j.reads.length:=by omega
  have M:j.reads[i]?=some j.reads[i]:=bD p;refine er (cells:=eQ.cells) eQ.len (by omega) (h.rd.new t) M rfl hlen λb o Y _=>eQ.aR j.reads[i] ⟨Y,?_⟩
  refine ea (vs:=j.reads[i].cells) rfl (eQ.single _) λV6 V5 X I A=>?_
  refine ⟨_,I.cell (i:=0) rfl,_,(ai.aj (E.new A) au).cell (i:=2) rfl,?_⟩;refine aC (Ly _ _ _) ?_;rintro x Wa ⟨rfl,rfl⟩;refine ⟨_,rfl,ev (λL=>?_) (λU=>?_)⟩
  ·rw [if_pos (by rw [yr];exact ⟨_,jS p,by rw [<-O,L];simp⟩)] at F
   exact F _ (t.new A)
  ·rw [bC (by omega) (by omega)];refine ⟨j.reads.length - (i+1),by omega,i+1,_,rfl,by omega,rfl,E.new A,?_⟩;rw [fc,M,List.all_append,f];simp [<-O,U]
 have U:j.reads.take i=j.reads:=hS (by omega);rw [U] at f;rw [if_neg (by rw [f];simp)] at F;rw [Ug];clear f V4 T U;have S:=ai.aj E au;refine ⟨_,_,_,S.cell (i:=5) rfl,?_⟩;refine c2 mix (λm env x=>∃ (i:Nat) (K:ax),m=j.reads.length - i/\i<=j.reads.length/\env=ii ⟨b1,0,none⟩ r.Reads r.jX r.m8 r.jX i K/\ai z x/\∀ k,k<i->mJ j.reads j.writes k=true) j.reads.length
  ⟨0,_,by omega,by omega,rfl,ao.refl _ _,λk C=>by omega⟩ ?_
 rintro m env x ⟨i,K,rfl,V4,rfl,D,f⟩;have q:=t.new D;rw [SJ];refine a8 (λT=>?_) (λT=>?_)
 ·have p:i<j.reads.length:=by omega
  have M:j.reads[i]?=some j.reads[i]:=bD p;have c:=oG (d:=pC) M;have bad:mJ j.reads j.writes i=false->∀ w',ai w w'->R (.int .i64 1) w':=λe w' hw=>by rw [if_pos (xC p e)] at F;exact F w' hw
  refine er (cells:=eQ.cells) eQ.len (by omega) (h.rd.new q) M rfl hlen λb o Y _=>eQ.aR j.reads[i] ⟨Y,?_⟩
  refine ea (vs:=j.reads[i].cells) rfl (eQ.single _) λV6 V5 X I A=>?_
  rintro bk Q;have P:ai V5 bk:=by rw [Q];exact cE _
  clear Q;have n:=A.new P;have B:=ai.aj P I;have J:=ai.aj (D.new n) S;have a:=q.new n;refine ⟨λy=>ai bk y,ao.refl _ _,a8 (λV7=>⟨_,λy g=>(ai.aj g B).cell (i:=0) rfl,_,_,_,λy g=>(ai.aj g J).cell (i:=5) rfl,?_⟩) (λV7=>⟨_,λy g=>(ai.aj g B).cell (i:=1) rfl,?_⟩)⟩
  ·have N:j.reads[i - 1]?=some j.reads[i - 1]:=bD (by omega);have G:=oG (d:=pC) N;refine iW (cells:=eQ.cells) eQ.len (by omega) (h.rd.new a) N (by rw [bC (by omega) (by omega)];omega) hlen λb' V' Z=>⟨_,λy g=>Z y g 0 _ rfl,a8 (λV2=>?_) (λV2=>⟨_,λy g=>(ai.aj g B).cell (i:=1) rfl,?_⟩)⟩
   ·exact bad (uP (.inl (by unfold qx;rw [c,G];simp;omega))) _ a
   have V:qx j.reads i=true:=by unfold qx;rw [c,G];simp;omega
   refine aC (wa bk j.reads[i].Head) ?_;rintro v V9 ⟨rfl,rfl⟩;refine ⟨_,rfl,ao.refl _ _,ev (λL=>?_) (λH=>dv.aR r ⟨λy g=>bJ (ai.aj g J) rfl,_,λy g=>(ai.aj g B).cell (i:=0) rfl,?_⟩)⟩
   ·exact bad (uP (.inr (.inl (by rw [c];exact L)))) _ a
   refine aC (Ca (h.bQ.new a) j.reads[i].bo) ?_;rintro v V_ ⟨rfl,l⟩;refine ⟨_,rfl,l,fX (λhw=>?_) (λhw=>?_)⟩
   ·exact bad (uP (.inr (.inr (by rw [c];exact hw)))) _ (a.new l)
   ·rw [bC (by omega) (by omega)];refine ⟨j.reads.length - (i+1),by omega,i+1,_,rfl,by omega,rfl,(D.new n).new l,λk C=>?_⟩;rcases p4.1 C with C | rfl
    ·exact f k C
    ·unfold mJ;rw [c,V,H,hw];rfl
  ·have V:qx j.reads i=true:=by unfold qx;simp;omega
   refine aC (wa bk j.reads[i].Head) ?_;rintro v V9 ⟨rfl,rfl⟩;refine ⟨_,rfl,ao.refl _ _,ev (λL=>?_) (λH=>dv.aR r ⟨λy g=>bJ (ai.aj g J) rfl,_,λy g=>(ai.aj g B).cell (i:=0) rfl,?_⟩)⟩
   ·exact bad (uP (.inr (.inl (by rw [c];exact L)))) _ a
   refine aC (Ca (h.bQ.new a) j.reads[i].bo) ?_;rintro v V_ ⟨rfl,l⟩;refine ⟨_,rfl,l,fX (λhw=>?_) (λhw=>?_)⟩
   ·exact bad (uP (.inr (.inr (by rw [c];exact hw)))) _ (a.new l)
   ·rw [bC (by omega) (by omega)];refine ⟨j.reads.length - (i+1),by omega,i+1,_,rfl,by omega,rfl,(D.new n).new l,λk C=>?_⟩;rcases p4.1 C with C | rfl
    ·exact f k C
    ·unfold mJ;rw [c,V,H,hw];rfl
 ·rw [Uh];rw [if_neg (by rw [tf,gU];intro k C;exact f k (by have:=fJ.1 C;omega))] at F
  exact F _ q
theorem LA {j:cU} (h:pY w r j):a9 124 [r.val] w λx w'=>x=.int .i64 j.valid/\ai w w':=by
 refine bc Tryz.func124 ?_;rw [Vy];rintro b1 w1 B s;obtain ⟨au,z⟩:=bl B s;have au:av w1 b1 r.cells 39:=au;clear s;have hlen:=h.len;have J:=h.eD;have K:=h.a1;have G:=h.seq;have p:=h.lines;have M:=h.bQ.len;obtain ⟨O,l⟩:=h.view;unfold cU.valid;refine ⟨_,au.cell (i:=0) rfl,a8 (λL=>?_) (λL=>⟨_,au.cell (i:=0) rfl,a8 (λC=>?_) (λC=>?_)⟩)⟩
 ·rw [if_pos (by omega)];exact ⟨rfl,z⟩
 ·rw [if_pos (by omega)];exact ⟨rfl,z⟩
 rw [if_neg (by omega)];refine c3.aR r.View ⟨bJ au rfl,?_⟩;refine aC (CO (l.new z) 5) ?_;rintro x N ⟨rfl,q⟩;have b:=ai.aj q au;have a:=z.new q;refine ⟨_,rfl,dw (λal=>?_) (λal=>?_)⟩
 ·rw [if_pos al];exact ⟨rfl,a⟩
 rw [if_neg (by omega)];refine ⟨_,b.cell (i:=2) rfl,a8 (λD=>?_) (λD=>⟨_,b.cell (i:=2) rfl,a8 (λE=>?_) (λE=>⟨_,_,_,b.cell (i:=6) rfl,a8 (λF=>?_) (λF=>⟨_,_,_,b.cell (i:=5) rfl,a8 (λk=>?_) (λk=>⟨_,_,_,b.cell (i:=5) rfl,?_⟩)⟩)⟩)⟩)⟩
 ·rw [if_pos (by omega)];exact ⟨rfl,a⟩
 ·rw [if_pos (by omega)];exact ⟨rfl,a⟩
 ·rw [if_neg (by omega)];rintro I t;have d:ai N I:=by rw [t];exact cE _
  clear t;have n:=ai.aj d b;refine ⟨λy=>ai I y,ao.refl _ _,dv.aR r ⟨λy H=>bJ (ai.aj H n) rfl,_,λy H=>(ai.aj H n).cell (i:=2) rfl,?_⟩⟩;refine aC (CS I r) ?_;rintro x P ⟨rfl,c⟩;refine bY.aR ⟨r.Seq,r.eu,r.dO,r.gX⟩ ⟨rfl,c,?_⟩;refine aC (ye (r:=⟨r.Seq,r.eu,r.dO,r.gX⟩) (h.bQ.new (a.new (d.new c))) r.gw) ?_;rintro x u ⟨rfl,f⟩;have g:=a.new (d.new (c.new f));have o:=ai.aj (c.new f) n;rw [<-G,<-p];refine ⟨_,rfl,c.new f,dw (λA=>?_) (λA=>⟨_,_,_,o.cell (i:=5) rfl,a8 (λk=>?_) (λk=>⟨_,_,_,o.cell (i:=5) rfl,?_⟩)⟩)⟩
  ·rw [if_pos ⟨by omega,A⟩];exact ⟨rfl,g⟩
  ·rw [if_neg (λe=>e.2 A),if_pos (by omega)];exact ⟨rfl,g⟩
  ·rw [if_neg (λe=>e.2 A),if_neg (by omega),p];exact Ef h o g _ λw' hw=>⟨rfl,hw⟩
 ·rw [if_neg (by omega),if_neg (by omega),if_pos (by omega)];exact ⟨rfl,a⟩
 ·rw [if_neg (by omega),if_neg (by omega),if_neg (by omega)];exact Ef h b a _ λw' hw=>⟨rfl,hw⟩
end
end Go.Proofs.YtmkljjbioomepaaGreat
