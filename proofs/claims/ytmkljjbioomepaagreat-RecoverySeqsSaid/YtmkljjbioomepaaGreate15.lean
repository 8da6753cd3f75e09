import Derived.Test.YtmkljjbioomepaaGreatProg
import Derived.Test.YtmkljjbioomepaaGreate03
import Derived.Test.YtmkljjbioomepaaGreate14
set_option linter.all false
set_option maxHeartbeats 4000000
set_option maxRecDepth 100000
namespace Go.Proofs.YtmkljjbioomepaaGreat
open Go.Proofs.Tryz Go.bn
variable {a:an} {c cg n:Nat} {w:al}
section
open IntKind
variable (w:al) (R:cp) {A:aV} {s:an} {a b:Nat} {i k l:Int} {j:aq} {X:a0}
def qW (s1:aV) (a:an) (b c:Nat) (d f:Int) (j:aq):aq:=ag j 0 1 (.pointer (some s1)::ag j 1 46 (ae a b c::ab d::ab f::ag j 47 45 []))
def EK (a:aV) (j:aq):aq:=ag j 0 1 (.pointer (some a)::ag j 1 94 [])
def ii (s1:aV) (a:an) (b c:Nat) (d f:Int) (j:aq):aq:=ag j 0 1 (.pointer (some s1)::ag j 1 60 (ae a b c::ab d::ab f::ag j 61 31 []))
def EG  (j:aq):aq:=ag j 0 96 []
theorem iB (B:cU):bd prog f124 [B.val] R w=(aQ w B.cells.toArray 39 λe A=>bG A (af e 0) λa=>cond (a<0) (R (ab 1) A) (bG A (af e 0) λb=>cond (b>=6) (R (ab 1) A) (lo A (af e 3) λD=>cm 166 #[D.val,ab 5] A λc j=>cond (c != 0) (R (ab c) j) (bG j (af e 2) λd=>cond (d<98) (R (ab 18) j) (bG j (af e 2) λf=>cond (f>256) (R (ab 18) j) (b0 j (af e 6) λg h i=>cond ((h:Int)>0) (cu j λG C=>tc C (af e 0) λr=>cP C (af e 2) λk=>EW 168 #[r.val] G λF E=>C E/\cm 167 #[F.val,ab k] E λl u=>C u/\cond (l != 0) (R (ab l) u) (b0 u (af e 5) λm n o=>cond ((n:Int)>24) (R (ab 18) u) (b0 u (af e 5) λp q s=>cx prog (cY f124 [1,1,1,1,1,1,0,1,0,0]) (qW (af e 0) p q s (q:Nat) 0 (B.val::ab 0::ab c::ab l::bx 4 (jp (af e 0)::ab a::ad (a<0)::ad false::jp (af e 0)::ab b::ad (b>=6)::ad (b>=6)::jp (af e 3)::D.val::ab c::ab c::ad ((c:Int) != 0)::undef::jp (af e 2)::ab d::ad (d<98)::ad false::jp (af e 2)::ab f::ad (f>256)::ad (f>256)::jp (af e 6)::ae g h i::du h::ad ((h:Int)>0)::r.val::F.val::jp (af e 2)::ab k::ab l::ab l::ad ((l:Int) != 0)::undef::jp (af e 5)::ae m n o::du n::ad ((n:Int)>24)::jp (af e 5)::bx 45 []))) (aW 0 (aZ f124 [1,1,1,1,1,1,1] R)) u))) (b0 j (af e 5) λt v x=>cond ((v:Int)>24) (R (ab 18) j) (b0 j (af e 5) λy z H=>cx prog (cY f124 [1,1,1,1,1,1,0,1,0,0]) (qW (af e 0) y z H (z:Nat) 0 (B.val::ab 0::ab c::bx 5 (jp (af e 0)::ab a::ad (a<0)::ad false::jp (af e 0)::ab b::ad (b>=6)::ad (b>=6)::jp (af e 3)::D.val::ab c::ab c::ad ((c:Int) != 0)::undef::jp (af e 2)::ab d::ad (d<98)::ad false::jp (af e 2)::ab f::ad (f>256)::ad (f>256)::jp (af e 6)::ae g h i::du h::ad ((h:Int)>0)::bx 8 (jp (af e 5)::ae t v x::du v::ad ((v:Int)>24)::jp (af e 5)::bx 45 [])))) (aW 0 (aZ f124 [1,1,1,1,1,1,1] R)) j)))))))):=by kernel_rfl
theorem Rk (f:aq->aE):W prog (sb f124 [1,1,1,1,1,1,0,1,0,0]) (qW A s a b i k j) (a1 f (aW 0 (aZ f124 [1,1,1,1,1,1,1] R))) w=(cond (k<i) (bB s a k 2 λm=>za w m λr=>aQ w #[ab 0,ah 0] 274 λd n=>a_ n (af d 0) 0 r.cells λe=>bG e (af d 0) λg=>bG e (bS A 2) λh=>dm 169 #[ab g,ab h] e λc l=>cond (!c) (R (ab 2) l) (f (qW A s a b i (i64.wrap (k+1)) (ag j 0 5 (jp (af d 0)::ag j 6 41 (ad (k<i)::jp m::r.val::jp (af d 0)::ab g::bE A 2::ab h::ad c::ad (!c)::ab (i64.wrap (k+1))::ag j 57 35 [])))) l)) (W prog (sb f124 [1,1,1,1,1,1,1]) (EK A (ag j 0 47 (ae s a b::ab i::ab k::ad (k<i)::ag j 48 44 []))) (bW f124 R) w)):=by kernel_rfl
theorem SM:W prog (sb f124 [1,1,1,1,1,1,1]) (EK A j) (bW f124 R) w=(b0 w (bS A 5) λb c d=>cx prog (cY f124 [1,1,1,1,1,1,1,0,1,0,0]) (ii A b c d (c:Nat) 0 (ag j 0 60 (bE A 5::ag j 64 31 []))) (aW 2 (aZ f124 [1,1,1,1,1,1,1,1] R)) w):=by kernel_rfl
theorem Rl (C:aq->aE):W prog (sb f124 [1,1,1,1,1,1,1,0,1,0,0]) (ii A s a b i k j) (a1 C (aW 2 (aZ f124 [1,1,1,1,1,1,1,1] R))) w=(cond (k<i) (bB s a k 2 λD=>za w D λr=>aQ w #[ab 0,ah 0] 274 λe a5=>a_ a5 (af e 0) 0 r.cells λa8=>cu a8 λE f=>cond (k>0) (cP f (af e 0) λg=>e1 f (bS A 5) λh c F=>bB h c (i64.wrap (k - 1)) 2 λx=>cP f x λl=>cond (g<=l) (R (ab 1) E) (js f (af e 1) λm=>dm 170 #[ah m] E λn u=>f u/\cond (!n) (R (ab 1) u) (tc f A λH=>cP f (af e 0) λo=>dm 171 #[H.val,ab o] u λp y=>f y/\cond p (R (ab 1) y) (C (ii A s a b i (i64.wrap (k+1)) (ag j 0 6 (ab k::jp (af e 0)::ag j 8 53 [ad (k<i),ab k,jp D,r.val,ab k,ad (k>0),ad true,jp (af e 0),ab g,bE A 5,ae h c F,ab k,ab (i64.wrap (k - 1)),jp x,jp x,ab l,ad (g<=l),ad (g<=l),ad false,jp (af e 1),ah m,ad n,ad (!n),ad (!n),ad false,H.val,jp (af e 0),ab o,ad p,ad p,ab (i64.wrap (k+1))]))) y)))) (js f (af e 1) λq=>dm 170 #[ah q] E λd B=>f B/\cond (!d) (R (ab 1) B) (tc f A λG=>cP f (af e 0) λt=>dm 171 #[G.val,ab t] B λv z=>f z/\cond v (R (ab 1) z) (C (ii A s a b i (i64.wrap (k+1)) (ag j 0 6 (ab k::jp (af e 0)::ag j 8 53 (ad (k<i)::ab k::jp D::r.val::ab k::ad (k>0)::ad false::bx 10 [ad false,ad false,jp (af e 1),ah q,ad d,ad (!d),ad (!d),ad false,G.val,jp (af e 0),ab t,ad v,ad v,ab (i64.wrap (k+1))])))) z)))) (W prog (sb f124 [1,1,1,1,1,1,1,1]) (EG  (aN j 0::jp A::ag j 1 60 (ae s a b::ab i::ab k::ad (k<i)::ag j 62 30 []))) (bW f124 R) w)):=by kernel_rfl
theorem SN:W prog (sb f124 [1,1,1,1,1,1,1,1]) (EG  j) (bW f124 R) w=(R (ab 0) w):=by kernel_rfl
def pC (s2:aV) (a:an) (b c:Nat) (d f:Int) (j:aq):aq:=ag j 0 2 (.pointer (some s2)::ag j 2 39 (ae a b c::ab d::ab f::ag j 41 41 []))
def EH (a:aV) (j:aq):aq:=ag j 0 2 (.pointer (some a)::ag j 2 83 [])
def vH (a:an) (b c:Nat) (d f:Int) (j:aq):aq:=ag j 0 65 (ae a b c::ab d::ab f::ag j 65 18 [])
def EI  (j:aq):aq:=ag j 0 86 []
theorem TS (u:bN):bd prog f167 [u.val,ab i] R w=(aQ w u.cells.toArray 271 λj z=>aQ z #[ab i] 3 λt y=>bG y (af t 0) λx=>dm 203 #[ab x] y λa s=>cond (!a) (R (ab 18) s) (bG s (af j 0) λb=>cond (b<1) (R (ab 1) s) (bG s (af j 0) λc=>cond (c>=1073741824) (R (ab 1) s) (b0 s (af j 1) λd f g=>cond ((f:Int)<1) (R (ab 1) s) (b0 s (af j 1) λh e k=>cond ((e:Int)>12) (R (ab 1) s) (b0 s (af j 1) λl m n=>dm 204 #[ae l m n,.func (.func 205) #[] #[a' t]] s λo v=>cond o (R (ab 2) v) (b0 v (af j 1) λp q r=>cx prog (cY f167 [1,1,0,1,0,0]) (pC (af j 0) p q r (q:Nat) 0 (u.val::ab i::jp (af t 0)::ab 0::bx 6 (ad (!a)::ab x::ad a::ad (!a)::ad ((e:Int)>12)::jp (af j 0)::ab b::ad (b<1)::ad false::jp (af j 0)::ab c::ad (c>=1073741824)::ad (c>=1073741824)::ad false::jp (af j 1)::ae d f g::du f::ad ((f:Int)<1)::ad ((f:Int)<1)::ad false::jp (af j 1)::ae h e k::du e::ad ((e:Int)>12)::ad ((e:Int)>12)::ad o::jp (af j 1)::ae l m n::.func (.func 205) #[] #[a' t]::ad o::jp (af j 1)::bx 41 []))) (aW 1 (aZ f167 [1,1,1] R)) v))))))):=by kernel_rfl
theorem Rm (e:aq->aE):W prog (sb f167 [1,1,0,1,0,0]) (pC A s a b i k j) (a1 e (aW 1 (aZ f167 [1,1,1] R))) w=(cond (k<i) (bB s a k 9 λo=>hG w o λr=>aQ w #[ab 0,ah 0,ah 0,ah 0,ah 0,ah 0,ah 0,ah 0,ah 0] 73 λd t=>a_ t (af d 0) 0 r.cells λq=>cu q λn f=>cond (k>0) (cP f (af d 0) λg=>e1 f (bS A 1) λh c p=>bB h c (i64.wrap (k - 1)) 9 λm=>cP f m λl=>cond (g<=l) (R (ab 1) n) (e (pC A s a b i (i64.wrap (k+1)) (ag j 0 4 (ab k::jp (af d 0)::ag j 6 35 (ad (k<i)::ab k::jp o::r.val::ab k::ad (k>0)::ad true::jp (af d 0)::ab g::bE A 1::ae h c p::ab k::ab (i64.wrap (k - 1))::jp m::jp m::ab l::ad (g<=l)::ad (g<=l)::ab (i64.wrap (k+1))::ag j 60 22 [])))) n)) (e (pC A s a b i (i64.wrap (k+1)) (ag j 0 4 (ab k::jp (af d 0)::ag j 6 35 (ad (k<i)::ab k::jp o::r.val::ab k::ad (k>0)::ad false::bx 10 (ad false::ab (i64.wrap (k+1))::ag j 60 22 []))))) n)) (W prog (sb f167 [1,1,1]) (EH A (ag j 0 41 (ae s a b::ab i::ab k::ad (k<i)::ag j 42 40 []))) (bW f167 R) w)):=by kernel_rfl
theorem SO:W prog (sb f167 [1,1,1]) (EH A j) (bW f167 R) w=(b0 w (bS A 1) λb c d=>cx prog (cY f167 [1,1,1,0,1,0,0]) (vH b c d (c:Nat) 0 (aN j 0::aN j 1::jp A::ag j 2 61 (bE A 1::ag j 67 18 []))) (aW 3 (aZ f167 [1,1,1,1] R)) w):=by kernel_rfl
theorem Rn (o:aq->aE):W prog (sb f167 [1,1,1,0,1,0,0]) (vH s a b i k j) (a1 o (aW 3 (aZ f167 [1,1,1,1] R))) w=(cond (k<i) (bB s a k 9 λp=>hG w p λr=>aQ w #[ab 0,ah 0,ah 0,ah 0,ah 0,ah 0,ah 0,ah 0,ah 0] 73 λd q=>a_ q (af d 0) 0 r.cells λn=>dN n (af d 1) λg=>g6 206 #[ah g] n λh c e=>cond (c != 0) (R (ab 1) e) (dN e (af d 1) λf=>dm 170 #[ah f] e λl m=>cond (!l) (R (ab 1) m) (o (vH s a b i (i64.wrap (k+1)) (ag j 0 8 (jp (af d 0)::ah h::ab c::ag j 11 54 [ad (k<i),jp p,r.val,.tuple #[ah h,ab c],jp (af d 1),ah g,.tuple #[ah h,ab c],ah h,ab c,ab c,ad ((c:Int) != 0),ad false,jp (af d 1),ah f,ad l,ad (!l),ad (!l),ab (i64.wrap (k+1))]))) m))) (W prog (sb f167 [1,1,1,1]) (EI  (ag j 0 65 (ae s a b::ab i::ab k::ad (k<i)::ag j 66 17 []))) (bW f167 R) w)):=by kernel_rfl
theorem SP:W prog (sb f167 [1,1,1,1]) (EI  j) (bW f167 R) w=(R (ab 0) w):=by kernel_rfl
theorem SQ (h:cU):bd prog f168 [h.val] R w=(aQ w h.cells.toArray 39 λj k=>aQ k #[ab 0,a3] 271 λi g=>bG g (af j 1) λa=>b0 g (af j 6) λb c d=>a_ g (af i 0) 0 [ab a,ae b c d] λe=>hn e (af i 0) λf=>e=e/\R f.val e):=by kernel_rfl
def vq (s1:Int) (s8:an) (a b:Nat) (d c:Int) (j:aq):aq:=ag j 0 1 (ab s1::ag j 1 6 (ae s8 a b::ab d::ab c::ag j 7 8 []))
def Em  (j:aq):aq:=ag j 0 19 []
theorem SR (d:cU):bd prog f171 [d.val,ab i] R w=(aQ w d.cells.toArray 39 λe f=>b0 f (af e 6) λa b c=>cx prog (cY f171 [1,0,1,0,0]) (vq i a b c (b:Nat) 0 (d.val::jp (af e 0)::undef::ad false::bx 2 (jp (af e 6)::bx 8 []))) (aW 0 (aZ f171 [1,1] R)) f):=by kernel_rfl
theorem nl (f:aq->aE):W prog (sb f171 [1,0,1,0,0]) (vq i s a b k l j) (a1 f (aW 0 (aZ f171 [1,1] R))) w=(cond (l<k) (bB s a l 9 λg=>hG w g λr=>aQ w #[ab 0,ah 0,ah 0,ah 0,ah 0,ah 0,ah 0,ah 0,ah 0] 73 λc h=>a_ h (af c 0) 0 r.cells λe=>bG e (af c 0) λd=>cond (d == i) (R (ad true) e) (f (vq i s a b k (i64.wrap (l+1)) (ag j 0 5 [jp (af c 0),aN j 6,ad (l<k),jp g,r.val,jp (af c 0),ab d,ab i,ad ((d:Int) == i),ab (i64.wrap (l+1))])) e)) (W prog (sb f171 [1,1]) (Em  (aN j 0::ab i::ag j 1 6 (ae s a b::ab k::ab l::ad (l<k)::ag j 8 7 []))) (bW f171 R) w)):=by kernel_rfl
theorem pm:W prog (sb f171 [1,1]) (Em  j) (bW f171 R) w=(R (ad false) w):=by kernel_rfl
theorem EJ:bd prog f203 [ab i] R w=(cond (i>=98) (R (ad (i<=256)) w) (R (ad false) w)):=by kernel_rfl
theorem OH:bd prog f204 [ae s a b,X] R w=(cm 235 #[ae s a b,X] w λc d=>R (ad (c>=0)) d):=by kernel_rfl
theorem Tl (e:aR):bd prog f205 [e.val,a' a] R w=(aQ w e.cells.toArray 73 λf d=>bG d (af f 0) λc=>cond (c<96) (R (ad true) d) (bG d (af f 0) λb=>bG d (af a 0) λx=>R (ad (b>=x)) d)):=by kernel_rfl
def u1 (c:an) (a b:Nat) (s1:a0) (d s8:Int) (j:aq):aq:=ae c a b::s1::ag j 0 5 (ab d::ab s8::ag j 5 10 [])
def DU  (j:aq):aq:=ag j 0 19 []
theorem OY:bd prog f235 [ae s a b,X] R w=(cx prog (cY f235 [1,0,1,0,0]) (u1 s a b X (a:Nat) 0 (bx 2 (ab 0::undef::ae s a b::bx 10 []))) (aW 0 (aZ f235 [1,1] R)) w):=by kernel_rfl
theorem OJ (d:aq->aE):W prog (sb f235 [1,0,1,0,0]) (u1 s a b X i k j) (a1 d (aW 0 (aZ f235 [1,1] R))) w=(cond (k<i) (bB s a k 9 λf=>hG w f λr=>ix prog X #[r.val] w λe g=>∃ c,e=.returned (ad c)/\cond c (R (ab k) g) (d (u1 s a b X i (i64.wrap (k+1)) [aN j 0,aN j 1,aN j 2,ab k,aN j 4,ad (k<i),ab k,X,ae s a b,ab k,jp f,r.val,ad c,aN j 13,ab (i64.wrap (k+1))]) g)) (W prog (sb f235 [1,1]) (DU  (ae s a b::X::ag j 0 5 (ab i::ab k::ad (k<i)::ag j 6 9 []))) (bW f235 R) w)):=by kernel_rfl
theorem OE:W prog (sb f235 [1,1]) (DU  j) (bW f235 R) w=(R (ab (-1)) w):=by kernel_rfl
end
section
abbrev eN:TypeId:=73
def hz (l:List aR):List aw:=l.map aR.cells
def hB:aR:=⟨0,0,0,0,0,0,0,0,0⟩
def l9 (h:Int):Bool:=gw .u64 h 255 == 0
def jI (h:Int):Bool:=decide (1<=c5 .u64 h 8/\c5 .u64 h 8<=281474976710654)
def hP (p:aR):Bool:=jI p.Head && l9 p.Head
def jg (l:List aR) (i:Nat):Bool:=decide (i=0) || decide ((l.getD (i - 1) hB).bm<(l.getD i hB).bm)
def ff (seq:Int) (W:List aR) (lines:Int):Int:=
 if ¬ (98<=lines/\lines<=256) then 18 else if seq<1\/1073741824<=seq\/W.length<1\/12<W.length then 1
 else if W.all (λp=>hh p.bm lines)=false then 2 else if (List.range W.length).all (λi=>jg W i && hP (W.getD i hB))=false then 1 else 0
theorem LZ {h:Int} (a:b3 h):0<=c5 .u64 h 8/\c5 .u64 h 8<18446744073709551615:=by
 have e:c5 .u64 h 8=h / 256:=by show Int.fdiv h 256=_;rw [tN _ (by decide)]
 have:=a.1;have:=a.2;omega
theorem uP (w:al) (h:Int):ba 170 [.int .u64 h] w λv w'=>v=.bool (l9 h)/\w'=w:=by refine bc Tryz.func170 ?_;rw [Ty];exact ⟨rfl,rfl⟩
theorem BR (w:al) (h:Int):ba 236 [.int .u64 h] w λv w'=>v=.tuple #[.int .u64 (c5 .u64 h 8),.int .i64 (IntKind.i64.wrap (gw .u64 h 255))]/\w'=w:=by refine bc Tryz.func236 ?_;rw [S'];exact ⟨rfl,rfl⟩
theorem Dn {a b c:Int} (h:b=c):∃ x,Value.tuple #[.int .u64 a,.int .i64 b]=.tuple #[.int .u64 x,.int .i64 c]/\w=w:=⟨a,by rw [h],rfl⟩
theorem L0 (w:al) (h:Int):ba 206 [.int .u64 h] w λv w'=>∃ x,v=.tuple #[.int .u64 x,.int .i64 (if jI h=true then 0 else 2)]/\w'=w:=by
 refine bc Tryz.func206 ?_;rw [FP];refine aD (BR w h) ?_;rintro v w1 ⟨rfl,rfl⟩;refine ⟨_,_,rfl,?_⟩;refine aD (zA w1 _ 1 281474976710654) ?_;rintro v c ⟨rfl,rfl⟩;refine ⟨_,rfl,dZ (λa=>Dn ?_) (λb=>Dn ?_)⟩
 ·rw [if_neg (by unfold jI;rw [a];simp)]
 ·rw [if_pos (by unfold jI;exact b)]
structure eY (w:al) (a:an) (n:Nat) (W:List aR):Prop where
 rd:bg w a (hz W).flatten
 len:n=W.length
 dM:W.length<=1000000
 u64:∀ p ∈ W,b3 p.Head
theorem eY.new {w w':al} {a:an} {n:Nat} {W:List aR} (h:eY w a n W) (b:ai w w'):eY w' a n W:=⟨h.rd.new b,h.len,h.dM,h.u64⟩
theorem QM:hU prog 205=true:=by kernel_rfl
theorem NJ (w:al) (p:aR) {lines:Int} (d:w.cell? ⟨cg,0,none⟩=some (.int .i64 lines)):ba 205 [p.val,.pointer (some ⟨cg,0,none⟩)] w λv w'=>v=.bool (decide (p.bm<96) || decide (lines<=p.bm))/\ai w w':=by
 refine bc Tryz.func205 ?_;rw [Tl];rintro b1 w1 b a;obtain ⟨au,c⟩:=bk b a;have au:av w1 b1 p.cells eN:=au;clear a;refine ⟨_,au.cell (i:=0) rfl,a9 (λh=>⟨?_,c⟩) (λh=>⟨_,au.cell (i:=0) rfl,_,jj c d id,?_,c⟩)⟩
 ·rw [decide_eq_true h];rfl
 ·rw [decide_eq_false h];rfl
section
attribute [local irreducible] hU ix mb
theorem Ix {lines:Int} {W:List aR} (h:eY w a n W) (t:w.cell? ⟨cg,0,none⟩=some (.int .i64 lines)) :
  ba 235 [.slice a n c,.func (.func 205) #[] #[.pointer (some ⟨cg,0,none⟩)]] w λv w'=>∃ z:Int,v=.int .i64 z/\(decide (z>=0)=W.any λp=>decide (p.bm<96) || decide (lines<=p.bm))/\ai w w':=by
 have x:=h.len;subst x;have l:=h.dM;refine bc Tryz.func235 ?_;rw [OY];refine c1 mix (λm env u=>∃ (i:Nat) (r:aw),m=W.length - i/\i<=W.length/\env=u1 a W.length c (.func (.func 205) #[] #[.pointer (some ⟨cg,0,none⟩)]) W.length i r/\ai w u/\((W.take i).any λp=>decide (p.bm<96) || decide (lines<=p.bm))=false) W.length
  ⟨0,_,by omega,by omega,rfl,ao.refl _ _,rfl⟩ ?_
 rintro m env u ⟨i,r,rfl,A,rfl,f,d⟩;rw [OJ];refine a9 (λy=>?_) (λy=>?_)
 ·have e:i<W.length:=by omega
  have q:W[i]?=some W[i]:=bM e;refine ew (cells:=aR.cells) aR.len (by omega) (h.rd.new f) q rfl rfl λb o j _=>aR.aS W[i] ⟨j,?_⟩
  refine pU QM (xs:=#[W[i].val,.pointer (some ⟨cg,0,none⟩)]) (by simp) ?_;refine aD (NJ u W[i] (jj f t id)) ?_;rintro v bH ⟨rfl,g⟩;refine ⟨_,rfl,fy (λk=>⟨i,rfl,?_,f.new g⟩) (λk=>?_)⟩
  ·have s:(W.any λp=>decide (p.bm<96) || decide (lines<=p.bm))=true:=o2.2 ⟨W[i],jw e,k⟩;rw [s];simp
  ·rw [bA (by omega) (by omega)];refine ⟨W.length - (i+1),by omega,i+1,_,rfl,by omega,rfl,f.new g,?_⟩;rw [eT,q,List.any_append,d];simpa using k
 ·rw [OE];have:W.take i=W:=gb (by omega);rw [this] at d;exact ⟨-1,rfl,by rw [d];decide,f⟩
end
theorem GP {lines:Int} {W:List aR} (h:eY w a n W) (b:w.cell? ⟨cg,0,none⟩=some (.int .i64 lines)) :
  ba 204 [.slice a n c,.func (.func 205) #[] #[.pointer (some ⟨cg,0,none⟩)]] w λv w'=>v=.bool (W.any λp=>decide (p.bm<96) || decide (lines<=p.bm))/\ai w w':=by
 refine bc Tryz.func204 ?_;rw [OH];refine aD (Ix h b) ?_;rintro v w1 ⟨z,rfl,au,d⟩;exact ⟨_,rfl,by rw [au],d⟩
theorem KI {W:List aR} {lines:Int} (b:98<=lines/\lines<=256):(W.any λp=>decide (p.bm<96) || decide (lines<=p.bm))=!(W.all λp=>hh p.bm lines):=by
 induction W with
 |nil=>rfl
 |cons p W a=>rw [List.any_cons,List.all_cons,a,Bool.not_and];congr 1;unfold hh;rw [Bool.eq_iff_iff];simp;omega
theorem xA {p q:Nat->Bool}:((List.range n).all λi=>p i && q i)=false↔(List.range n).all p=false\/(List.range n).all q=false:=by
 have:((List.range n).all λi=>p i && q i)=((List.range n).all p && (List.range n).all q):=by rw [Bool.eq_iff_iff];simp only [gd,eH];exact ⟨λh=>⟨λx a=>(h x a).1,λx a=>(h x a).2⟩,λh x a=>⟨h.1 x a,h.2 x a⟩⟩
 rw [this,Bool.and_eq_false_iff]
theorem wG {r:bN} {W:List aR} (h:eY w r.ef r.dF W) (lines:Int):ba 167 [r.val,.int .i64 lines] w λx w'=>x=.int .i64 (ff r.Seq W lines)/\ai w w':=by
 refine bc Tryz.func167 ?_;rw [TS];rintro b1 w1 Uj U;obtain ⟨I,Up⟩:=bk Uj U;have I:av w1 b1 r.cells 271:=I;clear U;rintro az Uu Uk V;obtain ⟨B,P⟩:=bk Uk V;have B:av Uu az [.int .i64 lines] 3:=B;clear V;have a:=ai.ak P I;have E:=Up.new P;have hlen:=h.len;have Uv:=h.dM;refine ⟨_,B.cell (i:=0) rfl,?_⟩;have Uo:ba 203 [.int .i64 lines] Uu λv w'=>v=.bool (decide (98<=lines/\lines<=256))/\w'=Uu:=by
  refine bc Tryz.func203 ?_;rw [EJ];refine a9 (λh=>⟨?_,rfl⟩) (λh=>⟨?_,rfl⟩)
  ·have h:98<=lines:=h;congr 1;simp [h]
  ·have h:¬ 98<=lines:=h;congr 1;simp [h]
 refine aD Uo ?_;rintro x UH ⟨rfl,rfl⟩;unfold ff;refine ⟨_,rfl,dZ (λM=>?_) (λS=>?_)⟩
 ·rw [if_pos (by simpa using M)];exact ⟨rfl,E⟩
 have Ux:98<=lines/\lines<=256:=by simpa using S
 rw [if_neg (λe=>e Ux)];refine ⟨_,a.cell (i:=0) rfl,a9 (λUD=>?_) (λUD=>⟨_,a.cell (i:=0) rfl,a9 (λUq=>?_) (λUq=>⟨_,_,_,a.cell (i:=1) rfl,a9 (λUr=>?_) (λUr=>⟨_,_,_,a.cell (i:=1) rfl,a9 (λUs=>?_) (λUs=>⟨_,_,_,a.cell (i:=1) rfl,?_⟩)⟩)⟩)⟩)⟩
 ·rw [if_pos (by omega)];exact ⟨rfl,E⟩
 ·rw [if_pos (by omega)];exact ⟨rfl,E⟩
 ·rw [if_pos (by omega)];exact ⟨rfl,E⟩
 ·rw [if_pos (by omega)];exact ⟨rfl,E⟩
 rw [if_neg (by omega)];refine aD (GP (h.new E) (B.cell (i:=0) rfl)) ?_;rintro x Uz ⟨rfl,H⟩;rw [KI Ux];refine ⟨_,rfl,dZ (λM=>?_) (λS=>?_)⟩
 ·rw [if_pos M];exact ⟨rfl,E.new H⟩
 rw [if_neg (by rw [S];simp)];have t:=ai.ak H a;have c:=E.new H;refine ⟨_,_,_,t.cell (i:=1) rfl,?_⟩;refine c1 mix (λm env u=>∃ (i:Nat) (J:aw),m=W.length - i/\i<=W.length/\env=pC ⟨b1,0,none⟩ r.ef r.dF r.gT r.dF i J/\ai Uz u/\∀ k,k<i->jg W k=true) W.length
  ⟨0,_,by omega,by omega,rfl,ao.refl _ _,λk j=>by omega⟩ ?_
 rintro m env u ⟨i,J,rfl,Uw,rfl,A,l⟩;rw [Rm];refine a9 (λZ=>?_) (λZ=>?_)
 ·have p:i<W.length:=by omega
  have N:W[i]?=some W[i]:=bM p;have n:=nL (d:=hB) N;refine ew (cells:=aR.cells) aR.len (by omega) (h.rd.new (c.new A)) N rfl hlen λb o Um _=>aR.aS W[i] ⟨Um,?_⟩
  refine dU (vs:=W[i].cells) rfl (aR.single _) λUA bY Ul C q=>?_
  rintro br T;have F:ai bY br:=by rw [T];exact cL _
  clear T;have Y:=ai.ak F C;have g:=(A.new q).new F;have go:jg W i=true->∀ K,∃ Uy,Uy<W.length - i/\∃ (Ui:Nat) (J:aw),Uy=W.length - Ui/\Ui<=W.length/\pC ⟨b1,0,none⟩ r.ef r.dF r.gT r.dF (IntKind.i64.wrap ((i:Int)+1)) K=pC ⟨b1,0,none⟩ r.ef r.dF r.gT r.dF Ui J/\ai Uz br/\∀ k,k<Ui->jg W k=true:=by
   intro UC K;rw [bA (by omega) (by omega)];refine ⟨W.length - (i+1),by omega,i+1,K,rfl,by omega,rfl,g,λk j=>?_⟩;rcases o0.1 j with j | rfl
   ·exact l k j
   ·exact UC
  refine ⟨λy=>ai br y,ao.refl _ _,a9 (λUB=>⟨_,λy X=>(ai.ak X Y).cell (i:=0) rfl,_,_,_,λy X=>(ai.ak (g.new X) t).cell (i:=1) rfl,?_⟩) (λUB=>go (by unfold jg;simp;omega) _)⟩;have O:W[i - 1]?=some W[i - 1]:=bM (by omega);have D:=nL (d:=hB) O;refine j8 (cells:=aR.cells) aR.len (by omega) (h.rd.new (c.new g)) O (by rw [bA (by omega) (by omega)];omega) hlen λb' UG Un=>⟨_,λy X=>Un y X 0 _ rfl,a9 (λUt=>?_) (λUt=>go (by unfold jg;rw [n,D];simp;omega) _)⟩
  rw [if_pos (xA.2 (.inl (vT p (by unfold jg;rw [n,D];simp;omega))))];exact ⟨rfl,c.new g⟩
 have L:(List.range W.length).all (jg W)=true:=by rw [gd];intro k j;exact l k (by have:=dS.1 j;omega)
 rw [SO];refine ⟨_,_,_,(ai.ak A t).cell (i:=1) rfl,?_⟩;clear Z Uw l;refine c1 mix (λm env z=>∃ (i:Nat) (J:aw),m=W.length - i/\i<=W.length/\env=vH r.ef r.dF r.gT r.dF i J/\ai u z/\∀ k,k<i->hP (W.getD k hB)=true) W.length
  ⟨0,_,by omega,by omega,rfl,ao.refl _ _,λk j=>by omega⟩ ?_
 rintro m env z ⟨i,J,rfl,Uw,rfl,R,l⟩;have f:=(c.new A).new R;rw [Rn];refine a9 (λZ=>?_) (λZ=>?_)
 ·have p:i<W.length:=by omega
  have N:W[i]?=some W[i]:=bM p;have n:=nL (d:=hB) N;have bad:hP W[i]=false->(if ((List.range W.length).all λi=>jg W i && hP (W.getD i hB))=false then 1 else (0:Int))=1:=λe=>by rw [if_pos (xA.2 (.inr (vT p (by rw [n];exact e))))]
  refine ew (cells:=aR.cells) aR.len (by omega) (h.rd.new f) N rfl hlen λb o Um _=>aR.aS W[i] ⟨Um,?_⟩
  refine dU (vs:=W[i].cells) rfl (aR.single _) λUA UE Ul C q=>?_
  refine ⟨_,C.cell (i:=1) rfl,?_⟩;refine aD (L0 UE W[i].Head) ?_;rintro x UF ⟨y,rfl,rfl⟩;refine ⟨_,_,rfl,dt (λQ=>?_) (λhe=>⟨_,C.cell (i:=1) rfl,?_⟩)⟩
  ·rw [bad (by unfold hP;cases s:jI W[i].Head with
    |true=>rw [s] at Q;simp at Q
    |false=>rfl)]
   exact ⟨rfl,f.new q⟩
  have s:jI W[i].Head=true:=by
   cases s:jI W[i].Head with
   |true=>rfl
   |false=>rw [s] at he;simp at he
  refine aD (uP UF W[i].Head) ?_;rintro x UI ⟨rfl,rfl⟩;refine ⟨_,rfl,dZ (λM=>?_) (λS=>?_)⟩
  ·rw [bad (by unfold hP;rw [M,Bool.and_false])];exact ⟨rfl,f.new q⟩
  ·rw [bA (by omega) (by omega)];refine ⟨W.length - (i+1),by omega,i+1,_,rfl,by omega,rfl,R.new q,λk j=>?_⟩;rcases o0.1 j with j | rfl
   ·exact l k j
   ·rw [n];unfold hP;rw [s,S];rfl
 ·rw [SP];have G:(List.range W.length).all (λi=>hP (W.getD i hB))=true:=by rw [gd];intro k j;exact l k (by have:=dS.1 j;omega)
  rw [if_neg (λe=>by
   rcases xA.1 e with e | e
   ·rw [L] at e;cases e
   ·rw [G] at e;cases e)]
  exact ⟨rfl,f⟩
end
section
def CN (l:List en):List aw:=l.map en.cells
def oE:en:=⟨0,0⟩
def ps (R:List en) (i:Nat):Bool:=decide (i=0) || decide ((R.getD (i - 1) oE).bm<(R.getD i oE).bm)
def has (W:List aR) (line:Int):Bool:=W.any λp=>decide (p.bm=line)
def l5 (R:List en) (W:List aR) (i:Nat):Bool:=(ps R i && l9 (R.getD i oE).Head) && !has W (R.getD i oE).bm
structure b_ where
 aP:Int
 seq:Int
 lines:Int
 v:iI
 reads:List en
 writes:List aR
def b_.valid (j:b_):Int:=
 if j.aP<0\/6<=j.aP then 1 else if j.v.valid 5≠0 then j.v.valid 5 else if j.lines<98\/256<j.lines then 18
 else if 0<j.writes.length/\ff j.seq j.writes j.lines≠0 then ff j.seq j.writes j.lines else if 24<j.reads.length then 18
 else if j.reads.all (λs=>hh s.bm j.lines)=false then 2 else if (List.range j.reads.length).all (l5 j.reads j.writes)=false then 1 else 0
structure oW (w:al) (r:cU) (j:b_):Prop where
 aP:r.Client=j.aP
 seq:r.Seq=j.seq
 lines:r.gS=j.lines
 view:∃ M,fG M w r.View j.v
 rd:bg w r.Reads (CN j.reads).flatten
 len:r.ky=j.reads.length
 dM:j.reads.length<=1000000
 fR:eY w r.ef r.dF j.writes
theorem oW.new {w w':al} {r:cU} {j:b_} (h:oW w r j) (a:ai w w'):oW w' r j:=⟨h.aP,h.seq,h.lines,h.view.imp λ_ h=>h.new a,h.rd.new a,h.len,h.dM,h.fR.new a⟩
theorem BA (w:al) (r:cU):ba 168 [r.val] w λx w'=>x=bN.val ⟨r.Seq,r.ef,r.dF,r.gT⟩/\ai w w':=by
 refine bc Tryz.func168 ?_;rw [SQ];rintro b1 w1 j g;obtain ⟨b,d⟩:=bk j g;have b:av w1 b1 r.cells 39:=b;clear g;rintro az q l h;obtain ⟨c,f⟩:=bk l h;have c:av q az (bN.cells ⟨0,none,0,0⟩) 271:=c;clear h;have a:=ai.ak f b;have s:=d.size;refine ⟨_,a.cell (i:=1) rfl,_,_,_,a.cell (i:=6) rfl,?_⟩;refine dC (vs:=bN.cells ⟨r.Seq,r.ef,r.dF,r.gT⟩) c rfl (bN.single _) λt o n=>?_
 refine bN.aS ⟨r.Seq,r.ef,r.dF,r.gT⟩ ⟨bI o rfl,rfl,rfl,?_⟩;exact (d.new f).trans n λk p e=>by omega
theorem Ai {r:cU} {W:List aR} (h:eY w r.ef r.dF W) (line:Int):ba 171 [r.val,.int .i64 line] w λx w'=>x=.bool (has W line)/\ai w w':=by
 refine bc Tryz.func171 ?_;rw [SR];rintro b1 w1 j g;obtain ⟨d,k⟩:=bk j g;have d:av w1 b1 r.cells 39:=d;clear g;have hlen:=h.len;have n:=h.dM;refine ⟨_,_,_,d.cell (i:=6) rfl,?_⟩;refine c1 mix (λm env u=>∃ (i:Nat) (q:aw),m=W.length - i/\i<=W.length/\env=vq line r.ef r.dF r.gT r.dF i q/\ai w u/\has (W.take i) line=false) W.length
  ⟨0,_,by omega,by omega,rfl,k,rfl⟩ ?_
 rintro m env u ⟨i,q,rfl,B,rfl,a,c⟩;rw [nl];refine a9 (λy=>?_) (λy=>?_)
 ·have e:i<W.length:=by omega
  have p:W[i]?=some W[i]:=bM e;refine ew (cells:=aR.cells) aR.len (by omega) (h.rd.new a) p rfl hlen λb o t _=>aR.aS W[i] ⟨t,?_⟩
  refine dU (vs:=W[i].cells) rfl (aR.single _) λA bY s l f=>?_
  refine ⟨_,l.cell (i:=0) rfl,dJ (λhe=>⟨?_,a.new f⟩) (λhe=>?_)⟩
  ·have:has W line=true:=o2.2 ⟨W[i],jw e,by simpa using he⟩;rw [this]
  ·rw [bA (by omega) (by omega)];refine ⟨W.length - (i+1),by omega,i+1,_,rfl,by omega,rfl,a.new f,?_⟩;unfold has;rw [eT,p,List.any_append];have:=c;unfold has at this;rw [this];simpa using he
 ·rw [pm];have z:W.take i=W:=gb (by omega);rw [z] at c;exact ⟨by rw [c],a⟩
end
section
def b_.tail (j:b_):Int:=if j.reads.all (λs=>hh s.bm j.lines)=false then 2 else if (List.range j.reads.length).all (l5 j.reads j.writes)=false then 1 else 0
theorem s5 {R:List en} {W:List aR} {i:Nat} (h:ps R i=false\/l9 (R.getD i oE).Head=false\/has W (R.getD i oE).bm=true):l5 R W i=false:=by
 unfold l5;rcases h with h | h | h
 ·rw [h];rfl
 ·rw [h,Bool.and_false];rfl
 ·rw [h];simp
theorem CO {u:al} {r:cU} {j:b_} {b1:Nat} (h:oW w r j) (au:av u b1 r.cells 39) (Un:ai w u) (K:aw) {R:cp} (F:∀ w',ai w w'->R (.int .i64 j.tail) w') :
  cx prog (.loop (sub (bh f124) [1,1,1,1,1,1,0,1,0,0])) (qW ⟨b1,0,none⟩ r.Reads r.ky r.ob r.ky 0 K) (aW 0 (a1 (λenv w=>W prog (sub (bh f124) [1,1,1,1,1,1,1]) env (dh prog f124 R) w) (dh prog f124 R))) u:=by
 have hlen:=h.len;have Uj:=h.dM;have O:=h.lines;unfold b_.tail at F;refine c1 mix (λm env z=>∃ (i:Nat) (K:aw),m=j.reads.length - i/\i<=j.reads.length/\env=qW ⟨b1,0,none⟩ r.Reads r.ky r.ob r.ky i K/\ai u z/\(j.reads.take i).all (λs=>hh s.bm j.lines)=true) j.reads.length
  ⟨0,_,by omega,by omega,rfl,ao.refl _ _,rfl⟩ ?_
 rintro m env z ⟨i,K,rfl,Uk,rfl,E,f⟩;have t:=Un.new E;rw [Rk];refine a9 (λT=>?_) (λT=>?_)
 ·have p:i<j.reads.length:=by omega
  have M:j.reads[i]?=some j.reads[i]:=bM p;refine ew (cells:=en.cells) en.len (by omega) (h.rd.new t) M rfl hlen λb o Y _=>en.aS j.reads[i] ⟨Y,?_⟩
  refine dU (vs:=j.reads[i].cells) rfl (en.single _) λUl bY X I A=>?_
  refine ⟨_,I.cell (i:=0) rfl,_,(ai.ak (E.new A) au).cell (i:=2) rfl,?_⟩;refine aD (KH _ _ _) ?_;rintro x Ur ⟨rfl,rfl⟩;refine ⟨_,rfl,dZ (λL=>?_) (λU=>?_)⟩
  ·rw [if_pos (by rw [wS];exact ⟨_,jw p,by rw [<-O,L];simp⟩)] at F
   exact F _ (t.new A)
  ·rw [bA (by omega) (by omega)];refine ⟨j.reads.length - (i+1),by omega,i+1,_,rfl,by omega,rfl,E.new A,?_⟩;rw [eT,M,List.all_append,f];simp [<-O,U]
 have U:j.reads.take i=j.reads:=gb (by omega);rw [U] at f;rw [if_neg (by rw [f];simp)] at F;rw [SM];clear f Uk T U;have S:=ai.ak E au;refine ⟨_,_,_,S.cell (i:=5) rfl,?_⟩;refine c1 mix (λm env x=>∃ (i:Nat) (K:aw),m=j.reads.length - i/\i<=j.reads.length/\env=ii ⟨b1,0,none⟩ r.Reads r.ky r.ob r.ky i K/\ai z x/\∀ k,k<i->l5 j.reads j.writes k=true) j.reads.length
  ⟨0,_,by omega,by omega,rfl,ao.refl _ _,λk C=>by omega⟩ ?_
 rintro m env x ⟨i,K,rfl,Uk,rfl,D,f⟩;have q:=t.new D;rw [Rl];refine a9 (λT=>?_) (λT=>?_)
 ·have p:i<j.reads.length:=by omega
  have M:j.reads[i]?=some j.reads[i]:=bM p;have c:=nL (d:=oE) M;have bad:l5 j.reads j.writes i=false->∀ w',ai w w'->R (.int .i64 1) w':=λe w' hw=>by rw [if_pos (vT p e)] at F;exact F w' hw
  refine ew (cells:=en.cells) en.len (by omega) (h.rd.new q) M rfl hlen λb o Y _=>en.aS j.reads[i] ⟨Y,?_⟩
  refine dU (vs:=j.reads[i].cells) rfl (en.single _) λUl bY X I A=>?_
  rintro br Q;have P:ai bY br:=by rw [Q];exact cL _
  clear Q;have n:=A.new P;have B:=ai.ak P I;have J:=ai.ak (D.new n) S;have a:=q.new n;refine ⟨λy=>ai br y,ao.refl _ _,a9 (λUm=>⟨_,λy g=>(ai.ak g B).cell (i:=0) rfl,_,_,_,λy g=>(ai.ak g J).cell (i:=5) rfl,?_⟩) (λUm=>⟨_,λy g=>(ai.ak g B).cell (i:=1) rfl,?_⟩)⟩
  ·have N:j.reads[i - 1]?=some j.reads[i - 1]:=bM (by omega);have G:=nL (d:=oE) N;refine j8 (cells:=en.cells) en.len (by omega) (h.rd.new a) N (by rw [bA (by omega) (by omega)];omega) hlen λb' Uq Z=>⟨_,λy g=>Z y g 0 _ rfl,a9 (λUi=>?_) (λUi=>⟨_,λy g=>(ai.ak g B).cell (i:=1) rfl,?_⟩)⟩
   ·exact bad (s5 (.inl (by unfold ps;rw [c,G];simp;omega))) _ a
   have V:ps j.reads i=true:=by unfold ps;rw [c,G];simp;omega
   refine aD (uP br j.reads[i].Head) ?_;rintro v Uo ⟨rfl,rfl⟩;refine ⟨_,rfl,ao.refl _ _,dZ (λL=>?_) (λH=>cU.aS r ⟨λy g=>bI (ai.ak g J) rfl,_,λy g=>(ai.ak g B).cell (i:=0) rfl,?_⟩)⟩
   ·exact bad (s5 (.inr (.inl (by rw [c];exact L)))) _ a
   refine aD (Ai (h.fR.new a) j.reads[i].bm) ?_;rintro v Up ⟨rfl,l⟩;refine ⟨_,rfl,l,fy (λhw=>?_) (λhw=>?_)⟩
   ·exact bad (s5 (.inr (.inr (by rw [c];exact hw)))) _ (a.new l)
   ·rw [bA (by omega) (by omega)];refine ⟨j.reads.length - (i+1),by omega,i+1,_,rfl,by omega,rfl,(D.new n).new l,λk C=>?_⟩;rcases o0.1 C with C | rfl
    ·exact f k C
    ·unfold l5;rw [c,V,H,hw];rfl
  ·have V:ps j.reads i=true:=by unfold ps;simp;omega
   refine aD (uP br j.reads[i].Head) ?_;rintro v Uo ⟨rfl,rfl⟩;refine ⟨_,rfl,ao.refl _ _,dZ (λL=>?_) (λH=>cU.aS r ⟨λy g=>bI (ai.ak g J) rfl,_,λy g=>(ai.ak g B).cell (i:=0) rfl,?_⟩)⟩
   ·exact bad (s5 (.inr (.inl (by rw [c];exact L)))) _ a
   refine aD (Ai (h.fR.new a) j.reads[i].bm) ?_;rintro v Up ⟨rfl,l⟩;refine ⟨_,rfl,l,fy (λhw=>?_) (λhw=>?_)⟩
   ·exact bad (s5 (.inr (.inr (by rw [c];exact hw)))) _ (a.new l)
   ·rw [bA (by omega) (by omega)];refine ⟨j.reads.length - (i+1),by omega,i+1,_,rfl,by omega,rfl,(D.new n).new l,λk C=>?_⟩;rcases o0.1 C with C | rfl
    ·exact f k C
    ·unfold l5;rw [c,V,H,hw];rfl
 ·rw [SN];rw [if_neg (by rw [o4,gd];intro k C;exact f k (by have:=dS.1 C;omega))] at F
  exact F _ q
theorem KJ {r:cU} {j:b_} (h:oW w r j):ba 124 [r.val] w λx w'=>x=.int .i64 j.valid/\ai w w':=by
 refine bc Tryz.func124 ?_;rw [iB];rintro b1 w1 B s;obtain ⟨au,z⟩:=bk B s;have au:av w1 b1 r.cells 39:=au;clear s;have hlen:=h.len;have J:=h.dM;have K:=h.aP;have G:=h.seq;have p:=h.lines;have M:=h.fR.len;obtain ⟨O,l⟩:=h.view;unfold b_.valid;refine ⟨_,au.cell (i:=0) rfl,a9 (λL=>?_) (λL=>⟨_,au.cell (i:=0) rfl,a9 (λC=>?_) (λC=>?_)⟩)⟩
 ·rw [if_pos (by omega)];exact ⟨rfl,z⟩
 ·rw [if_pos (by omega)];exact ⟨rfl,z⟩
 rw [if_neg (by omega)];refine cO.aS r.View ⟨bI au rfl,?_⟩;refine aD (Bw (l.new z) 5) ?_;rintro x N ⟨rfl,q⟩;have b:=ai.ak q au;have a:=z.new q;refine ⟨_,rfl,dt (λaj=>?_) (λaj=>?_)⟩
 ·rw [if_pos aj];exact ⟨rfl,a⟩
 rw [if_neg (by omega)];refine ⟨_,b.cell (i:=2) rfl,a9 (λD=>?_) (λD=>⟨_,b.cell (i:=2) rfl,a9 (λE=>?_) (λE=>⟨_,_,_,b.cell (i:=6) rfl,a9 (λF=>?_) (λF=>⟨_,_,_,b.cell (i:=5) rfl,a9 (λk=>?_) (λk=>⟨_,_,_,b.cell (i:=5) rfl,?_⟩)⟩)⟩)⟩)⟩
 ·rw [if_pos (by omega)];exact ⟨rfl,a⟩
 ·rw [if_pos (by omega)];exact ⟨rfl,a⟩
 ·rw [if_neg (by omega)];rintro I t;have d:ai N I:=by rw [t];exact cL _
  clear t;have n:=ai.ak d b;refine ⟨λy=>ai I y,ao.refl _ _,cU.aS r ⟨λy H=>bI (ai.ak H n) rfl,_,λy H=>(ai.ak H n).cell (i:=2) rfl,?_⟩⟩;refine aD (BA I r) ?_;rintro x P ⟨rfl,c⟩;refine bN.aS ⟨r.Seq,r.ef,r.dF,r.gT⟩ ⟨rfl,c,?_⟩;refine aD (wG (r:=⟨r.Seq,r.ef,r.dF,r.gT⟩) (h.fR.new (a.new (d.new c))) r.gS) ?_;rintro x u ⟨rfl,f⟩;have g:=a.new (d.new (c.new f));have o:=ai.ak (c.new f) n;rw [<-G,<-p];refine ⟨_,rfl,c.new f,dt (λA=>?_) (λA=>⟨_,_,_,o.cell (i:=5) rfl,a9 (λk=>?_) (λk=>⟨_,_,_,o.cell (i:=5) rfl,?_⟩)⟩)⟩
  ·rw [if_pos ⟨by omega,A⟩];exact ⟨rfl,g⟩
  ·rw [if_neg (λe=>e.2 A),if_pos (by omega)];exact ⟨rfl,g⟩
  ·rw [if_neg (λe=>e.2 A),if_neg (by omega),p];exact CO h o g _ λw' hw=>⟨rfl,hw⟩
 ·rw [if_neg (by omega),if_neg (by omega),if_pos (by omega)];exact ⟨rfl,a⟩
 ·rw [if_neg (by omega),if_neg (by omega),if_neg (by omega)];exact CO h b a _ λw' hw=>⟨rfl,hw⟩
end
end Go.Proofs.YtmkljjbioomepaaGreat
