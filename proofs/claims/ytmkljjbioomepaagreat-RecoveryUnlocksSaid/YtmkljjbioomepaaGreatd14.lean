import Derived.Test.YtmkljjbioomepaaGreatProg
import Derived.Test.YtmkljjbioomepaaGreatd03
import Derived.Test.YtmkljjbioomepaaGreatd13
set_option linter.all false
set_option maxHeartbeats 4000000
set_option maxRecDepth 100000
namespace Go.Proofs.YtmkljjbioomepaaGreat
open Go.Proofs.Tryz Go.bs
variable {a:an} {c cB n:Nat} {r:dt} {w:ak}
section
open IntKind
variable (w:ak) (R:cz) {A:aX} {s:an} {a b:Nat} {i k l:Int} {j:ar} {X:a4}
def sv (s1:aX) (a:an) (b c:Nat) (d f:Int) (j:ar):ar:=ag j 0 1 (.pointer (some s1)::ag j 1 46 (ae a b c::ab d::ab f::ag j 47 45 []))
def qr (a:aX) (j:ar):ar:=ag j 0 1 (.pointer (some a)::ag j 1 94 [])
def uH (s1:aX) (a:an) (b c:Nat) (d f:Int) (j:ar):ar:=ag j 0 1 (.pointer (some s1)::ag j 1 60 (ae a b c::ab d::ab f::ag j 61 31 []))
def GP  (j:ar):ar:=ag j 0 96 []
theorem W8 (B:dt):bf prog f124 [B.val] R w=(aS w B.cells.toArray 39 λe A=>bX A (af e 0) λa=>cond (a<0) (R (ab 1) A) (bX A (af e 0) λb=>cond (b>=6) (R (ab 1) A) (l5 A (af e 3) λD=>ct 166 #[D.val,ab 5] A λc j=>cond (c != 0) (R (ab c) j) (bX j (af e 2) λd=>cond (d<98) (R (ab 18) j) (bX j (af e 2) λf=>cond (f>256) (R (ab 18) j) (b_ j (af e 6) λg h i=>cond ((h:Int)>0) (cw j λG C=>uW C (af e 0) λr=>cV C (af e 2) λk=>GW 168 #[r.val] G λF E=>C E/\ct 167 #[F.val,ab k] E λl u=>C u/\cond (l != 0) (R (ab l) u) (b_ u (af e 5) λm n o=>cond ((n:Int)>24) (R (ab 18) u) (b_ u (af e 5) λp q s=>cG prog (c7 f124 [1,1,1,1,1,1,0,1,0,0]) (sv (af e 0) p q s (q:Nat) 0 (B.val::ab 0::ab c::ab l::bD 4 (jp (af e 0)::ab a::ad (a<0)::ad false::jp (af e 0)::ab b::ad (b>=6)::ad (b>=6)::jp (af e 3)::D.val::ab c::ab c::ad ((c:Int) != 0)::undef::jp (af e 2)::ab d::ad (d<98)::ad false::jp (af e 2)::ab f::ad (f>256)::ad (f>256)::jp (af e 6)::ae g h i::eo h::ad ((h:Int)>0)::r.val::F.val::jp (af e 2)::ab k::ab l::ab l::ad ((l:Int) != 0)::undef::jp (af e 5)::ae m n o::eo n::ad ((n:Int)>24)::jp (af e 5)::bD 45 []))) (aP 0 (aU f124 [1,1,1,1,1,1,1] R)) u))) (b_ j (af e 5) λt v x=>cond ((v:Int)>24) (R (ab 18) j) (b_ j (af e 5) λy z H=>cG prog (c7 f124 [1,1,1,1,1,1,0,1,0,0]) (sv (af e 0) y z H (z:Nat) 0 (B.val::ab 0::ab c::bD 5 (jp (af e 0)::ab a::ad (a<0)::ad false::jp (af e 0)::ab b::ad (b>=6)::ad (b>=6)::jp (af e 3)::D.val::ab c::ab c::ad ((c:Int) != 0)::undef::jp (af e 2)::ab d::ad (d<98)::ad false::jp (af e 2)::ab f::ad (f>256)::ad (f>256)::jp (af e 6)::ae g h i::eo h::ad ((h:Int)>0)::bD 8 (jp (af e 5)::ae t v x::eo v::ad ((v:Int)>24)::jp (af e 5)::bD 45 [])))) (aP 0 (aU f124 [1,1,1,1,1,1,1] R)) j)))))))):=by kernel_rfl
theorem Ue (l:ar->aF):W prog (sb f124 [1,1,1,1,1,1,0,1,0,0]) (sv A s a b i k j) (aZ l (aP 0 (aU f124 [1,1,1,1,1,1,1] R))) w=(cond (k<i) (bA s a k 2 λm=>AT w m λr=>aS w #[ab 0,ah 0] 274 λd n=>a_ n (af d 0) 0 r.cells λe=>bX e (af d 0) λg=>bX e (bY A 2) λh=>dn 169 #[ab g,ab h] e λc f=>cond (!c) (R (ab 2) f) (l (sv A s a b i (i64.wrap (k+1)) (ag j 0 5 (jp (af d 0)::ag j 6 41 (ad (k<i)::jp m::r.val::jp (af d 0)::ab g::bL A 2::ab h::ad c::ad (!c)::ab (i64.wrap (k+1))::ag j 57 35 [])))) f)) (W prog (sb f124 [1,1,1,1,1,1,1]) (qr A (ag j 0 47 (ae s a b::ab i::ab k::ad (k<i)::ag j 48 44 []))) (b7 f124 R) w)):=by kernel_rfl
theorem VH:W prog (sb f124 [1,1,1,1,1,1,1]) (qr A j) (b7 f124 R) w=(b_ w (bY A 5) λb c d=>cG prog (c7 f124 [1,1,1,1,1,1,1,0,1,0,0]) (uH A b c d (c:Nat) 0 (ag j 0 60 (bL A 5::ag j 64 31 []))) (aP 2 (aU f124 [1,1,1,1,1,1,1,1] R)) w):=by kernel_rfl
theorem Uf (D:ar->aF):W prog (sb f124 [1,1,1,1,1,1,1,0,1,0,0]) (uH A s a b i k j) (aZ D (aP 2 (aU f124 [1,1,1,1,1,1,1,1] R))) w=(cond (k<i) (bA s a k 2 λz=>AT w z λr=>aS w #[ab 0,ah 0] 274 λe a9=>a_ a9 (af e 0) 0 r.cells λa'=>cw a' λB f=>cond (k>0) (cV f (af e 0) λg=>e6 f (bY A 5) λh c G=>bA h c (i64.wrap (k - 1)) 2 λx=>cV f x λl=>cond (g<=l) (R (ab 1) B) (j1 f (af e 1) λm=>dn 170 #[ah m] B λn y=>f y/\cond (!n) (R (ab 1) y) (uW f A λF=>cV f (af e 0) λo=>dn 171 #[F.val,ab o] y λp u=>f u/\cond p (R (ab 1) u) (D (uH A s a b i (i64.wrap (k+1)) (ag j 0 6 (ab k::jp (af e 0)::ag j 8 53 [ad (k<i),ab k,jp z,r.val,ab k,ad (k>0),ad true,jp (af e 0),ab g,bL A 5,ae h c G,ab k,ab (i64.wrap (k - 1)),jp x,jp x,ab l,ad (g<=l),ad (g<=l),ad false,jp (af e 1),ah m,ad n,ad (!n),ad (!n),ad false,F.val,jp (af e 0),ab o,ad p,ad p,ab (i64.wrap (k+1))]))) u)))) (j1 f (af e 1) λq=>dn 170 #[ah q] B λd E=>f E/\cond (!d) (R (ab 1) E) (uW f A λH=>cV f (af e 0) λt=>dn 171 #[H.val,ab t] E λv C=>f C/\cond v (R (ab 1) C) (D (uH A s a b i (i64.wrap (k+1)) (ag j 0 6 (ab k::jp (af e 0)::ag j 8 53 (ad (k<i)::ab k::jp z::r.val::ab k::ad (k>0)::ad false::bD 10 [ad false,ad false,jp (af e 1),ah q,ad d,ad (!d),ad (!d),ad false,H.val,jp (af e 0),ab t,ad v,ad v,ab (i64.wrap (k+1))])))) C)))) (W prog (sb f124 [1,1,1,1,1,1,1,1]) (GP  (aO j 0::jp A::ag j 1 60 (ae s a b::ab i::ab k::ad (k<i)::ag j 62 30 []))) (b7 f124 R) w)):=by kernel_rfl
theorem VI:W prog (sb f124 [1,1,1,1,1,1,1,1]) (GP  j) (b7 f124 R) w=(R (ab 0) w):=by kernel_rfl
def qI (s2:aX) (a:an) (b c:Nat) (d f:Int) (j:ar):ar:=ag j 0 2 (.pointer (some s2)::ag j 2 39 (ae a b c::ab d::ab f::ag j 41 41 []))
def GQ (a:aX) (j:ar):ar:=ag j 0 2 (.pointer (some a)::ag j 2 83 [])
def xE (a:an) (b c:Nat) (d f:Int) (j:ar):ar:=ag j 0 65 (ae a b c::ab d::ab f::ag j 65 18 [])
def G4  (j:ar):ar:=ag j 0 86 []
theorem W9 (v:b0):bf prog f167 [v.val,ab i] R w=(aS w v.cells.toArray 271 λj z=>aS z #[ab i] 3 λt y=>bX y (af t 0) λx=>dn 203 #[ab x] y λa s=>cond (!a) (R (ab 18) s) (bX s (af j 0) λb=>cond (b<1) (R (ab 1) s) (bX s (af j 0) λc=>cond (c>=1073741824) (R (ab 1) s) (b_ s (af j 1) λd f g=>cond ((f:Int)<1) (R (ab 1) s) (b_ s (af j 1) λh e k=>cond ((e:Int)>12) (R (ab 1) s) (b_ s (af j 1) λl m n=>dn 204 #[ae l m n,.func (.func 205) #[] #[ba t]] s λo u=>cond o (R (ab 2) u) (b_ u (af j 1) λp q r=>cG prog (c7 f167 [1,1,0,1,0,0]) (qI (af j 0) p q r (q:Nat) 0 (v.val::ab i::jp (af t 0)::ab 0::bD 6 (ad (!a)::ab x::ad a::ad (!a)::ad ((e:Int)>12)::jp (af j 0)::ab b::ad (b<1)::ad false::jp (af j 0)::ab c::ad (c>=1073741824)::ad (c>=1073741824)::ad false::jp (af j 1)::ae d f g::eo f::ad ((f:Int)<1)::ad ((f:Int)<1)::ad false::jp (af j 1)::ae h e k::eo e::ad ((e:Int)>12)::ad ((e:Int)>12)::ad o::jp (af j 1)::ae l m n::.func (.func 205) #[] #[ba t]::ad o::jp (af j 1)::bD 41 []))) (aP 1 (aU f167 [1,1,1] R)) u))))))):=by kernel_rfl
theorem Ug (f:ar->aF):W prog (sb f167 [1,1,0,1,0,0]) (qI A s a b i k j) (aZ f (aP 1 (aU f167 [1,1,1] R))) w=(cond (k<i) (bA s a k 9 λo=>hI w o λr=>aS w #[ab 0,ah 0,ah 0,ah 0,ah 0,ah 0,ah 0,ah 0,ah 0] 73 λd t=>a_ t (af d 0) 0 r.cells λq=>cw q λe n=>cond (k>0) (cV n (af d 0) λg=>e6 n (bY A 1) λh c p=>bA h c (i64.wrap (k - 1)) 9 λm=>cV n m λl=>cond (g<=l) (R (ab 1) e) (f (qI A s a b i (i64.wrap (k+1)) (ag j 0 4 (ab k::jp (af d 0)::ag j 6 35 (ad (k<i)::ab k::jp o::r.val::ab k::ad (k>0)::ad true::jp (af d 0)::ab g::bL A 1::ae h c p::ab k::ab (i64.wrap (k - 1))::jp m::jp m::ab l::ad (g<=l)::ad (g<=l)::ab (i64.wrap (k+1))::ag j 60 22 [])))) e)) (f (qI A s a b i (i64.wrap (k+1)) (ag j 0 4 (ab k::jp (af d 0)::ag j 6 35 (ad (k<i)::ab k::jp o::r.val::ab k::ad (k>0)::ad false::bD 10 (ad false::ab (i64.wrap (k+1))::ag j 60 22 []))))) e)) (W prog (sb f167 [1,1,1]) (GQ A (ag j 0 41 (ae s a b::ab i::ab k::ad (k<i)::ag j 42 40 []))) (b7 f167 R) w)):=by kernel_rfl
theorem VJ:W prog (sb f167 [1,1,1]) (GQ A j) (b7 f167 R) w=(b_ w (bY A 1) λb c d=>cG prog (c7 f167 [1,1,1,0,1,0,0]) (xE b c d (c:Nat) 0 (aO j 0::aO j 1::jp A::ag j 2 61 (bL A 1::ag j 67 18 []))) (aP 3 (aU f167 [1,1,1,1] R)) w):=by kernel_rfl
theorem Uh (n:ar->aF):W prog (sb f167 [1,1,1,0,1,0,0]) (xE s a b i k j) (aZ n (aP 3 (aU f167 [1,1,1,1] R))) w=(cond (k<i) (bA s a k 9 λp=>hI w p λr=>aS w #[ab 0,ah 0,ah 0,ah 0,ah 0,ah 0,ah 0,ah 0,ah 0] 73 λd q=>a_ q (af d 0) 0 r.cells λm=>dX m (af d 1) λg=>hH 206 #[ah g] m λh c e=>cond (c != 0) (R (ab 1) e) (dX e (af d 1) λf=>dn 170 #[ah f] e λl o=>cond (!l) (R (ab 1) o) (n (xE s a b i (i64.wrap (k+1)) (ag j 0 8 (jp (af d 0)::ah h::ab c::ag j 11 54 [ad (k<i),jp p,r.val,.tuple #[ah h,ab c],jp (af d 1),ah g,.tuple #[ah h,ab c],ah h,ab c,ab c,ad ((c:Int) != 0),ad false,jp (af d 1),ah f,ad l,ad (!l),ad (!l),ab (i64.wrap (k+1))]))) o))) (W prog (sb f167 [1,1,1,1]) (G4  (ag j 0 65 (ae s a b::ab i::ab k::ad (k<i)::ag j 66 17 []))) (b7 f167 R) w)):=by kernel_rfl
theorem VK:W prog (sb f167 [1,1,1,1]) (G4  j) (b7 f167 R) w=(R (ab 0) w):=by kernel_rfl
theorem VL (h:dt):bf prog f168 [h.val] R w=(aS w h.cells.toArray 39 λi k=>aS k #[ab 0,a5] 271 λj g=>bX g (af i 1) λa=>b_ g (af i 6) λb c d=>a_ g (af j 0) 0 [ab a,ae b c d] λe=>hW e (af j 0) λf=>e=e/\R f.val e):=by kernel_rfl
def xk (s1:Int) (s8:an) (a b:Nat) (d c:Int) (j:ar):ar:=ag j 0 1 (ab s1::ag j 1 6 (ae s8 a b::ab d::ab c::ag j 7 8 []))
def Gp  (j:ar):ar:=ag j 0 19 []
theorem VM (e:dt):bf prog f171 [e.val,ab i] R w=(aS w e.cells.toArray 39 λd f=>b_ f (af d 6) λa b c=>cG prog (c7 f171 [1,0,1,0,0]) (xk i a b c (b:Nat) 0 (e.val::jp (af d 0)::undef::ad false::bD 2 (jp (af d 6)::bD 8 []))) (aP 0 (aU f171 [1,1] R)) f):=by kernel_rfl
theorem S7 (f:ar->aF):W prog (sb f171 [1,0,1,0,0]) (xk i s a b k l j) (aZ f (aP 0 (aU f171 [1,1] R))) w=(cond (l<k) (bA s a l 9 λg=>hI w g λr=>aS w #[ab 0,ah 0,ah 0,ah 0,ah 0,ah 0,ah 0,ah 0,ah 0] 73 λc h=>a_ h (af c 0) 0 r.cells λe=>bX e (af c 0) λd=>cond (d == i) (R (ad true) e) (f (xk i s a b k (i64.wrap (l+1)) (ag j 0 5 [jp (af c 0),aO j 6,ad (l<k),jp g,r.val,jp (af c 0),ab d,ab i,ad ((d:Int) == i),ab (i64.wrap (l+1))])) e)) (W prog (sb f171 [1,1]) (Gp  (aO j 0::ab i::ag j 1 6 (ae s a b::ab k::ab l::ad (l<k)::ag j 8 7 []))) (b7 f171 R) w)):=by kernel_rfl
theorem TY:W prog (sb f171 [1,1]) (Gp  j) (b7 f171 R) w=(R (ad false) w):=by kernel_rfl
theorem G5:bf prog f203 [ab i] R w=(cond (i>=98) (R (ad (i<=256)) w) (R (ad false) w)):=by kernel_rfl
theorem RD:bf prog f204 [ae s a b,X] R w=(ct 235 #[ae s a b,X] w λc d=>R (ad (c>=0)) d):=by kernel_rfl
theorem WI (f:aK):bf prog f205 [f.val,ba a] R w=(aS w f.cells.toArray 73 λe c=>bX c (af e 0) λd=>cond (d<96) (R (ad true) c) (bX c (af e 0) λb=>bX c (af a 0) λx=>R (ad (b>=x)) c)):=by kernel_rfl
def wS (c:an) (a b:Nat) (s1:a4) (d s8:Int) (j:ar):ar:=ae c a b::s1::ag j 0 5 (ab d::ab s8::ag j 5 10 [])
def FQ  (j:ar):ar:=ag j 0 19 []
theorem RM:bf prog f235 [ae s a b,X] R w=(cG prog (c7 f235 [1,0,1,0,0]) (wS s a b X (a:Nat) 0 (bD 2 (ab 0::undef::ae s a b::bD 10 []))) (aP 0 (aU f235 [1,1] R)) w):=by kernel_rfl
theorem Rx (d:ar->aF):W prog (sb f235 [1,0,1,0,0]) (wS s a b X i k j) (aZ d (aP 0 (aU f235 [1,1] R))) w=(cond (k<i) (bA s a k 9 λg=>hI w g λr=>jk prog X #[r.val] w λe f=>∃ c,e=.returned (ad c)/\cond c (R (ab k) f) (d (wS s a b X i (i64.wrap (k+1)) [aO j 0,aO j 1,aO j 2,ab k,aO j 4,ad (k<i),ab k,X,ae s a b,ab k,jp g,r.val,ad c,aO j 13,ab (i64.wrap (k+1))]) f)) (W prog (sb f235 [1,1]) (FQ  (ae s a b::X::ag j 0 5 (ab i::ab k::ad (k<i)::ag j 6 9 []))) (b7 f235 R) w)):=by kernel_rfl
theorem RH:W prog (sb f235 [1,1]) (FQ  j) (b7 f235 R) w=(R (ab (-1)) w):=by kernel_rfl
end
section
abbrev eu:TypeId:=73
def ia (l:List aK):List ax:=l.map aK.cells
def hR:aK:=⟨0,0,0,0,0,0,0,0,0⟩
def l8 (h:Int):Bool:=fG .u64 h 255 == 0
def kO (h:Int):Bool:=decide (1<=df .u64 h 8/\df .u64 h 8<=281474976710654)
def kh (p:aK):Bool:=kO p.Head && l8 p.Head
def j9 (l:List aK) (i:Nat):Bool:=decide (i=0) || decide ((l.getD (i - 1) hR).bm<(l.getD i hR).bm)
def fH (seq:Int) (W:List aK) (lines:Int):Int:=
 if ¬ (98<=lines/\lines<=256) then 18 else if seq<1\/1073741824<=seq\/W.length<1\/12<W.length then 1
 else if W.all (λp=>iN p.bm lines)=false then 2 else if (List.range W.length).all (λi=>j9 W i && kh (W.getD i hR))=false then 1 else 0
theorem NM {h:Int} (a:cj h):0<=df .u64 h 8/\df .u64 h 8<18446744073709551615:=by
 have e:df .u64 h 8=h / 256:=by show Int.fdiv h 256=_;rw [vo _ (by decide)]
 have:=a.1;have:=a.2;omega
theorem wq (w:ak) (h:Int):bb 170 [.int .u64 h] w λv w'=>v=.bool (l8 h)/\w'=w:=by refine bd Tryz.func170 ?_;rw [WT];exact ⟨rfl,rfl⟩
theorem DZ (w:ak) (h:Int):bb 236 [.int .u64 h] w λv w'=>v=.tuple #[.int .u64 (df .u64 h 8),.int .i64 (IntKind.i64.wrap (fG .u64 h 255))]/\w'=w:=by refine bd Tryz.func236 ?_;rw [VY];exact ⟨rfl,rfl⟩
theorem Fe {a b c:Int} (h:b=c):∃ x,Value.tuple #[.int .u64 a,.int .i64 b]=.tuple #[.int .u64 x,.int .i64 c]/\w=w:=⟨a,by rw [h],rfl⟩
theorem NN (w:ak) (h:Int):bb 206 [.int .u64 h] w λv w'=>∃ x,v=.tuple #[.int .u64 x,.int .i64 (if kO h=true then 0 else 2)]/\w'=w:=by
 refine bd Tryz.func206 ?_;rw [HM];refine aD (DZ w h) ?_;rintro v w1 ⟨rfl,rfl⟩;refine ⟨_,_,rfl,?_⟩;refine aD (Br w1 _ 1 281474976710654) ?_;rintro v c ⟨rfl,rfl⟩;refine ⟨_,rfl,ev (λa=>Fe ?_) (λb=>Fe ?_)⟩
 ·rw [if_neg (by unfold kO;rw [a];simp)]
 ·rw [if_pos (by unfold kO;exact b)]
structure fm (w:ak) (a:an) (n:Nat) (W:List aK):Prop where
 rd:bk w a (ia W).flatten
 len:n=W.length
 eB:W.length<=1000000
 u64:∀ p ∈ W,cj p.Head
theorem fm.new {w w':ak} {a:an} {n:Nat} {W:List aK} (h:fm w a n W) (b:ai w w'):fm w' a n W:=⟨h.rd.new b,h.len,h.eB,h.u64⟩
theorem TM:iA prog 205=true:=by kernel_rfl
theorem QM (w:ak) (p:aK) {lines:Int} (d:w.cell? ⟨cB,0,none⟩=some (.int .i64 lines)):bb 205 [p.val,.pointer (some ⟨cB,0,none⟩)] w λv w'=>v=.bool (decide (p.bm<96) || decide (lines<=p.bm))/\ai w w':=by
 refine bd Tryz.func205 ?_;rw [WI];rintro b1 w1 b a;obtain ⟨au,c⟩:=bl b a;have au:av w1 b1 p.cells eu:=au;clear a;refine ⟨_,au.cell (i:=0) rfl,bc (λh=>⟨?_,c⟩) (λh=>⟨_,au.cell (i:=0) rfl,_,jQ c d id,?_,c⟩)⟩
 ·rw [decide_eq_true h];rfl
 ·rw [decide_eq_false h];rfl
section
attribute [local irreducible] iA jk m0
theorem Kw {lines:Int} {W:List aK} (h:fm w a n W) (t:w.cell? ⟨cB,0,none⟩=some (.int .i64 lines)) :
  bb 235 [.slice a n c,.func (.func 205) #[] #[.pointer (some ⟨cB,0,none⟩)]] w λv w'=>∃ z:Int,v=.int .i64 z/\(decide (z>=0)=W.any λp=>decide (p.bm<96) || decide (lines<=p.bm))/\ai w w':=by
 have x:=h.len;subst x;have l:=h.eB;refine bd Tryz.func235 ?_;rw [RM];refine c8 mix (λm env u=>∃ (i:Nat) (r:ax),m=W.length - i/\i<=W.length/\env=wS a W.length c (.func (.func 205) #[] #[.pointer (some ⟨cB,0,none⟩)]) W.length i r/\ai w u/\((W.take i).any λp=>decide (p.bm<96) || decide (lines<=p.bm))=false) W.length
  ⟨0,_,by omega,by omega,rfl,ao.refl _ _,rfl⟩ ?_
 rintro m env u ⟨i,r,rfl,A,rfl,f,d⟩;rw [Rx];refine bc (λy=>?_) (λy=>?_)
 ·have e:i<W.length:=by omega
  have q:W[i]?=some W[i]:=bE e;refine eI (cells:=aK.cells) aK.len (by omega) (h.rd.new f) q rfl rfl λb o j _=>aK.aT W[i] ⟨j,?_⟩
  refine q4 TM (xs:=#[W[i].val,.pointer (some ⟨cB,0,none⟩)]) (by simp) ?_;refine aD (QM u W[i] (jQ f t id)) ?_;rintro v bG ⟨rfl,g⟩;refine ⟨_,rfl,f' (λk=>⟨i,rfl,?_,f.new g⟩) (λk=>?_)⟩
  ·have s:(W.any λp=>decide (p.bm<96) || decide (lines<=p.bm))=true:=qa.2 ⟨W[i],kY e,k⟩;rw [s];simp
  ·rw [bH (by omega) (by omega)];refine ⟨W.length - (i+1),by omega,i+1,_,rfl,by omega,rfl,f.new g,?_⟩;rw [ff,q,List.any_append,d];simpa using k
 ·rw [RH];have:W.take i=W:=h1 (by omega);rw [this] at d;exact ⟨-1,rfl,by rw [d];decide,f⟩
end
theorem IV {lines:Int} {W:List aK} (h:fm w a n W) (b:w.cell? ⟨cB,0,none⟩=some (.int .i64 lines)) :
  bb 204 [.slice a n c,.func (.func 205) #[] #[.pointer (some ⟨cB,0,none⟩)]] w λv w'=>v=.bool (W.any λp=>decide (p.bm<96) || decide (lines<=p.bm))/\ai w w':=by
 refine bd Tryz.func204 ?_;rw [RD];refine aD (Kw h b) ?_;rintro v w1 ⟨z,rfl,au,d⟩;exact ⟨_,rfl,by rw [au],d⟩
theorem LD {W:List aK} {lines:Int} (b:98<=lines/\lines<=256):(W.any λp=>decide (p.bm<96) || decide (lines<=p.bm))=!(W.all λp=>iN p.bm lines):=by
 induction W with
 |nil=>rfl
 |cons p W a=>rw [List.any_cons,vv,a,Bool.not_and];congr 1;unfold iN;rw [Bool.eq_iff_iff];simp;omega
theorem y5 {p q:Nat->Bool}:((List.range n).all λi=>p i && q i)=false↔(List.range n).all p=false\/(List.range n).all q=false:=by
 have:((List.range n).all λi=>p i && q i)=((List.range n).all p && (List.range n).all q):=by rw [Bool.eq_iff_iff];simp only [fE,ep];exact ⟨λh=>⟨λx a=>(h x a).1,λx a=>(h x a).2⟩,λh x a=>⟨h.1 x a,h.2 x a⟩⟩
 rw [this,Bool.and_eq_false_iff]
theorem yy {r:b0} {W:List aK} (h:fm w r.eH r.dT W) (lines:Int):bb 167 [r.val,.int .i64 lines] w λx w'=>x=.int .i64 (fH r.Seq W lines)/\ai w w':=by
 refine bd Tryz.func167 ?_;rw [W9];rintro b1 w1 Xw U;obtain ⟨I,XC⟩:=bl Xw U;have I:av w1 b1 r.cells 271:=I;clear U;rintro aB XH Xx V;obtain ⟨B,P⟩:=bl Xx V;have B:av XH aB [.int .i64 lines] 3:=B;clear V;have a:=ai.aj P I;have E:=XC.new P;have hlen:=h.len;have XI:=h.eB;refine ⟨_,B.cell (i:=0) rfl,?_⟩;have XB:bb 203 [.int .i64 lines] XH λv w'=>v=.bool (decide (98<=lines/\lines<=256))/\w'=XH:=by
  refine bd Tryz.func203 ?_;rw [G5];refine bc (λh=>⟨?_,rfl⟩) (λh=>⟨?_,rfl⟩)
  ·have h:98<=lines:=h;congr 1;simp [h]
  ·have h:¬ 98<=lines:=h;congr 1;simp [h]
 refine aD XB ?_;rintro x XU ⟨rfl,rfl⟩;unfold fH;refine ⟨_,rfl,ev (λM=>?_) (λS=>?_)⟩
 ·rw [if_pos (by simpa using M)];exact ⟨rfl,E⟩
 have XK:98<=lines/\lines<=256:=by simpa using S
 rw [if_neg (λe=>e XK)];refine ⟨_,a.cell (i:=0) rfl,bc (λXP=>?_) (λXP=>⟨_,a.cell (i:=0) rfl,bc (λXD=>?_) (λXD=>⟨_,_,_,a.cell (i:=1) rfl,bc (λXE=>?_) (λXE=>⟨_,_,_,a.cell (i:=1) rfl,bc (λXF=>?_) (λXF=>⟨_,_,_,a.cell (i:=1) rfl,?_⟩)⟩)⟩)⟩)⟩
 ·rw [if_pos (by omega)];exact ⟨rfl,E⟩
 ·rw [if_pos (by omega)];exact ⟨rfl,E⟩
 ·rw [if_pos (by omega)];exact ⟨rfl,E⟩
 ·rw [if_pos (by omega)];exact ⟨rfl,E⟩
 rw [if_neg (by omega)];refine aD (IV (h.new E) (B.cell (i:=0) rfl)) ?_;rintro x XL ⟨rfl,H⟩;rw [LD XK];refine ⟨_,rfl,ev (λM=>?_) (λS=>?_)⟩
 ·rw [if_pos M];exact ⟨rfl,E.new H⟩
 rw [if_neg (by rw [S];simp)];have t:=ai.aj H a;have c:=E.new H;refine ⟨_,_,_,t.cell (i:=1) rfl,?_⟩;refine c8 mix (λm env u=>∃ (i:Nat) (J:ax),m=W.length - i/\i<=W.length/\env=qI ⟨b1,0,none⟩ r.eH r.dT r.hv r.dT i J/\ai XL u/\∀ k,k<i->j9 W k=true) W.length
  ⟨0,_,by omega,by omega,rfl,ao.refl _ _,λk j=>by omega⟩ ?_
 rintro m env u ⟨i,J,rfl,XJ,rfl,A,l⟩;rw [Ug];refine bc (λZ=>?_) (λZ=>?_)
 ·have p:i<W.length:=by omega
  have N:W[i]?=some W[i]:=bE p;have n:=oL (d:=hR) N;refine eI (cells:=aK.cells) aK.len (by omega) (h.rd.new (c.new A)) N rfl hlen λb o Xz _=>aK.aT W[i] ⟨Xz,?_⟩
  refine ec (vs:=W[i].cells) rfl (aK.single _) λXM XQ Xy C q=>?_
  rintro bq T;have F:ai XQ bq:=by rw [T];exact cK _
  clear T;have Y:=ai.aj F C;have g:=(A.new q).new F;have go:j9 W i=true->∀ K,∃ b4,b4<W.length - i/\∃ (Xv:Nat) (J:ax),b4=W.length - Xv/\Xv<=W.length/\qI ⟨b1,0,none⟩ r.eH r.dT r.hv r.dT (IntKind.i64.wrap ((i:Int)+1)) K=qI ⟨b1,0,none⟩ r.eH r.dT r.hv r.dT Xv J/\ai XL bq/\∀ k,k<Xv->j9 W k=true:=by
   intro XO K;rw [bH (by omega) (by omega)];refine ⟨W.length - (i+1),by omega,i+1,K,rfl,by omega,rfl,g,λk j=>?_⟩;rcases p9.1 j with j | rfl
   ·exact l k j
   ·exact XO
  refine ⟨λy=>ai bq y,ao.refl _ _,bc (λXN=>⟨_,λy X=>(ai.aj X Y).cell (i:=0) rfl,_,_,_,λy X=>(ai.aj (g.new X) t).cell (i:=1) rfl,?_⟩) (λXN=>go (by unfold j9;simp;omega) _)⟩;have O:W[i - 1]?=some W[i - 1]:=bE (by omega);have D:=oL (d:=hR) O;refine jj (cells:=aK.cells) aK.len (by omega) (h.rd.new (c.new g)) O (by rw [bH (by omega) (by omega)];omega) hlen λb' XT XA=>⟨_,λy X=>XA y X 0 _ rfl,bc (λXG=>?_) (λXG=>go (by unfold j9;rw [n,D];simp;omega) _)⟩
  rw [if_pos (y5.2 (.inl (xV p (by unfold j9;rw [n,D];simp;omega))))];exact ⟨rfl,c.new g⟩
 have L:(List.range W.length).all (j9 W)=true:=by rw [fE];intro k j;exact l k (by have:=fs.1 j;omega)
 rw [VJ];refine ⟨_,_,_,(ai.aj A t).cell (i:=1) rfl,?_⟩;clear Z XJ l;refine c8 mix (λm env z=>∃ (i:Nat) (J:ax),m=W.length - i/\i<=W.length/\env=xE r.eH r.dT r.hv r.dT i J/\ai u z/\∀ k,k<i->kh (W.getD k hR)=true) W.length
  ⟨0,_,by omega,by omega,rfl,ao.refl _ _,λk j=>by omega⟩ ?_
 rintro m env z ⟨i,J,rfl,XJ,rfl,R,l⟩;have f:=(c.new A).new R;rw [Uh];refine bc (λZ=>?_) (λZ=>?_)
 ·have p:i<W.length:=by omega
  have N:W[i]?=some W[i]:=bE p;have n:=oL (d:=hR) N;have bad:kh W[i]=false->(if ((List.range W.length).all λi=>j9 W i && kh (W.getD i hR))=false then 1 else (0:Int))=1:=λe=>by rw [if_pos (y5.2 (.inr (xV p (by rw [n];exact e))))]
  refine eI (cells:=aK.cells) aK.len (by omega) (h.rd.new f) N rfl hlen λb o Xz _=>aK.aT W[i] ⟨Xz,?_⟩
  refine ec (vs:=W[i].cells) rfl (aK.single _) λXM XR Xy C q=>?_
  refine ⟨_,C.cell (i:=1) rfl,?_⟩;refine aD (NN XR W[i].Head) ?_;rintro x XS ⟨y,rfl,rfl⟩;refine ⟨_,_,rfl,du (λQ=>?_) (λhe=>⟨_,C.cell (i:=1) rfl,?_⟩)⟩
  ·rw [bad (by unfold kh;cases s:kO W[i].Head with
    |true=>rw [s] at Q;simp at Q
    |false=>rfl)]
   exact ⟨rfl,f.new q⟩
  have s:kO W[i].Head=true:=by
   cases s:kO W[i].Head with
   |true=>rfl
   |false=>rw [s] at he;simp at he
  refine aD (wq XS W[i].Head) ?_;rintro x XV ⟨rfl,rfl⟩;refine ⟨_,rfl,ev (λM=>?_) (λS=>?_)⟩
  ·rw [bad (by unfold kh;rw [M,Bool.and_false])];exact ⟨rfl,f.new q⟩
  ·rw [bH (by omega) (by omega)];refine ⟨W.length - (i+1),by omega,i+1,_,rfl,by omega,rfl,R.new q,λk j=>?_⟩;rcases p9.1 j with j | rfl
   ·exact l k j
   ·rw [n];unfold kh;rw [s,S];rfl
 ·rw [VK];have G:(List.range W.length).all (λi=>kh (W.getD i hR))=true:=by rw [fE];intro k j;exact l k (by have:=fs.1 j;omega)
  rw [if_neg (λe=>by
   rcases y5.1 e with e | e
   ·rw [L] at e;cases e
   ·rw [G] at e;cases e)]
  exact ⟨rfl,f⟩
end
section
def E6 (l:List eQ):List ax:=l.map eQ.cells
def pH:eQ:=⟨0,0⟩
def qA (R:List eQ) (i:Nat):Bool:=decide (i=0) || decide ((R.getD (i - 1) pH).bm<(R.getD i pH).bm)
def has (W:List aK) (line:Int):Bool:=W.any λp=>decide (p.bm=line)
def mR (R:List eQ) (W:List aK) (i:Nat):Bool:=(qA R i && l8 (R.getD i pH).Head) && !has W (R.getD i pH).bm
structure c0 where
 aW:Int
 seq:Int
 lines:Int
 v:jt
 reads:List eQ
 writes:List aK
def c0.valid (j:c0):Int:=
 if j.aW<0\/6<=j.aW then 1 else if j.v.valid 5≠0 then j.v.valid 5 else if j.lines<98\/256<j.lines then 18
 else if 0<j.writes.length/\fH j.seq j.writes j.lines≠0 then fH j.seq j.writes j.lines else if 24<j.reads.length then 18
 else if j.reads.all (λs=>iN s.bm j.lines)=false then 2 else if (List.range j.reads.length).all (mR j.reads j.writes)=false then 1 else 0
structure p4 (w:ak) (r:dt) (j:c0):Prop where
 aW:r.Client=j.aW
 seq:r.Seq=j.seq
 lines:r.hs=j.lines
 view:∃ M,gp M w r.View j.v
 rd:bk w r.Reads (E6 j.reads).flatten
 len:r.k3=j.reads.length
 eB:j.reads.length<=1000000
 bV:fm w r.eH r.dT j.writes
theorem p4.new {w w':ak} {r:dt} {j:c0} (h:p4 w r j) (a:ai w w'):p4 w' r j:=⟨h.aW,h.seq,h.lines,h.view.imp λ_ h=>h.new a,h.rd.new a,h.len,h.eB,h.bV.new a⟩
theorem Dm (w:ak) (r:dt):bb 168 [r.val] w λx w'=>x=b0.val ⟨r.Seq,r.eH,r.dT,r.hv⟩/\ai w w':=by
 refine bd Tryz.func168 ?_;rw [VL];rintro b1 w1 j g;obtain ⟨b,d⟩:=bl j g;have b:av w1 b1 r.cells 39:=b;clear g;rintro aB q l h;obtain ⟨c,f⟩:=bl l h;have c:av q aB (b0.cells ⟨0,none,0,0⟩) 271:=c;clear h;have a:=ai.aj f b;have s:=d.size;refine ⟨_,a.cell (i:=1) rfl,_,_,_,a.cell (i:=6) rfl,?_⟩;refine dQ (vs:=b0.cells ⟨r.Seq,r.eH,r.dT,r.hv⟩) c rfl (b0.single _) λt o n=>?_
 refine b0.aT ⟨r.Seq,r.eH,r.dT,r.hv⟩ ⟨bO o rfl,rfl,rfl,?_⟩;exact (d.new f).trans n λk p e=>by omega
theorem CA {W:List aK} (h:fm w r.eH r.dT W) (line:Int):bb 171 [r.val,.int .i64 line] w λx w'=>x=.bool (has W line)/\ai w w':=by
 refine bd Tryz.func171 ?_;rw [VM];rintro b1 w1 j g;obtain ⟨d,k⟩:=bl j g;have d:av w1 b1 r.cells 39:=d;clear g;have hlen:=h.len;have n:=h.eB;refine ⟨_,_,_,d.cell (i:=6) rfl,?_⟩;refine c8 mix (λm env u=>∃ (i:Nat) (q:ax),m=W.length - i/\i<=W.length/\env=xk line r.eH r.dT r.hv r.dT i q/\ai w u/\has (W.take i) line=false) W.length
  ⟨0,_,by omega,by omega,rfl,k,rfl⟩ ?_
 rintro m env u ⟨i,q,rfl,B,rfl,a,c⟩;rw [S7];refine bc (λy=>?_) (λy=>?_)
 ·have e:i<W.length:=by omega
  have p:W[i]?=some W[i]:=bE e;refine eI (cells:=aK.cells) aK.len (by omega) (h.rd.new a) p rfl hlen λb o t _=>aK.aT W[i] ⟨t,?_⟩
  refine ec (vs:=W[i].cells) rfl (aK.single _) λA C s l f=>?_
  refine ⟨_,l.cell (i:=0) rfl,d' (λhe=>⟨?_,a.new f⟩) (λhe=>?_)⟩
  ·have:has W line=true:=qa.2 ⟨W[i],kY e,by simpa using he⟩;rw [this]
  ·rw [bH (by omega) (by omega)];refine ⟨W.length - (i+1),by omega,i+1,_,rfl,by omega,rfl,a.new f,?_⟩;unfold has;rw [ff,p,List.any_append];have:=c;unfold has at this;rw [this];simpa using he
 ·rw [TY];have z:W.take i=W:=h1 (by omega);rw [z] at c;exact ⟨by rw [c],a⟩
end
section
def c0.tail (j:c0):Int:=if j.reads.all (λs=>iN s.bm j.lines)=false then 2 else if (List.range j.reads.length).all (mR j.reads j.writes)=false then 1 else 0
theorem uY {R:List eQ} {W:List aK} {i:Nat} (h:qA R i=false\/l8 (R.getD i pH).Head=false\/has W (R.getD i pH).bm=true):mR R W i=false:=by
 unfold mR;rcases h with h | h | h
 ·rw [h];rfl
 ·rw [h,Bool.and_false];rfl
 ·rw [h];simp
theorem E7 {u:ak} {j:c0} {b1:Nat} (h:p4 w r j) (au:av u b1 r.cells 39) (XB:ai w u) (K:ax) {R:cz} (F:∀ w',ai w w'->R (.int .i64 j.tail) w') :
  cG prog (.loop (sub (bn f124) [1,1,1,1,1,1,0,1,0,0])) (sv ⟨b1,0,none⟩ r.Reads r.k3 r.pg r.k3 0 K) (aP 0 (aZ (λenv w=>W prog (sub (bn f124) [1,1,1,1,1,1,1]) env (dC prog f124 R) w) (dC prog f124 R))) u:=by
 have hlen:=h.len;have Xw:=h.eB;have O:=h.lines;unfold c0.tail at F;refine c8 mix (λm env z=>∃ (i:Nat) (K:ax),m=j.reads.length - i/\i<=j.reads.length/\env=sv ⟨b1,0,none⟩ r.Reads r.k3 r.pg r.k3 i K/\ai u z/\(j.reads.take i).all (λs=>iN s.bm j.lines)=true) j.reads.length
  ⟨0,_,by omega,by omega,rfl,ao.refl _ _,rfl⟩ ?_
 rintro m env z ⟨i,K,rfl,Xx,rfl,E,f⟩;have t:=XB.new E;rw [Ue];refine bc (λT=>?_) (λT=>?_)
 ·have p:i<j.reads.length:=by omega
  have M:j.reads[i]?=some j.reads[i]:=bE p;refine eI (cells:=eQ.cells) eQ.len (by omega) (h.rd.new t) M rfl hlen λb o Y _=>eQ.aT j.reads[i] ⟨Y,?_⟩
  refine ec (vs:=j.reads[i].cells) rfl (eQ.single _) λXz Xy X I A=>?_
  refine ⟨_,I.cell (i:=0) rfl,_,(ai.aj (E.new A) au).cell (i:=2) rfl,?_⟩;refine aD (LC _ _ _) ?_;rintro x XF ⟨rfl,rfl⟩;refine ⟨_,rfl,ev (λL=>?_) (λU=>?_)⟩
  ·rw [if_pos (by rw [yJ];exact ⟨_,kY p,by rw [<-O,L];simp⟩)] at F
   exact F _ (t.new A)
  ·rw [bH (by omega) (by omega)];refine ⟨j.reads.length - (i+1),by omega,i+1,_,rfl,by omega,rfl,E.new A,?_⟩;rw [ff,M,List.all_append,f];simp [<-O,U]
 have U:j.reads.take i=j.reads:=h1 (by omega);rw [U] at f;rw [if_neg (by rw [f];simp)] at F;rw [VH];clear f Xx T U;have S:=ai.aj E au;refine ⟨_,_,_,S.cell (i:=5) rfl,?_⟩;refine c8 mix (λm env x=>∃ (i:Nat) (K:ax),m=j.reads.length - i/\i<=j.reads.length/\env=uH ⟨b1,0,none⟩ r.Reads r.k3 r.pg r.k3 i K/\ai z x/\∀ k,k<i->mR j.reads j.writes k=true) j.reads.length
  ⟨0,_,by omega,by omega,rfl,ao.refl _ _,λk C=>by omega⟩ ?_
 rintro m env x ⟨i,K,rfl,Xx,rfl,D,f⟩;have q:=t.new D;rw [Uf];refine bc (λT=>?_) (λT=>?_)
 ·have p:i<j.reads.length:=by omega
  have M:j.reads[i]?=some j.reads[i]:=bE p;have c:=oL (d:=pH) M;have bad:mR j.reads j.writes i=false->∀ w',ai w w'->R (.int .i64 1) w':=λe w' hw=>by rw [if_pos (xV p e)] at F;exact F w' hw
  refine eI (cells:=eQ.cells) eQ.len (by omega) (h.rd.new q) M rfl hlen λb o Y _=>eQ.aT j.reads[i] ⟨Y,?_⟩
  refine ec (vs:=j.reads[i].cells) rfl (eQ.single _) λXz Xy X I A=>?_
  rintro bq Q;have P:ai Xy bq:=by rw [Q];exact cK _
  clear Q;have n:=A.new P;have B:=ai.aj P I;have J:=ai.aj (D.new n) S;have a:=q.new n;refine ⟨λy=>ai bq y,ao.refl _ _,bc (λXA=>⟨_,λy g=>(ai.aj g B).cell (i:=0) rfl,_,_,_,λy g=>(ai.aj g J).cell (i:=5) rfl,?_⟩) (λXA=>⟨_,λy g=>(ai.aj g B).cell (i:=1) rfl,?_⟩)⟩
  ·have N:j.reads[i - 1]?=some j.reads[i - 1]:=bE (by omega);have G:=oL (d:=pH) N;refine jj (cells:=eQ.cells) eQ.len (by omega) (h.rd.new a) N (by rw [bH (by omega) (by omega)];omega) hlen λb' XE Z=>⟨_,λy g=>Z y g 0 _ rfl,bc (λXv=>?_) (λXv=>⟨_,λy g=>(ai.aj g B).cell (i:=1) rfl,?_⟩)⟩
   ·exact bad (uY (.inl (by unfold qA;rw [c,G];simp;omega))) _ a
   have V:qA j.reads i=true:=by unfold qA;rw [c,G];simp;omega
   refine aD (wq bq j.reads[i].Head) ?_;rintro v XC ⟨rfl,rfl⟩;refine ⟨_,rfl,ao.refl _ _,ev (λL=>?_) (λH=>dt.aT r ⟨λy g=>bO (ai.aj g J) rfl,_,λy g=>(ai.aj g B).cell (i:=0) rfl,?_⟩)⟩
   ·exact bad (uY (.inr (.inl (by rw [c];exact L)))) _ a
   refine aD (CA (h.bV.new a) j.reads[i].bm) ?_;rintro v XD ⟨rfl,l⟩;refine ⟨_,rfl,l,f' (λhw=>?_) (λhw=>?_)⟩
   ·exact bad (uY (.inr (.inr (by rw [c];exact hw)))) _ (a.new l)
   ·rw [bH (by omega) (by omega)];refine ⟨j.reads.length - (i+1),by omega,i+1,_,rfl,by omega,rfl,(D.new n).new l,λk C=>?_⟩;rcases p9.1 C with C | rfl
    ·exact f k C
    ·unfold mR;rw [c,V,H,hw];rfl
  ·have V:qA j.reads i=true:=by unfold qA;simp;omega
   refine aD (wq bq j.reads[i].Head) ?_;rintro v XC ⟨rfl,rfl⟩;refine ⟨_,rfl,ao.refl _ _,ev (λL=>?_) (λH=>dt.aT r ⟨λy g=>bO (ai.aj g J) rfl,_,λy g=>(ai.aj g B).cell (i:=0) rfl,?_⟩)⟩
   ·exact bad (uY (.inr (.inl (by rw [c];exact L)))) _ a
   refine aD (CA (h.bV.new a) j.reads[i].bm) ?_;rintro v XD ⟨rfl,l⟩;refine ⟨_,rfl,l,f' (λhw=>?_) (λhw=>?_)⟩
   ·exact bad (uY (.inr (.inr (by rw [c];exact hw)))) _ (a.new l)
   ·rw [bH (by omega) (by omega)];refine ⟨j.reads.length - (i+1),by omega,i+1,_,rfl,by omega,rfl,(D.new n).new l,λk C=>?_⟩;rcases p9.1 C with C | rfl
    ·exact f k C
    ·unfold mR;rw [c,V,H,hw];rfl
 ·rw [VI];rw [if_neg (by rw [tk,fE];intro k C;exact f k (by have:=fs.1 C;omega))] at F
  exact F _ q
theorem LF {j:c0} (h:p4 w r j):bb 124 [r.val] w λx w'=>x=.int .i64 j.valid/\ai w w':=by
 refine bd Tryz.func124 ?_;rw [W8];rintro b1 w1 B s;obtain ⟨au,z⟩:=bl B s;have au:av w1 b1 r.cells 39:=au;clear s;have hlen:=h.len;have J:=h.eB;have K:=h.aW;have G:=h.seq;have p:=h.lines;have M:=h.bV.len;obtain ⟨O,l⟩:=h.view;unfold c0.valid;refine ⟨_,au.cell (i:=0) rfl,bc (λL=>?_) (λL=>⟨_,au.cell (i:=0) rfl,bc (λC=>?_) (λC=>?_)⟩)⟩
 ·rw [if_pos (by omega)];exact ⟨rfl,z⟩
 ·rw [if_pos (by omega)];exact ⟨rfl,z⟩
 rw [if_neg (by omega)];refine c2.aT r.View ⟨bO au rfl,?_⟩;refine aD (Di (l.new z) 5) ?_;rintro x N ⟨rfl,q⟩;have b:=ai.aj q au;have a:=z.new q;refine ⟨_,rfl,du (λal=>?_) (λal=>?_)⟩
 ·rw [if_pos al];exact ⟨rfl,a⟩
 rw [if_neg (by omega)];refine ⟨_,b.cell (i:=2) rfl,bc (λD=>?_) (λD=>⟨_,b.cell (i:=2) rfl,bc (λE=>?_) (λE=>⟨_,_,_,b.cell (i:=6) rfl,bc (λF=>?_) (λF=>⟨_,_,_,b.cell (i:=5) rfl,bc (λk=>?_) (λk=>⟨_,_,_,b.cell (i:=5) rfl,?_⟩)⟩)⟩)⟩)⟩
 ·rw [if_pos (by omega)];exact ⟨rfl,a⟩
 ·rw [if_pos (by omega)];exact ⟨rfl,a⟩
 ·rw [if_neg (by omega)];rintro I t;have d:ai N I:=by rw [t];exact cK _
  clear t;have n:=ai.aj d b;refine ⟨λy=>ai I y,ao.refl _ _,dt.aT r ⟨λy H=>bO (ai.aj H n) rfl,_,λy H=>(ai.aj H n).cell (i:=2) rfl,?_⟩⟩;refine aD (Dm I r) ?_;rintro x P ⟨rfl,c⟩;refine b0.aT ⟨r.Seq,r.eH,r.dT,r.hv⟩ ⟨rfl,c,?_⟩;refine aD (yy (r:=⟨r.Seq,r.eH,r.dT,r.hv⟩) (h.bV.new (a.new (d.new c))) r.hs) ?_;rintro x u ⟨rfl,f⟩;have g:=a.new (d.new (c.new f));have o:=ai.aj (c.new f) n;rw [<-G,<-p];refine ⟨_,rfl,c.new f,du (λA=>?_) (λA=>⟨_,_,_,o.cell (i:=5) rfl,bc (λk=>?_) (λk=>⟨_,_,_,o.cell (i:=5) rfl,?_⟩)⟩)⟩
  ·rw [if_pos ⟨by omega,A⟩];exact ⟨rfl,g⟩
  ·rw [if_neg (λe=>e.2 A),if_pos (by omega)];exact ⟨rfl,g⟩
  ·rw [if_neg (λe=>e.2 A),if_neg (by omega),p];exact E7 h o g _ λw' hw=>⟨rfl,hw⟩
 ·rw [if_neg (by omega),if_neg (by omega),if_pos (by omega)];exact ⟨rfl,a⟩
 ·rw [if_neg (by omega),if_neg (by omega),if_neg (by omega)];exact E7 h b a _ λw' hw=>⟨rfl,hw⟩
end
end Go.Proofs.YtmkljjbioomepaaGreat
