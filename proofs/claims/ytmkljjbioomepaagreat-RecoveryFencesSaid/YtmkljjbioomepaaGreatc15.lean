import Derived.Test.YtmkljjbioomepaaGreatProg
import Derived.Test.YtmkljjbioomepaaGreatc03
import Derived.Test.YtmkljjbioomepaaGreatc14
set_option linter.all false
set_option maxHeartbeats 4000000
set_option maxRecDepth 100000
namespace Go.Proofs.YtmkljjbioomepaaGreat
open Go.Proofs.Tryz Go.br
variable {a:al} {c cz n:Nat} {r:dv} {w:ak}
section
open IntKind
variable (w:ak) (R:cA) {A:aU} {s:al} {a b:Nat} {i k l:Int} {j:aq} {X:a4}
def r0 (s1:aU) (a:al) (b c:Nat) (d f:Int) (j:aq):aq:=ag j 0 1 (.pointer (some s1)::ag j 1 46 (ae a b c::ab d::ab f::ag j 47 45 []))
def FU (a:aU) (j:aq):aq:=ag j 0 1 (.pointer (some a)::ag j 1 94 [])
def ub (s1:aU) (a:al) (b c:Nat) (d f:Int) (j:aq):aq:=ag j 0 1 (.pointer (some s1)::ag j 1 60 (ae a b c::ab d::ab f::ag j 61 31 []))
def FV  (j:aq):aq:=ag j 0 96 []
theorem UX (B:dv):bf prog f124 [B.val] R w=(aR w B.cells.toArray 39 λe u=>bt u (af e 0) λa=>cond (a<0) (R (ab 1) u) (bt u (af e 0) λb=>cond (b>=6) (R (ab 1) u) (lP u (af e 3) λD=>cm 166 #[D.val,ab 5] u λc j=>cond (c != 0) (R (ab c) j) (bt j (af e 2) λd=>cond (d<98) (R (ab 18) j) (bt j (af e 2) λf=>cond (f>256) (R (ab 18) j) (b4 j (af e 6) λg h i=>cond ((h:Int)>0) (cq j λG C=>uv C (af e 0) λr=>cL C (af e 2) λk=>F3 168 #[r.val] G λF E=>C E/\cm 167 #[F.val,ab k] E λl A=>C A/\cond (l != 0) (R (ab l) A) (b4 A (af e 5) λm n o=>cond ((n:Int)>24) (R (ab 18) A) (b4 A (af e 5) λp q s=>cu prog (c0 f124 [1,1,1,1,1,1,0,1,0,0]) (r0 (af e 0) p q s (q:Nat) 0 (B.val::ab 0::ab c::ab l::bd 4 (jp (af e 0)::ab a::ad (a<0)::ad false::jp (af e 0)::ab b::ad (b>=6)::ad (b>=6)::jp (af e 3)::D.val::ab c::ab c::ad ((c:Int) != 0)::undef::jp (af e 2)::ab d::ad (d<98)::ad false::jp (af e 2)::ab f::ad (f>256)::ad (f>256)::jp (af e 6)::ae g h i::c9 h::ad ((h:Int)>0)::r.val::F.val::jp (af e 2)::ab k::ab l::ab l::ad ((l:Int) != 0)::undef::jp (af e 5)::ae m n o::c9 n::ad ((n:Int)>24)::jp (af e 5)::bd 45 []))) (aO 0 (aQ f124 [1,1,1,1,1,1,1] R)) A))) (b4 j (af e 5) λt v x=>cond ((v:Int)>24) (R (ab 18) j) (b4 j (af e 5) λy z H=>cu prog (c0 f124 [1,1,1,1,1,1,0,1,0,0]) (r0 (af e 0) y z H (z:Nat) 0 (B.val::ab 0::ab c::bd 5 (jp (af e 0)::ab a::ad (a<0)::ad false::jp (af e 0)::ab b::ad (b>=6)::ad (b>=6)::jp (af e 3)::D.val::ab c::ab c::ad ((c:Int) != 0)::undef::jp (af e 2)::ab d::ad (d<98)::ad false::jp (af e 2)::ab f::ad (f>256)::ad (f>256)::jp (af e 6)::ae g h i::c9 h::ad ((h:Int)>0)::bd 8 (jp (af e 5)::ae t v x::c9 v::ad ((v:Int)>24)::jp (af e 5)::bd 45 [])))) (aO 0 (aQ f124 [1,1,1,1,1,1,1] R)) j)))))))):=by kernel_rfl
theorem Sq (l:aq->aE):W prog (sb f124 [1,1,1,1,1,1,0,1,0,0]) (r0 A s a b i k j) (aV l (aO 0 (aQ f124 [1,1,1,1,1,1,1] R))) w=(cond (k<i) (bk s a k 2 λm=>z_ w m λr=>aR w #[ab 0,ah 0] 274 λd n=>a8 n (af d 0) 0 r.cells λe=>bt e (af d 0) λg=>bt e (bM A 2) λh=>du 169 #[ab g,ab h] e λc f=>cond (!c) (R (ab 2) f) (l (r0 A s a b i (i64.wrap (k+1)) (ag j 0 5 (jp (af d 0)::ag j 6 41 (ad (k<i)::jp m::r.val::jp (af d 0)::ab g::bI A 2::ab h::ad c::ad (!c)::ab (i64.wrap (k+1))::ag j 57 35 [])))) f)) (W prog (sb f124 [1,1,1,1,1,1,1]) (FU A (ag j 0 47 (ae s a b::ab i::ab k::ad (k<i)::ag j 48 44 []))) (b0 f124 R) w)):=by kernel_rfl
theorem TD:W prog (sb f124 [1,1,1,1,1,1,1]) (FU A j) (b0 f124 R) w=(b4 w (bM A 5) λb c d=>cu prog (c0 f124 [1,1,1,1,1,1,1,0,1,0,0]) (ub A b c d (c:Nat) 0 (ag j 0 60 (bI A 5::ag j 64 31 []))) (aO 2 (aQ f124 [1,1,1,1,1,1,1,1] R)) w):=by kernel_rfl
theorem Sr (z:aq->aE):W prog (sb f124 [1,1,1,1,1,1,1,0,1,0,0]) (ub A s a b i k j) (aV z (aO 2 (aQ f124 [1,1,1,1,1,1,1,1] R))) w=(cond (k<i) (bk s a k 2 λB=>z_ w B λr=>aR w #[ab 0,ah 0] 274 λe aW=>a8 aW (af e 0) 0 r.cells λa1=>cq a1 λu f=>cond (k>0) (cL f (af e 0) λg=>fg f (bM A 5) λh c F=>bk h c (i64.wrap (k - 1)) 2 λx=>cL f x λl=>cond (g<=l) (R (ab 1) u) (jF f (af e 1) λm=>du 170 #[ah m] u λn y=>f y/\cond (!n) (R (ab 1) y) (uv f A λG=>cL f (af e 0) λo=>du 171 #[G.val,ab o] y λp C=>f C/\cond p (R (ab 1) C) (z (ub A s a b i (i64.wrap (k+1)) (ag j 0 6 (ab k::jp (af e 0)::ag j 8 53 [ad (k<i),ab k,jp B,r.val,ab k,ad (k>0),ad true,jp (af e 0),ab g,bI A 5,ae h c F,ab k,ab (i64.wrap (k - 1)),jp x,jp x,ab l,ad (g<=l),ad (g<=l),ad false,jp (af e 1),ah m,ad n,ad (!n),ad (!n),ad false,G.val,jp (af e 0),ab o,ad p,ad p,ab (i64.wrap (k+1))]))) C)))) (jF f (af e 1) λq=>du 170 #[ah q] u λd D=>f D/\cond (!d) (R (ab 1) D) (uv f A λH=>cL f (af e 0) λt=>du 171 #[H.val,ab t] D λv E=>f E/\cond v (R (ab 1) E) (z (ub A s a b i (i64.wrap (k+1)) (ag j 0 6 (ab k::jp (af e 0)::ag j 8 53 (ad (k<i)::ab k::jp B::r.val::ab k::ad (k>0)::ad false::bd 10 [ad false,ad false,jp (af e 1),ah q,ad d,ad (!d),ad (!d),ad false,H.val,jp (af e 0),ab t,ad v,ad v,ab (i64.wrap (k+1))])))) E)))) (W prog (sb f124 [1,1,1,1,1,1,1,1]) (FV  (aF j 0::jp A::ag j 1 60 (ae s a b::ab i::ab k::ad (k<i)::ag j 62 30 []))) (b0 f124 R) w)):=by kernel_rfl
theorem TE:W prog (sb f124 [1,1,1,1,1,1,1,1]) (FV  j) (b0 f124 R) w=(R (ab 0) w):=by kernel_rfl
def qy (s2:aU) (a:al) (b c:Nat) (d f:Int) (j:aq):aq:=ag j 0 2 (.pointer (some s2)::ag j 2 39 (ae a b c::ab d::ab f::ag j 41 41 []))
def FW (a:aU) (j:aq):aq:=ag j 0 2 (.pointer (some a)::ag j 2 83 [])
def w4 (a:al) (b c:Nat) (d f:Int) (j:aq):aq:=ag j 0 65 (ae a b c::ab d::ab f::ag j 65 18 [])
def FX  (j:aq):aq:=ag j 0 86 []
theorem UY (v:bX):bf prog f167 [v.val,ab i] R w=(aR w v.cells.toArray 271 λj z=>aR z #[ab i] 3 λt y=>bt y (af t 0) λx=>du 203 #[ab x] y λa s=>cond (!a) (R (ab 18) s) (bt s (af j 0) λb=>cond (b<1) (R (ab 1) s) (bt s (af j 0) λc=>cond (c>=1073741824) (R (ab 1) s) (b4 s (af j 1) λd f g=>cond ((f:Int)<1) (R (ab 1) s) (b4 s (af j 1) λh e k=>cond ((e:Int)>12) (R (ab 1) s) (b4 s (af j 1) λl m n=>du 204 #[ae l m n,.func (.func 205) #[] #[a9 t]] s λo u=>cond o (R (ab 2) u) (b4 u (af j 1) λp q r=>cu prog (c0 f167 [1,1,0,1,0,0]) (qy (af j 0) p q r (q:Nat) 0 (v.val::ab i::jp (af t 0)::ab 0::bd 6 (ad (!a)::ab x::ad a::ad (!a)::ad ((e:Int)>12)::jp (af j 0)::ab b::ad (b<1)::ad false::jp (af j 0)::ab c::ad (c>=1073741824)::ad (c>=1073741824)::ad false::jp (af j 1)::ae d f g::c9 f::ad ((f:Int)<1)::ad ((f:Int)<1)::ad false::jp (af j 1)::ae h e k::c9 e::ad ((e:Int)>12)::ad ((e:Int)>12)::ad o::jp (af j 1)::ae l m n::.func (.func 205) #[] #[a9 t]::ad o::jp (af j 1)::bd 41 []))) (aO 1 (aQ f167 [1,1,1] R)) u))))))):=by kernel_rfl
theorem Ss (f:aq->aE):W prog (sb f167 [1,1,0,1,0,0]) (qy A s a b i k j) (aV f (aO 1 (aQ f167 [1,1,1] R))) w=(cond (k<i) (bk s a k 9 λo=>ht w o λr=>aR w #[ab 0,ah 0,ah 0,ah 0,ah 0,ah 0,ah 0,ah 0,ah 0] 73 λd q=>a8 q (af d 0) 0 r.cells λt=>cq t λe n=>cond (k>0) (cL n (af d 0) λg=>fg n (bM A 1) λh c p=>bk h c (i64.wrap (k - 1)) 9 λm=>cL n m λl=>cond (g<=l) (R (ab 1) e) (f (qy A s a b i (i64.wrap (k+1)) (ag j 0 4 (ab k::jp (af d 0)::ag j 6 35 (ad (k<i)::ab k::jp o::r.val::ab k::ad (k>0)::ad true::jp (af d 0)::ab g::bI A 1::ae h c p::ab k::ab (i64.wrap (k - 1))::jp m::jp m::ab l::ad (g<=l)::ad (g<=l)::ab (i64.wrap (k+1))::ag j 60 22 [])))) e)) (f (qy A s a b i (i64.wrap (k+1)) (ag j 0 4 (ab k::jp (af d 0)::ag j 6 35 (ad (k<i)::ab k::jp o::r.val::ab k::ad (k>0)::ad false::bd 10 (ad false::ab (i64.wrap (k+1))::ag j 60 22 []))))) e)) (W prog (sb f167 [1,1,1]) (FW A (ag j 0 41 (ae s a b::ab i::ab k::ad (k<i)::ag j 42 40 []))) (b0 f167 R) w)):=by kernel_rfl
theorem TF:W prog (sb f167 [1,1,1]) (FW A j) (b0 f167 R) w=(b4 w (bM A 1) λb c d=>cu prog (c0 f167 [1,1,1,0,1,0,0]) (w4 b c d (c:Nat) 0 (aF j 0::aF j 1::jp A::ag j 2 61 (bI A 1::ag j 67 18 []))) (aO 3 (aQ f167 [1,1,1,1] R)) w):=by kernel_rfl
theorem St (n:aq->aE):W prog (sb f167 [1,1,1,0,1,0,0]) (w4 s a b i k j) (aV n (aO 3 (aQ f167 [1,1,1,1] R))) w=(cond (k<i) (bk s a k 9 λp=>ht w p λr=>aR w #[ab 0,ah 0,ah 0,ah 0,ah 0,ah 0,ah 0,ah 0,ah 0] 73 λd q=>a8 q (af d 0) 0 r.cells λo=>dp o (af d 1) λg=>hs 206 #[ah g] o λh c e=>cond (c != 0) (R (ab 1) e) (dp e (af d 1) λf=>du 170 #[ah f] e λl m=>cond (!l) (R (ab 1) m) (n (w4 s a b i (i64.wrap (k+1)) (ag j 0 8 (jp (af d 0)::ah h::ab c::ag j 11 54 [ad (k<i),jp p,r.val,.tuple #[ah h,ab c],jp (af d 1),ah g,.tuple #[ah h,ab c],ah h,ab c,ab c,ad ((c:Int) != 0),ad false,jp (af d 1),ah f,ad l,ad (!l),ad (!l),ab (i64.wrap (k+1))]))) m))) (W prog (sb f167 [1,1,1,1]) (FX  (ag j 0 65 (ae s a b::ab i::ab k::ad (k<i)::ag j 66 17 []))) (b0 f167 R) w)):=by kernel_rfl
theorem TG:W prog (sb f167 [1,1,1,1]) (FX  j) (b0 f167 R) w=(R (ab 0) w):=by kernel_rfl
theorem TH (j:dv):bf prog f168 [j.val] R w=(aR w j.cells.toArray 39 λh k=>aR k #[ab 0,a6] 271 λi g=>bt g (af h 1) λa=>b4 g (af h 6) λb c d=>a8 g (af i 0) 0 [ab a,ae b c d] λe=>hK e (af i 0) λf=>e=e/\R f.val e):=by kernel_rfl
def wI (s1:Int) (s8:al) (a b:Nat) (d c:Int) (j:aq):aq:=ag j 0 1 (ab s1::ag j 1 6 (ae s8 a b::ab d::ab c::ag j 7 8 []))
def Fq  (j:aq):aq:=ag j 0 19 []
theorem TI (e:dv):bf prog f171 [e.val,ab i] R w=(aR w e.cells.toArray 39 λd f=>b4 f (af d 6) λa b c=>cu prog (c0 f171 [1,0,1,0,0]) (wI i a b c (b:Nat) 0 (e.val::jp (af d 0)::undef::ad false::bd 2 (jp (af d 6)::bd 8 []))) (aO 0 (aQ f171 [1,1] R)) f):=by kernel_rfl
theorem Ro (f:aq->aE):W prog (sb f171 [1,0,1,0,0]) (wI i s a b k l j) (aV f (aO 0 (aQ f171 [1,1] R))) w=(cond (l<k) (bk s a l 9 λg=>ht w g λr=>aR w #[ab 0,ah 0,ah 0,ah 0,ah 0,ah 0,ah 0,ah 0,ah 0] 73 λc h=>a8 h (af c 0) 0 r.cells λe=>bt e (af c 0) λd=>cond (d == i) (R (ad true) e) (f (wI i s a b k (i64.wrap (l+1)) (ag j 0 5 [jp (af c 0),aF j 6,ad (l<k),jp g,r.val,jp (af c 0),ab d,ab i,ad ((d:Int) == i),ab (i64.wrap (l+1))])) e)) (W prog (sb f171 [1,1]) (Fq  (aF j 0::ab i::ag j 1 6 (ae s a b::ab k::ab l::ad (l<k)::ag j 8 7 []))) (b0 f171 R) w)):=by kernel_rfl
theorem pu:W prog (sb f171 [1,1]) (Fq  j) (b0 f171 R) w=(R (ad false) w):=by kernel_rfl
theorem FY:bf prog f203 [ab i] R w=(cond (i>=98) (R (ad (i<=256)) w) (R (ad false) w)):=by kernel_rfl
theorem PA:bf prog f204 [ae s a b,X] R w=(cm 235 #[ae s a b,X] w λc d=>R (ad (c>=0)) d):=by kernel_rfl
theorem Ur (f:aJ):bf prog f205 [f.val,a9 a] R w=(aR w f.cells.toArray 73 λe d=>bt d (af e 0) λc=>cond (c<96) (R (ad true) d) (bt d (af e 0) λb=>bt d (af a 0) λx=>R (ad (b>=x)) d)):=by kernel_rfl
def v9 (c:al) (a b:Nat) (s1:a4) (d s8:Int) (j:aq):aq:=ae c a b::s1::ag j 0 5 (ab d::ab s8::ag j 5 10 [])
def ET  (j:aq):aq:=ag j 0 19 []
theorem PR:bf prog f235 [ae s a b,X] R w=(cu prog (c0 f235 [1,0,1,0,0]) (v9 s a b X (a:Nat) 0 (bd 2 (ab 0::undef::ae s a b::bd 10 []))) (aO 0 (aQ f235 [1,1] R)) w):=by kernel_rfl
theorem Pu (d:aq->aE):W prog (sb f235 [1,0,1,0,0]) (v9 s a b X i k j) (aV d (aO 0 (aQ f235 [1,1] R))) w=(cond (k<i) (bk s a k 9 λg=>ht w g λr=>iS prog X #[r.val] w λe f=>∃ c,e=.returned (ad c)/\cond c (R (ab k) f) (d (v9 s a b X i (i64.wrap (k+1)) [aF j 0,aF j 1,aF j 2,ab k,aF j 4,ad (k<i),ab k,X,ae s a b,ab k,jp g,r.val,ad c,aF j 13,ab (i64.wrap (k+1))]) f)) (W prog (sb f235 [1,1]) (ET  (ae s a b::X::ag j 0 5 (ab i::ab k::ad (k<i)::ag j 6 9 []))) (b0 f235 R) w)):=by kernel_rfl
theorem PE:W prog (sb f235 [1,1]) (ET  j) (b0 f235 R) w=(R (ab (-1)) w):=by kernel_rfl
end
section
abbrev ep:TypeId:=73
def hV (l:List aJ):List ax:=l.map aJ.cells
def hE:aJ:=⟨0,0,0,0,0,0,0,0,0⟩
def lS (h:Int):Bool:=fq .u64 h 255 == 0
def kr (h:Int):Bool:=decide (1<=db .u64 h 8/\db .u64 h 8<=281474976710654)
def jW (p:aJ):Bool:=kr p.Head && lS p.Head
def jO (l:List aJ) (i:Nat):Bool:=decide (i=0) || decide ((l.getD (i - 1) hE).bn<(l.getD i hE).bn)
def fr (seq:Int) (W:List aJ) (lines:Int):Int:=
 if ¬ (98<=lines/\lines<=256) then 18 else if seq<1\/1073741824<=seq\/W.length<1\/12<W.length then 1
 else if W.all (λp=>iw p.bn lines)=false then 2 else if (List.range W.length).all (λi=>jO W i && jW (W.getD i hE))=false then 1 else 0
theorem Mu {h:Int} (a:b8 h):0<=db .u64 h 8/\db .u64 h 8<18446744073709551615:=by
 have e:db .u64 h 8=h / 256:=by show Int.fdiv h 256=_;rw [uS _ (by decide)]
 have:=a.1;have:=a.2;omega
theorem vG (w:ak) (h:Int):a_ 170 [.int .u64 h] w λv w'=>v=.bool (lS h)/\w'=w:=by refine bc Tryz.func170 ?_;rw [UK];exact ⟨rfl,rfl⟩
theorem C0 (w:ak) (h:Int):a_ 236 [.int .u64 h] w λv w'=>v=.tuple #[.int .u64 (db .u64 h 8),.int .i64 (IntKind.i64.wrap (fq .u64 h 255))]/\w'=w:=by refine bc Tryz.func236 ?_;rw [T0];exact ⟨rfl,rfl⟩
theorem En {a b c:Int} (h:b=c):∃ x,Value.tuple #[.int .u64 a,.int .i64 b]=.tuple #[.int .u64 x,.int .i64 c]/\w=w:=⟨a,by rw [h],rfl⟩
theorem Mv (w:ak) (h:Int):a_ 206 [.int .u64 h] w λv w'=>∃ x,v=.tuple #[.int .u64 x,.int .i64 (if kr h=true then 0 else 2)]/\w'=w:=by
 refine bc Tryz.func206 ?_;rw [GY];refine aC (C0 w h) ?_;rintro v w1 ⟨rfl,rfl⟩;refine ⟨_,_,rfl,?_⟩;refine aC (Ay w1 _ 1 281474976710654) ?_;rintro v c ⟨rfl,rfl⟩;refine ⟨_,rfl,er (λa=>En ?_) (λb=>En ?_)⟩
 ·rw [if_neg (by unfold kr;rw [a];simp)]
 ·rw [if_pos (by unfold kr;exact b)]
structure i0 (w:ak) (a:al) (n:Nat) (W:List aJ):Prop where
 rd:bh w a (hV W).flatten
 len:n=W.length
 eA:W.length<=1000000
 u64:∀ p ∈ W,b8 p.Head
theorem i0.new {w w':ak} {a:al} {n:Nat} {W:List aJ} (h:i0 w a n W) (b:ai w w'):i0 w' a n W:=⟨h.rd.new b,h.len,h.eA,h.u64⟩
theorem RH:ic prog 205=true:=by kernel_rfl
theorem N7 (w:ak) (p:aJ) {lines:Int} (d:w.cell? ⟨cz,0,none⟩=some (.int .i64 lines)):a_ 205 [p.val,.pointer (some ⟨cz,0,none⟩)] w λv w'=>v=.bool (decide (p.bn<96) || decide (lines<=p.bn))/\ai w w':=by
 refine bc Tryz.func205 ?_;rw [Ur];rintro b1 w1 b a;obtain ⟨au,c⟩:=bl b a;have au:av w1 b1 p.cells ep:=au;clear a;refine ⟨_,au.cell (i:=0) rfl,a' (λh=>⟨?_,c⟩) (λh=>⟨_,au.cell (i:=0) rfl,_,jy c d id,?_,c⟩)⟩
 ·rw [decide_eq_true h];rfl
 ·rw [decide_eq_false h];rfl
section
attribute [local irreducible] ic iS mL
theorem JR {lines:Int} {W:List aJ} (h:i0 w a n W) (t:w.cell? ⟨cz,0,none⟩=some (.int .i64 lines)) :
  a_ 235 [.slice a n c,.func (.func 205) #[] #[.pointer (some ⟨cz,0,none⟩)]] w λv w'=>∃ z:Int,v=.int .i64 z/\(decide (z>=0)=W.any λp=>decide (p.bn<96) || decide (lines<=p.bn))/\ai w w':=by
 have x:=h.len;subst x;have l:=h.eA;refine bc Tryz.func235 ?_;rw [PR];refine c2 mix (λm env u=>∃ (i:Nat) (r:ax),m=W.length - i/\i<=W.length/\env=v9 a W.length c (.func (.func 205) #[] #[.pointer (some ⟨cz,0,none⟩)]) W.length i r/\ai w u/\((W.take i).any λp=>decide (p.bn<96) || decide (lines<=p.bn))=false) W.length
  ⟨0,_,by omega,by omega,rfl,ao.refl _ _,rfl⟩ ?_
 rintro m env u ⟨i,r,rfl,A,rfl,f,d⟩;rw [Pu];refine a' (λy=>?_) (λy=>?_)
 ·have e:i<W.length:=by omega
  have q:W[i]?=some W[i]:=bF e;refine eo (cells:=aJ.cells) aJ.len (by omega) (h.rd.new f) q rfl rfl λb o j _=>aJ.aS W[i] ⟨j,?_⟩
  refine qU RH (xs:=#[W[i].val,.pointer (some ⟨cz,0,none⟩)]) (by simp) ?_;refine aC (N7 u W[i] (jy f t id)) ?_;rintro v bE ⟨rfl,g⟩;refine ⟨_,rfl,fS (λk=>⟨i,rfl,?_,f.new g⟩) (λk=>?_)⟩
  ·have s:(W.any λp=>decide (p.bn<96) || decide (lines<=p.bn))=true:=p2.2 ⟨W[i],kb e,k⟩;rw [s];simp
  ·rw [bC (by omega) (by omega)];refine ⟨W.length - (i+1),by omega,i+1,_,rfl,by omega,rfl,f.new g,?_⟩;rw [e7,q,List.any_append,d];simpa using k
 ·rw [PE];have:W.take i=W:=hO (by omega);rw [this] at d;exact ⟨-1,rfl,by rw [d];decide,f⟩
end
theorem Hy {lines:Int} {W:List aJ} (h:i0 w a n W) (b:w.cell? ⟨cz,0,none⟩=some (.int .i64 lines)) :
  a_ 204 [.slice a n c,.func (.func 205) #[] #[.pointer (some ⟨cz,0,none⟩)]] w λv w'=>v=.bool (W.any λp=>decide (p.bn<96) || decide (lines<=p.bn))/\ai w w':=by
 refine bc Tryz.func204 ?_;rw [PA];refine aC (JR h b) ?_;rintro v w1 ⟨z,rfl,au,d⟩;exact ⟨_,rfl,by rw [au],d⟩
theorem J8 {W:List aJ} {lines:Int} (b:98<=lines/\lines<=256):(W.any λp=>decide (p.bn<96) || decide (lines<=p.bn))=!(W.all λp=>iw p.bn lines):=by
 induction W with
 |nil=>rfl
 |cons p W a=>rw [List.any_cons,List.all_cons,a,Bool.not_and];congr 1;unfold iw;rw [Bool.eq_iff_iff];simp;omega
theorem yw {p q:Nat->Bool}:((List.range n).all λi=>p i && q i)=false↔(List.range n).all p=false\/(List.range n).all q=false:=by
 have:((List.range n).all λi=>p i && q i)=((List.range n).all p && (List.range n).all q):=by rw [Bool.eq_iff_iff];simp only [gQ,eY];exact ⟨λh=>⟨λx a=>(h x a).1,λx a=>(h x a).2⟩,λh x a=>⟨h.1 x a,h.2 x a⟩⟩
 rw [this,Bool.and_eq_false_iff]
theorem xU {r:bX} {W:List aJ} (h:i0 w r.ei r.dI W) (lines:Int):a_ 167 [r.val,.int .i64 lines] w λx w'=>x=.int .i64 (fr r.Seq W lines)/\ai w w':=by
 refine bc Tryz.func167 ?_;rw [UY];rintro b1 w1 Vs U;obtain ⟨I,Vy⟩:=bl Vs U;have I:av w1 b1 r.cells 271:=I;clear U;rintro aA VD Vt V;obtain ⟨B,P⟩:=bl Vt V;have B:av VD aA [.int .i64 lines] 3:=B;clear V;have a:=ai.aj P I;have E:=Vy.new P;have hlen:=h.len;have VE:=h.eA;refine ⟨_,B.cell (i:=0) rfl,?_⟩;have Vx:a_ 203 [.int .i64 lines] VD λv w'=>v=.bool (decide (98<=lines/\lines<=256))/\w'=VD:=by
  refine bc Tryz.func203 ?_;rw [FY];refine a' (λh=>⟨?_,rfl⟩) (λh=>⟨?_,rfl⟩)
  ·have h:98<=lines:=h;congr 1;simp [h]
  ·have h:¬ 98<=lines:=h;congr 1;simp [h]
 refine aC Vx ?_;rintro x VQ ⟨rfl,rfl⟩;unfold fr;refine ⟨_,rfl,er (λM=>?_) (λS=>?_)⟩
 ·rw [if_pos (by simpa using M)];exact ⟨rfl,E⟩
 have VG:98<=lines/\lines<=256:=by simpa using S
 rw [if_neg (λe=>e VG)];refine ⟨_,a.cell (i:=0) rfl,a' (λVL=>?_) (λVL=>⟨_,a.cell (i:=0) rfl,a' (λVz=>?_) (λVz=>⟨_,_,_,a.cell (i:=1) rfl,a' (λVA=>?_) (λVA=>⟨_,_,_,a.cell (i:=1) rfl,a' (λVB=>?_) (λVB=>⟨_,_,_,a.cell (i:=1) rfl,?_⟩)⟩)⟩)⟩)⟩
 ·rw [if_pos (by omega)];exact ⟨rfl,E⟩
 ·rw [if_pos (by omega)];exact ⟨rfl,E⟩
 ·rw [if_pos (by omega)];exact ⟨rfl,E⟩
 ·rw [if_pos (by omega)];exact ⟨rfl,E⟩
 rw [if_neg (by omega)];refine aC (Hy (h.new E) (B.cell (i:=0) rfl)) ?_;rintro x VH ⟨rfl,H⟩;rw [J8 VG];refine ⟨_,rfl,er (λM=>?_) (λS=>?_)⟩
 ·rw [if_pos M];exact ⟨rfl,E.new H⟩
 rw [if_neg (by rw [S];simp)];have t:=ai.aj H a;have c:=E.new H;refine ⟨_,_,_,t.cell (i:=1) rfl,?_⟩;refine c2 mix (λm env u=>∃ (i:Nat) (J:ax),m=W.length - i/\i<=W.length/\env=qy ⟨b1,0,none⟩ r.ei r.dI r.gq r.dI i J/\ai VH u/\∀ k,k<i->jO W k=true) W.length
  ⟨0,_,by omega,by omega,rfl,ao.refl _ _,λk j=>by omega⟩ ?_
 rintro m env u ⟨i,J,rfl,VF,rfl,A,l⟩;rw [Ss];refine a' (λZ=>?_) (λZ=>?_)
 ·have p:i<W.length:=by omega
  have N:W[i]?=some W[i]:=bF p;have n:=ox (d:=hE) N;refine eo (cells:=aJ.cells) aJ.len (by omega) (h.rd.new (c.new A)) N rfl hlen λb o Vv _=>aJ.aS W[i] ⟨Vv,?_⟩
  refine ea (vs:=W[i].cells) rfl (aJ.single _) λVI VM Vu C q=>?_
  rintro bu T;have F:ai VM bu:=by rw [T];exact cD _
  clear T;have Y:=ai.aj F C;have g:=(A.new q).new F;have go:jO W i=true->∀ K,∃ bY,bY<W.length - i/\∃ (Vr:Nat) (J:ax),bY=W.length - Vr/\Vr<=W.length/\qy ⟨b1,0,none⟩ r.ei r.dI r.gq r.dI (IntKind.i64.wrap ((i:Int)+1)) K=qy ⟨b1,0,none⟩ r.ei r.dI r.gq r.dI Vr J/\ai VH bu/\∀ k,k<Vr->jO W k=true:=by
   intro VK K;rw [bC (by omega) (by omega)];refine ⟨W.length - (i+1),by omega,i+1,K,rfl,by omega,rfl,g,λk j=>?_⟩;rcases p0.1 j with j | rfl
   ·exact l k j
   ·exact VK
  refine ⟨λy=>ai bu y,ao.refl _ _,a' (λVJ=>⟨_,λy X=>(ai.aj X Y).cell (i:=0) rfl,_,_,_,λy X=>(ai.aj (g.new X) t).cell (i:=1) rfl,?_⟩) (λVJ=>go (by unfold jO;simp;omega) _)⟩;have O:W[i - 1]?=some W[i - 1]:=bF (by omega);have D:=ox (d:=hE) O;refine iR (cells:=aJ.cells) aJ.len (by omega) (h.rd.new (c.new g)) O (by rw [bC (by omega) (by omega)];omega) hlen λb' VP Vw=>⟨_,λy X=>Vw y X 0 _ rfl,a' (λVC=>?_) (λVC=>go (by unfold jO;rw [n,D];simp;omega) _)⟩
  rw [if_pos (yw.2 (.inl (xf p (by unfold jO;rw [n,D];simp;omega))))];exact ⟨rfl,c.new g⟩
 have L:(List.range W.length).all (jO W)=true:=by rw [gQ];intro k j;exact l k (by have:=fE.1 j;omega)
 rw [TF];refine ⟨_,_,_,(ai.aj A t).cell (i:=1) rfl,?_⟩;clear Z VF l;refine c2 mix (λm env z=>∃ (i:Nat) (J:ax),m=W.length - i/\i<=W.length/\env=w4 r.ei r.dI r.gq r.dI i J/\ai u z/\∀ k,k<i->jW (W.getD k hE)=true) W.length
  ⟨0,_,by omega,by omega,rfl,ao.refl _ _,λk j=>by omega⟩ ?_
 rintro m env z ⟨i,J,rfl,VF,rfl,R,l⟩;have f:=(c.new A).new R;rw [St];refine a' (λZ=>?_) (λZ=>?_)
 ·have p:i<W.length:=by omega
  have N:W[i]?=some W[i]:=bF p;have n:=ox (d:=hE) N;have bad:jW W[i]=false->(if ((List.range W.length).all λi=>jO W i && jW (W.getD i hE))=false then 1 else (0:Int))=1:=λe=>by rw [if_pos (yw.2 (.inr (xf p (by rw [n];exact e))))]
  refine eo (cells:=aJ.cells) aJ.len (by omega) (h.rd.new f) N rfl hlen λb o Vv _=>aJ.aS W[i] ⟨Vv,?_⟩
  refine ea (vs:=W[i].cells) rfl (aJ.single _) λVI VN Vu C q=>?_
  refine ⟨_,C.cell (i:=1) rfl,?_⟩;refine aC (Mv VN W[i].Head) ?_;rintro x VO ⟨y,rfl,rfl⟩;refine ⟨_,_,rfl,dw (λQ=>?_) (λhe=>⟨_,C.cell (i:=1) rfl,?_⟩)⟩
  ·rw [bad (by unfold jW;cases s:kr W[i].Head with
    |true=>rw [s] at Q;simp at Q
    |false=>rfl)]
   exact ⟨rfl,f.new q⟩
  have s:kr W[i].Head=true:=by
   cases s:kr W[i].Head with
   |true=>rfl
   |false=>rw [s] at he;simp at he
  refine aC (vG VO W[i].Head) ?_;rintro x VR ⟨rfl,rfl⟩;refine ⟨_,rfl,er (λM=>?_) (λS=>?_)⟩
  ·rw [bad (by unfold jW;rw [M,Bool.and_false])];exact ⟨rfl,f.new q⟩
  ·rw [bC (by omega) (by omega)];refine ⟨W.length - (i+1),by omega,i+1,_,rfl,by omega,rfl,R.new q,λk j=>?_⟩;rcases p0.1 j with j | rfl
   ·exact l k j
   ·rw [n];unfold jW;rw [s,S];rfl
 ·rw [TG];have G:(List.range W.length).all (λi=>jW (W.getD i hE))=true:=by rw [gQ];intro k j;exact l k (by have:=fE.1 j;omega)
  rw [if_neg (λe=>by
   rcases yw.1 e with e | e
   ·rw [L] at e;cases e
   ·rw [G] at e;cases e)]
  exact ⟨rfl,f⟩
end
section
def DN (l:List eP):List ax:=l.map eP.cells
def px:eP:=⟨0,0⟩
def qq (R:List eP) (i:Nat):Bool:=decide (i=0) || decide ((R.getD (i - 1) px).bn<(R.getD i px).bn)
def has (W:List aJ) (line:Int):Bool:=W.any λp=>decide (p.bn=line)
def mB (R:List eP) (W:List aJ) (i:Nat):Bool:=(qq R i && lS (R.getD i px).Head) && !has W (R.getD i px).bn
structure cS where
 a3:Int
 seq:Int
 lines:Int
 v:jd
 reads:List eP
 writes:List aJ
def cS.valid (j:cS):Int:=
 if j.a3<0\/6<=j.a3 then 1 else if j.v.valid 5≠0 then j.v.valid 5 else if j.lines<98\/256<j.lines then 18
 else if 0<j.writes.length/\fr j.seq j.writes j.lines≠0 then fr j.seq j.writes j.lines else if 24<j.reads.length then 18
 else if j.reads.all (λs=>iw s.bn j.lines)=false then 2 else if (List.range j.reads.length).all (mB j.reads j.writes)=false then 1 else 0
structure pW (w:ak) (r:dv) (j:cS):Prop where
 a3:r.Client=j.a3
 seq:r.Seq=j.seq
 lines:r.fF=j.lines
 view:∃ M,f0 M w r.View j.v
 rd:bh w r.Reads (DN j.reads).flatten
 len:r.ja=j.reads.length
 eA:j.reads.length<=1000000
 bS:i0 w r.ei r.dI j.writes
theorem pW.new {w w':ak} {r:dv} {j:cS} (h:pW w r j) (a:ai w w'):pW w' r j:=⟨h.a3,h.seq,h.lines,h.view.imp λ_ h=>h.new a,h.rd.new a,h.len,h.eA,h.bS.new a⟩
theorem CR (w:ak) (r:dv):a_ 168 [r.val] w λx w'=>x=bX.val ⟨r.Seq,r.ei,r.dI,r.gq⟩/\ai w w':=by
 refine bc Tryz.func168 ?_;rw [TH];rintro b1 w1 j g;obtain ⟨b,d⟩:=bl j g;have b:av w1 b1 r.cells 39:=b;clear g;rintro aA q l h;obtain ⟨c,f⟩:=bl l h;have c:av q aA (bX.cells ⟨0,none,0,0⟩) 271:=c;clear h;have a:=ai.aj f b;have s:=d.size;refine ⟨_,a.cell (i:=1) rfl,_,_,_,a.cell (i:=6) rfl,?_⟩;refine dO (vs:=bX.cells ⟨r.Seq,r.ei,r.dI,r.gq⟩) c rfl (bX.single _) λt o n=>?_
 refine bX.aS ⟨r.Seq,r.ei,r.dI,r.gq⟩ ⟨bK o rfl,rfl,rfl,?_⟩;exact (d.new f).trans n λk p e=>by omega
theorem Bf {W:List aJ} (h:i0 w r.ei r.dI W) (line:Int):a_ 171 [r.val,.int .i64 line] w λx w'=>x=.bool (has W line)/\ai w w':=by
 refine bc Tryz.func171 ?_;rw [TI];rintro b1 w1 j g;obtain ⟨d,k⟩:=bl j g;have d:av w1 b1 r.cells 39:=d;clear g;have hlen:=h.len;have n:=h.eA;refine ⟨_,_,_,d.cell (i:=6) rfl,?_⟩;refine c2 mix (λm env u=>∃ (i:Nat) (q:ax),m=W.length - i/\i<=W.length/\env=wI line r.ei r.dI r.gq r.dI i q/\ai w u/\has (W.take i) line=false) W.length
  ⟨0,_,by omega,by omega,rfl,k,rfl⟩ ?_
 rintro m env u ⟨i,q,rfl,B,rfl,a,c⟩;rw [Ro];refine a' (λy=>?_) (λy=>?_)
 ·have e:i<W.length:=by omega
  have p:W[i]?=some W[i]:=bF e;refine eo (cells:=aJ.cells) aJ.len (by omega) (h.rd.new a) p rfl hlen λb o t _=>aJ.aS W[i] ⟨t,?_⟩
  refine ea (vs:=W[i].cells) rfl (aJ.single _) λA C s l f=>?_
  refine ⟨_,l.cell (i:=0) rfl,dJ (λhe=>⟨?_,a.new f⟩) (λhe=>?_)⟩
  ·have:has W line=true:=p2.2 ⟨W[i],kb e,by simpa using he⟩;rw [this]
  ·rw [bC (by omega) (by omega)];refine ⟨W.length - (i+1),by omega,i+1,_,rfl,by omega,rfl,a.new f,?_⟩;unfold has;rw [e7,p,List.any_append];have:=c;unfold has at this;rw [this];simpa using he
 ·rw [pu];have z:W.take i=W:=hO (by omega);rw [z] at c;exact ⟨by rw [c],a⟩
end
section
def cS.tail (j:cS):Int:=if j.reads.all (λs=>iw s.bn j.lines)=false then 2 else if (List.range j.reads.length).all (mB j.reads j.writes)=false then 1 else 0
theorem uo {R:List eP} {W:List aJ} {i:Nat} (h:qq R i=false\/lS (R.getD i px).Head=false\/has W (R.getD i px).bn=true):mB R W i=false:=by
 unfold mB;rcases h with h | h | h
 ·rw [h];rfl
 ·rw [h,Bool.and_false];rfl
 ·rw [h];simp
theorem DO {u:ak} {j:cS} {b1:Nat} (h:pW w r j) (au:av u b1 r.cells 39) (Vx:ai w u) (K:ax) {R:cA} (F:∀ w',ai w w'->R (.int .i64 j.tail) w') :
  cu prog (.loop (sub (bo f124) [1,1,1,1,1,1,0,1,0,0])) (r0 ⟨b1,0,none⟩ r.Reads r.ja r.lv r.ja 0 K) (aO 0 (aV (λenv w=>W prog (sub (bo f124) [1,1,1,1,1,1,1]) env (dB prog f124 R) w) (dB prog f124 R))) u:=by
 have hlen:=h.len;have Vs:=h.eA;have O:=h.lines;unfold cS.tail at F;refine c2 mix (λm env z=>∃ (i:Nat) (K:ax),m=j.reads.length - i/\i<=j.reads.length/\env=r0 ⟨b1,0,none⟩ r.Reads r.ja r.lv r.ja i K/\ai u z/\(j.reads.take i).all (λs=>iw s.bn j.lines)=true) j.reads.length
  ⟨0,_,by omega,by omega,rfl,ao.refl _ _,rfl⟩ ?_
 rintro m env z ⟨i,K,rfl,Vt,rfl,E,f⟩;have t:=Vx.new E;rw [Sq];refine a' (λT=>?_) (λT=>?_)
 ·have p:i<j.reads.length:=by omega
  have M:j.reads[i]?=some j.reads[i]:=bF p;refine eo (cells:=eP.cells) eP.len (by omega) (h.rd.new t) M rfl hlen λb o Y _=>eP.aS j.reads[i] ⟨Y,?_⟩
  refine ea (vs:=j.reads[i].cells) rfl (eP.single _) λVv Vu X I A=>?_
  refine ⟨_,I.cell (i:=0) rfl,_,(ai.aj (E.new A) au).cell (i:=2) rfl,?_⟩;refine aC (J7 _ _ _) ?_;rintro x VB ⟨rfl,rfl⟩;refine ⟨_,rfl,er (λL=>?_) (λU=>?_)⟩
  ·rw [if_pos (by rw [x8];exact ⟨_,kb p,by rw [<-O,L];simp⟩)] at F
   exact F _ (t.new A)
  ·rw [bC (by omega) (by omega)];refine ⟨j.reads.length - (i+1),by omega,i+1,_,rfl,by omega,rfl,E.new A,?_⟩;rw [e7,M,List.all_append,f];simp [<-O,U]
 have U:j.reads.take i=j.reads:=hO (by omega);rw [U] at f;rw [if_neg (by rw [f];simp)] at F;rw [TD];clear f Vt T U;have S:=ai.aj E au;refine ⟨_,_,_,S.cell (i:=5) rfl,?_⟩;refine c2 mix (λm env x=>∃ (i:Nat) (K:ax),m=j.reads.length - i/\i<=j.reads.length/\env=ub ⟨b1,0,none⟩ r.Reads r.ja r.lv r.ja i K/\ai z x/\∀ k,k<i->mB j.reads j.writes k=true) j.reads.length
  ⟨0,_,by omega,by omega,rfl,ao.refl _ _,λk C=>by omega⟩ ?_
 rintro m env x ⟨i,K,rfl,Vt,rfl,D,f⟩;have q:=t.new D;rw [Sr];refine a' (λT=>?_) (λT=>?_)
 ·have p:i<j.reads.length:=by omega
  have M:j.reads[i]?=some j.reads[i]:=bF p;have c:=ox (d:=px) M;have bad:mB j.reads j.writes i=false->∀ w',ai w w'->R (.int .i64 1) w':=λe w' hw=>by rw [if_pos (xf p e)] at F;exact F w' hw
  refine eo (cells:=eP.cells) eP.len (by omega) (h.rd.new q) M rfl hlen λb o Y _=>eP.aS j.reads[i] ⟨Y,?_⟩
  refine ea (vs:=j.reads[i].cells) rfl (eP.single _) λVv Vu X I A=>?_
  rintro bu Q;have P:ai Vu bu:=by rw [Q];exact cD _
  clear Q;have n:=A.new P;have B:=ai.aj P I;have J:=ai.aj (D.new n) S;have a:=q.new n;refine ⟨λy=>ai bu y,ao.refl _ _,a' (λVw=>⟨_,λy g=>(ai.aj g B).cell (i:=0) rfl,_,_,_,λy g=>(ai.aj g J).cell (i:=5) rfl,?_⟩) (λVw=>⟨_,λy g=>(ai.aj g B).cell (i:=1) rfl,?_⟩)⟩
  ·have N:j.reads[i - 1]?=some j.reads[i - 1]:=bF (by omega);have G:=ox (d:=px) N;refine iR (cells:=eP.cells) eP.len (by omega) (h.rd.new a) N (by rw [bC (by omega) (by omega)];omega) hlen λb' VA Z=>⟨_,λy g=>Z y g 0 _ rfl,a' (λVr=>?_) (λVr=>⟨_,λy g=>(ai.aj g B).cell (i:=1) rfl,?_⟩)⟩
   ·exact bad (uo (.inl (by unfold qq;rw [c,G];simp;omega))) _ a
   have V:qq j.reads i=true:=by unfold qq;rw [c,G];simp;omega
   refine aC (vG bu j.reads[i].Head) ?_;rintro v Vy ⟨rfl,rfl⟩;refine ⟨_,rfl,ao.refl _ _,er (λL=>?_) (λH=>dv.aS r ⟨λy g=>bK (ai.aj g J) rfl,_,λy g=>(ai.aj g B).cell (i:=0) rfl,?_⟩)⟩
   ·exact bad (uo (.inr (.inl (by rw [c];exact L)))) _ a
   refine aC (Bf (h.bS.new a) j.reads[i].bn) ?_;rintro v Vz ⟨rfl,l⟩;refine ⟨_,rfl,l,fS (λhw=>?_) (λhw=>?_)⟩
   ·exact bad (uo (.inr (.inr (by rw [c];exact hw)))) _ (a.new l)
   ·rw [bC (by omega) (by omega)];refine ⟨j.reads.length - (i+1),by omega,i+1,_,rfl,by omega,rfl,(D.new n).new l,λk C=>?_⟩;rcases p0.1 C with C | rfl
    ·exact f k C
    ·unfold mB;rw [c,V,H,hw];rfl
  ·have V:qq j.reads i=true:=by unfold qq;simp;omega
   refine aC (vG bu j.reads[i].Head) ?_;rintro v Vy ⟨rfl,rfl⟩;refine ⟨_,rfl,ao.refl _ _,er (λL=>?_) (λH=>dv.aS r ⟨λy g=>bK (ai.aj g J) rfl,_,λy g=>(ai.aj g B).cell (i:=0) rfl,?_⟩)⟩
   ·exact bad (uo (.inr (.inl (by rw [c];exact L)))) _ a
   refine aC (Bf (h.bS.new a) j.reads[i].bn) ?_;rintro v Vz ⟨rfl,l⟩;refine ⟨_,rfl,l,fS (λhw=>?_) (λhw=>?_)⟩
   ·exact bad (uo (.inr (.inr (by rw [c];exact hw)))) _ (a.new l)
   ·rw [bC (by omega) (by omega)];refine ⟨j.reads.length - (i+1),by omega,i+1,_,rfl,by omega,rfl,(D.new n).new l,λk C=>?_⟩;rcases p0.1 C with C | rfl
    ·exact f k C
    ·unfold mB;rw [c,V,H,hw];rfl
 ·rw [TE];rw [if_neg (by rw [sZ,gQ];intro k C;exact f k (by have:=fE.1 C;omega))] at F
  exact F _ q
theorem K4 {j:cS} (h:pW w r j):a_ 124 [r.val] w λx w'=>x=.int .i64 j.valid/\ai w w':=by
 refine bc Tryz.func124 ?_;rw [UX];rintro b1 w1 B s;obtain ⟨au,z⟩:=bl B s;have au:av w1 b1 r.cells 39:=au;clear s;have hlen:=h.len;have J:=h.eA;have K:=h.a3;have G:=h.seq;have p:=h.lines;have M:=h.bS.len;obtain ⟨O,l⟩:=h.view;unfold cS.valid;refine ⟨_,au.cell (i:=0) rfl,a' (λL=>?_) (λL=>⟨_,au.cell (i:=0) rfl,a' (λC=>?_) (λC=>?_)⟩)⟩
 ·rw [if_pos (by omega)];exact ⟨rfl,z⟩
 ·rw [if_pos (by omega)];exact ⟨rfl,z⟩
 rw [if_neg (by omega)];refine cX.aS r.View ⟨bK au rfl,?_⟩;refine aC (CL (l.new z) 5) ?_;rintro x N ⟨rfl,q⟩;have b:=ai.aj q au;have a:=z.new q;refine ⟨_,rfl,dw (λan=>?_) (λan=>?_)⟩
 ·rw [if_pos an];exact ⟨rfl,a⟩
 rw [if_neg (by omega)];refine ⟨_,b.cell (i:=2) rfl,a' (λD=>?_) (λD=>⟨_,b.cell (i:=2) rfl,a' (λE=>?_) (λE=>⟨_,_,_,b.cell (i:=6) rfl,a' (λF=>?_) (λF=>⟨_,_,_,b.cell (i:=5) rfl,a' (λk=>?_) (λk=>⟨_,_,_,b.cell (i:=5) rfl,?_⟩)⟩)⟩)⟩)⟩
 ·rw [if_pos (by omega)];exact ⟨rfl,a⟩
 ·rw [if_pos (by omega)];exact ⟨rfl,a⟩
 ·rw [if_neg (by omega)];rintro I t;have d:ai N I:=by rw [t];exact cD _
  clear t;have n:=ai.aj d b;refine ⟨λy=>ai I y,ao.refl _ _,dv.aS r ⟨λy H=>bK (ai.aj H n) rfl,_,λy H=>(ai.aj H n).cell (i:=2) rfl,?_⟩⟩;refine aC (CR I r) ?_;rintro x P ⟨rfl,c⟩;refine bX.aS ⟨r.Seq,r.ei,r.dI,r.gq⟩ ⟨rfl,c,?_⟩;refine aC (xU (r:=⟨r.Seq,r.ei,r.dI,r.gq⟩) (h.bS.new (a.new (d.new c))) r.fF) ?_;rintro x u ⟨rfl,f⟩;have g:=a.new (d.new (c.new f));have o:=ai.aj (c.new f) n;rw [<-G,<-p];refine ⟨_,rfl,c.new f,dw (λA=>?_) (λA=>⟨_,_,_,o.cell (i:=5) rfl,a' (λk=>?_) (λk=>⟨_,_,_,o.cell (i:=5) rfl,?_⟩)⟩)⟩
  ·rw [if_pos ⟨by omega,A⟩];exact ⟨rfl,g⟩
  ·rw [if_neg (λe=>e.2 A),if_pos (by omega)];exact ⟨rfl,g⟩
  ·rw [if_neg (λe=>e.2 A),if_neg (by omega),p];exact DO h o g _ λw' hw=>⟨rfl,hw⟩
 ·rw [if_neg (by omega),if_neg (by omega),if_pos (by omega)];exact ⟨rfl,a⟩
 ·rw [if_neg (by omega),if_neg (by omega),if_neg (by omega)];exact DO h b a _ λw' hw=>⟨rfl,hw⟩
end
end Go.Proofs.YtmkljjbioomepaaGreat
