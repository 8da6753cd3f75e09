import Derived.Test.YtmkljjbioomepaaGreatProg
import Derived.Test.YtmkljjbioomepaaGreatg02
import Derived.Test.YtmkljjbioomepaaGreatg14
import Derived.Test.YtmkljjbioomepaaGreatg19
import Derived.Test.YtmkljjbioomepaaGreatg12
set_option linter.all false
set_option maxHeartbeats 4000000
set_option maxRecDepth 100000
namespace Go.Proofs.YtmkljjbioomepaaGreat
open Go.Proofs.Tryz Go.bJ
variable {Ls:eE}{P:df}{Q:Exit->ax->aJ}{R:cM}{aK:a7}{c:Code}{env:ax}{fn:Func}{i m aE:Nat}{e1 sp:c6}{s:Int}{w:an}
section
open IntKind
variable (w:an)(R:cM){A:aU}{j:ar}{F G:Bool}{i k:Int}
def lu:Code->gK
 |.region _ ops _=>ops.toList
 | _=>[]
def IQ (a:aU)(j:ar):ar:=ag j 0 1 (.pointer (some a)::ag j 1 119 [])
def yi (a:aU)(b:Bool)(j:ar):ar:=ag j 0 1 (.pointer (some a)::ag j 1 25 (ae b::ag j 26 93 []))
def IS (a:aU)(j:ar):ar:=ag j 0 1 (.pointer (some a)::ag j 1 119 [])
def yj (a:aU)(c d:Int)(s8 b:Bool)(j:ar):ar:=ag j 0 1 (.pointer (some a)::ag j 1 4 (ab c::ab d::ae s8::ag j 5 32 (ae b::ag j 37 79 [])))
def BJ (a:aU)(b c:Int)(s8:Bool)(j:ar):ar:=ag j 0 1 (.pointer (some a)::ag j 1 4 (ab b::ab c::ae s8::ag j 5 112 []))
def i0 (a:aU)(c d:Int)(s8 b:Bool)(j:ar):ar:=ag j 0 1 (.pointer (some a)::ag j 1 4 (ab c::ab d::ae s8::ag j 5 41 (ae b::ag j 46 70 [])))
def lw (a:aU)(b c:Int)(s8:Bool)(j:ar):ar:=ag j 0 1 (.pointer (some a)::ag j 1 4 (ab b::ab c::ae s8::ag j 5 112 []))
def th (a:aU)(c d:Int)(s8 b:Bool)(j:ar):ar:=ag j 0 1 (.pointer (some a)::ag j 1 4 (ab c::ab d::ae s8::ag j 5 54 (ae b::ag j 59 57 [])))
def yv (a:aU)(b c:Int)(s8:Bool)(j:ar):ar:=ag j 0 1 (.pointer (some a)::ag j 1 4 (ab b::ab c::ae s8::ag j 5 112 []))
def BG (a:aU)(c d:Int)(b:Bool)(j:ar):ar:=ag j 0 1 (.pointer (some a)::ag j 1 4 (ab c::ab d::ag j 5 77 (ae b::ag j 82 35 [])))
def BH (a:aU)(b c:Int)(j:ar):ar:=ag j 0 1 (.pointer (some a)::ag j 1 4 (ab b::ab c::ag j 5 113 []))
def ru (a:Bool)(j:ar):ar:=ag j 0 120 [ae a]
def IN (a:Bool)(j:ar):ar:=ag j 0 93 (ae a::ag j 93 27 [])
def rv  (j:ar):ar:=ag j 0 121 []
theorem Zs (f:c_):bd prog f127 [f.val] R w=(aR w f.cells.toArray 41 λe g=>b0 g (af e 1) λa=>b0 g (af e 0) λb=>h1 128 #[ab a,ab b] g λc d h=>cond (d != 0) (R (ab d) h) (W prog (sb f127 [1,1]) (IQ (af e 0) (f.val::ab 0::ah c::ab d::bm 4 (.tuple #[ah c,ab d]::jp (af e 1)::ab a::jp (af e 0)::ab b::.tuple #[ah c,ab d]::ah c::ab d::ab d::ae ((d:Int) != 0)::bm 102 []))) (bT f127 R) h)):=by kernel_rfl
theorem Wc (env:ar)(w:an)(Q:dy):W prog (sub (bu f127) [1,1]) env Q w=W prog (sub (bu f127) [1,1,0]) env (aZ (λenv w=>W prog (sub (bu f127) [1,1,1]) env Q w) Q) w:=by rw[show sub (bu f127) [1,1]=.seq (sub (bu f127) [1,1,0]) (sub (bu f127) [1,1,1]) by kernel_rfl];generalize sub (bu f127) [1,1,0]=a;generalize sub (bu f127) [1,1,1]=b;kernel_rfl
theorem WS (env:ar)(w:an)(Q:dy):W prog (sub (bu f127) [1,1,0]) env Q w=W prog (sub (bu f127) [1,1,0,0]) env (aZ (λenv w=>W prog (sub (bu f127) [1,1,0,1]) env Q w) Q) w:=by rw[show sub (bu f127) [1,1,0]=.seq (sub (bu f127) [1,1,0,0]) (sub (bu f127) [1,1,0,1]) by kernel_rfl];generalize sub (bu f127) [1,1,0,0]=a;generalize sub (bu f127) [1,1,0,1]=b;kernel_rfl
theorem XD (a:dy):W prog (sb f127 [1,1,0,0]) (IQ A j) (bO prog f127 R a) w=(b0 w (b5 A 5) λb=>cond (b<0) (a .normal (yi A true (ag j 0 19 (bM A 5::ab b::ae (b<0)::ae true::bm 3 (ag j 27 93 [])))) w) (b0 w (b5 A 5) λc=>a .normal (yi A (decide ((c:Int)>=6)) (ag j 0 19 (bM A 5::ab b::ae (b<0)::ae false::bM A 5::ab c::ae (c>=6)::ag j 27 93 []))) w)):=by kernel_rfl
theorem XE (a:dy):W prog (sb f127 [1,1,0,1]) (yi A F j) (bO prog f127 R a) w=(cond F (R (ab 1) w) (a .normal (IS A (ag j 0 26 (ae F::ag j 26 93 []))) w)):=by kernel_rfl
theorem XF (a:dy):W prog (sb f127 [1,1,1]) (IS A j) (bO prog f127 R a) w=(mD w (b5 A 3) λk=>cG 166 #[k.val,ab 5] w λb m=>cond (b != 0) (R (ab b) m) (d' m (b5 A 7) λc=>B0 177 #[ah c] m λd f g e=>b0 e (b5 A 2) λh=>cond (h<98) (W prog (sb f127 [1,1,1,1,1,0,0,1]) (yj A d f g true (ag j 0 4 (ab b::ag j 8 19 (bM A 3::k.val::ab b::ab b::ae ((b:Int) != 0)::aH j 32::.tuple #[ab d,ab f,ae g]::bM A 7::ah c::.tuple #[ab d,ab f,ae g]::ab d::ab f::ae g::bM A 2::ab h::ae (h<98)::ae true::bm 3 (ae true::ag j 49 71 []))))) (aO 0 (aZ (λl w=>W prog (sb f127 [1,1,1,1,1,1]) l (bO prog f127 R a) w) (bO prog f127 R a))) e) (b0 e (b5 A 2) λi=>W prog (sb f127 [1,1,1,1,1,0,0,1]) (yj A d f g (decide ((i:Int)>256)) (ag j 0 4 (ab b::ag j 8 19 (bM A 3::k.val::ab b::ab b::ae ((b:Int) != 0)::aH j 32::.tuple #[ab d,ab f,ae g]::bM A 7::ah c::.tuple #[ab d,ab f,ae g]::ab d::ab f::ae g::bM A 2::ab h::ae (h<98)::ae false::bM A 2::ab i::ae (i>256)::ae (i>256)::ag j 49 71 [])))) (aO 0 (aZ (λl w=>W prog (sb f127 [1,1,1,1,1,1]) l (bO prog f127 R a) w) (bO prog f127 R a))) e))):=by kernel_rfl
theorem XG (a:dy):W prog (sb f127 [1,1,1,1,1,0,0,1]) (yj A i k F G j) (bO prog f127 R a) w=(cond G (R (ab 18) w) (W prog (sb f127 [1,1,1,1,1,0,0,1,1]) (BJ A i k F (ag j 0 37 (ae G::ag j 37 79 []))) (bO prog f127 R a) w)):=by kernel_rfl
theorem Wd (env:ar)(w:an)(Q:dy):W prog (sub (bu f127) [1,1,1,1,1,0,0,1,1]) env Q w=W prog (sub (bu f127) [1,1,1,1,1,0,0,1,1,0]) env (aZ (λenv w=>W prog (sub (bu f127) [1,1,1,1,1,0,0,1,1,1]) env Q w) Q) w:=by rw[show sub (bu f127) [1,1,1,1,1,0,0,1,1]=.seq (sub (bu f127) [1,1,1,1,1,0,0,1,1,0]) (sub (bu f127) [1,1,1,1,1,0,0,1,1,1]) by kernel_rfl];generalize sub (bu f127) [1,1,1,1,1,0,0,1,1,0]=a;generalize sub (bu f127) [1,1,1,1,1,0,0,1,1,1]=b;kernel_rfl
theorem t5 (a:dy):W prog (sb f127 [1,1,1,1,1,0,0,1,1,0]) (BJ A i k F j) (bO prog f127 R a) w=(b0 w (b5 A 5) λb=>b0 w A λc=>cond (b == c) (b0 w (b5 A 6) λd=>b0 w (b5 A 1) λf=>a .normal (i0 A i k F ((d:Int) != f) (ag j 0 46 (bM A 5::ab b::jp A::ab c::ae ((b:Int) == c)::ae true::bM A 6::ab d::bM A 1::ab f::ae ((d:Int) != f)::ae ((d:Int) != f)::ag j 59 58 []))) w) (a .normal (i0 A i k F false (ag j 0 46 (bM A 5::ab b::jp A::ab c::ae ((b:Int) == c)::ae false::bm 5 (ae false::ag j 59 58 [])))) w)):=by kernel_rfl
theorem t6 (a:dy):W prog (sb f127 [1,1,1,1,1,0,0,1,1,1]) (i0 A i k F G j) (bO prog f127 R a) w=(cond G (R (ab 1) w) (W prog (sb f127 [1,1,1,1,1,0,0,1,1,1,1]) (lw A i k F (ag j 0 46 (ae G::ag j 46 70 []))) (bO prog f127 R a) w)):=by kernel_rfl
theorem We (env:ar)(w:an)(Q:dy):W prog (sub (bu f127) [1,1,1,1,1,0,0,1,1,1,1]) env Q w=W prog (sub (bu f127) [1,1,1,1,1,0,0,1,1,1,1,0]) env (aZ (λenv w=>W prog (sub (bu f127) [1,1,1,1,1,0,0,1,1,1,1,1]) env Q w) Q) w:=by rw[show sub (bu f127) [1,1,1,1,1,0,0,1,1,1,1]=.seq (sub (bu f127) [1,1,1,1,1,0,0,1,1,1,1,0]) (sub (bu f127) [1,1,1,1,1,0,0,1,1,1,1,1]) by kernel_rfl];generalize sub (bu f127) [1,1,1,1,1,0,0,1,1,1,1,0]=a;generalize sub (bu f127) [1,1,1,1,1,0,0,1,1,1,1,1]=b;kernel_rfl
theorem t7 (a:dy):W prog (sb f127 [1,1,1,1,1,0,0,1,1,1,1,0]) (lw A i k F j) (bO prog f127 R a) w=(b0 w (b5 A 5) λb=>b0 w A λc=>cond (b != c) (b0 w (b5 A 6) λd=>cond (d<2) (a .normal (th A i k F true (ag j 0 59 (bM A 5::ab b::jp A::ab c::ae ((b:Int) != c)::ae true::bM A 6::ab d::ae (d<2)::ae true::bm 3 (ae true::ae true::bm 4 (ae true::ae true::ag j 81 36 []))))) w) (b0 w (b5 A 6) λf=>cond (f>60) (a .normal (th A i k F true (ag j 0 59 (bM A 5::ab b::jp A::ab c::ae ((b:Int) != c)::ae true::bM A 6::ab d::ae (d<2)::ae false::bM A 6::ab f::ae (f>60)::ae (f>60)::ae true::bm 4 (ae true::ae true::ag j 81 36 [])))) w) (b0 w (b5 A 6) λg=>a .normal (th A i k F (((Int.tmod g 2):Int) != 0) (ag j 0 59 (bM A 5::ab b::jp A::ab c::ae ((b:Int) != c)::ae true::bM A 6::ab d::ae (d<2)::ae false::bM A 6::ab f::ae (f>60)::ae (f>60)::ae false::bM A 6::ab g::ab (Int.tmod g 2)::ae (((Int.tmod g 2):Int) != 0)::ae (((Int.tmod g 2):Int) != 0)::ae (((Int.tmod g 2):Int) != 0)::ag j 81 36 []))) w))) (a .normal (th A i k F false (ag j 0 59 (bM A 5::ab b::jp A::ab c::ae ((b:Int) != c)::ae false::bm 14 (ae false::ag j 81 36 [])))) w)):=by kernel_rfl
theorem t8 (a:dy):W prog (sb f127 [1,1,1,1,1,0,0,1,1,1,1,1]) (th A i k F G j) (bO prog f127 R a) w=(cond G (R (ab 2) w) (W prog (sb f127 [1,1,1,1,1,0,0,1,1,1,1,1,1]) (yv A i k F (ag j 0 59 (ae G::ag j 59 57 []))) (bO prog f127 R a) w)):=by kernel_rfl
theorem Wf (env:ar)(w:an)(Q:dy):W prog (sub (bu f127) [1,1,1,1,1,0,0,1,1,1,1,1,1]) env Q w=W prog (sub (bu f127) [1,1,1,1,1,0,0,1,1,1,1,1,1,0]) env (aZ (λenv w=>W prog (sub (bu f127) [1,1,1,1,1,0,0,1,1,1,1,1,1,1]) env Q w) Q) w:=by rw[show sub (bu f127) [1,1,1,1,1,0,0,1,1,1,1,1,1]=.seq (sub (bu f127) [1,1,1,1,1,0,0,1,1,1,1,1,1,0]) (sub (bu f127) [1,1,1,1,1,0,0,1,1,1,1,1,1,1]) by kernel_rfl];generalize sub (bu f127) [1,1,1,1,1,0,0,1,1,1,1,1,1,0]=a;generalize sub (bu f127) [1,1,1,1,1,0,0,1,1,1,1,1,1,1]=b;kernel_rfl
theorem t9 (a:dy):W prog (sb f127 [1,1,1,1,1,0,0,1,1,1,1,1,1,0]) (yv A i k F j) (bO prog f127 R a) w=(d' w (b5 A 7) λb=>cond (b != 0) (a .normal (BG A i k (!F) (ag j 0 5 (ae F::ag j 5 76 (bM A 7::ah b::ae ((b:Int) != 0)::ae true::ae F::ae (!F)::ae (!F)::ag j 89 28 [])))) w) (a .normal (BG A i k false (ag j 0 5 (ae F::ag j 5 76 (bM A 7::ah b::ae ((b:Int) != 0)::ae false::bm 2 (ae false::ag j 89 28 []))))) w)):=by kernel_rfl
theorem ms (a:dy):W prog (sb f127 [1,1,1,1,1,0,0,1,1,1,1,1,1,1]) (BG A i k F j) (bO prog f127 R a) w=(cond F (R (ab 1) w) (W prog (sb f127 [1,1,1,1,1,0,0,1,1,1,1,1,1,1,1]) (BH A i k (ag j 0 82 (ae F::ag j 82 35 []))) (bO prog f127 R a) w)):=by kernel_rfl
theorem WT (env:ar)(w:an)(Q:dy):W prog (sub (bu f127) [1,1,1,1,1,0,0,1,1,1,1,1,1,1,1]) env Q w=W prog (sub (bu f127) [1,1,1,1,1,0,0,1,1,1,1,1,1,1,1,0]) env (aZ (λenv w=>W prog (sub (bu f127) [1,1,1,1,1,0,0,1,1,1,1,1,1,1,1,1]) env Q w) Q) w:=by rw[show sub (bu f127) [1,1,1,1,1,0,0,1,1,1,1,1,1,1,1]=.seq (sub (bu f127) [1,1,1,1,1,0,0,1,1,1,1,1,1,1,1,0]) (sub (bu f127) [1,1,1,1,1,0,0,1,1,1,1,1,1,1,1,1]) by kernel_rfl];generalize sub (bu f127) [1,1,1,1,1,0,0,1,1,1,1,1,1,1,1,0]=a;generalize sub (bu f127) [1,1,1,1,1,0,0,1,1,1,1,1,1,1,1,1]=b;kernel_rfl
theorem XO (e:dy):W prog (sb f127 [1,1,1,1,1,0,0,1,1,1,1,1,1,1,1,0]) (BH A i k j) (bO prog f127 R e) w=(d' w (b5 A 7) λb=>cond (b != 0) (b0 w A λc=>cond (k == c) (b0 w (b5 A 1) λd=>cond (i>=d) (km prog (lu (sb f127 [1,1,1,1,1,0,0,1,1,1,1,1,1,1,1,0])) ((lu (sb f127 [1,1,1,1,1,0,0,1,1,1,1,1,1,1,1,0])).drop 27) (ru true (aH j 0::jp A::ag j 1 4 (ab i::ab k::ag j 5 86 (bM A 7::ah b::ae ((b:Int) != 0)::ae true::ab k::jp A::ab c::ae ((k:Int) == c)::ae true::ab i::bM A 1::ab d::ae (i>=d)::ae (i>=d)::ae true::bm 10 [ae true])))) ((bO prog f127 R e) .normal) w) (b0 w (b5 A 5) λf=>cond (k == f) (b0 w (b5 A 6) λg=>km prog (lu (sb f127 [1,1,1,1,1,0,0,1,1,1,1,1,1,1,1,0])) ((lu (sb f127 [1,1,1,1,1,0,0,1,1,1,1,1,1,1,1,0])).drop 27) (ru (decide ((i:Int)>=g)) (aH j 0::jp A::ag j 1 4 (ab i::ab k::ag j 5 86 [bM A 7,ah b,ae ((b:Int) != 0),ae true,ab k,jp A,ab c,ae ((k:Int) == c),ae true,ab i,bM A 1,ab d,ae (i>=d),ae (i>=d),ae false,ab k,bM A 5,ab f,ae ((k:Int) == f),ae true,ab i,bM A 6,ab g,ae (i>=g),ae (i>=g),ae (i>=g)]))) ((bO prog f127 R e) .normal) w) (km prog (lu (sb f127 [1,1,1,1,1,0,0,1,1,1,1,1,1,1,1,0])) ((lu (sb f127 [1,1,1,1,1,0,0,1,1,1,1,1,1,1,1,0])).drop 27) (ru false (aH j 0::jp A::ag j 1 4 (ab i::ab k::ag j 5 86 (bM A 7::ah b::ae ((b:Int) != 0)::ae true::ab k::jp A::ab c::ae ((k:Int) == c)::ae true::ab i::bM A 1::ab d::ae (i>=d)::ae (i>=d)::ae false::ab k::bM A 5::ab f::ae ((k:Int) == f)::ae false::bm 4 [ae false,ae false])))) ((bO prog f127 R e) .normal) w))) (b0 w (b5 A 5) λh=>cond (k == h) (b0 w (b5 A 6) λa=>km prog (lu (sb f127 [1,1,1,1,1,0,0,1,1,1,1,1,1,1,1,0])) ((lu (sb f127 [1,1,1,1,1,0,0,1,1,1,1,1,1,1,1,0])).drop 27) (ru (decide ((i:Int)>=a)) (aH j 0::jp A::ag j 1 4 (ab i::ab k::ag j 5 86 (bM A 7::ah b::ae ((b:Int) != 0)::ae true::ab k::jp A::ab c::ae ((k:Int) == c)::ae false::bm 4 [ae false,ae false,ab k,bM A 5,ab h,ae ((k:Int) == h),ae true,ab i,bM A 6,ab a,ae (i>=a),ae (i>=a),ae (i>=a)])))) ((bO prog f127 R e) .normal) w) (km prog (lu (sb f127 [1,1,1,1,1,0,0,1,1,1,1,1,1,1,1,0])) ((lu (sb f127 [1,1,1,1,1,0,0,1,1,1,1,1,1,1,1,0])).drop 27) (ru false (aH j 0::jp A::ag j 1 4 (ab i::ab k::ag j 5 86 (bM A 7::ah b::ae ((b:Int) != 0)::ae true::ab k::jp A::ab c::ae ((k:Int) == c)::ae false::bm 4 (ae false::ae false::ab k::bM A 5::ab h::ae ((k:Int) == h)::ae false::bm 4 [ae false,ae false]))))) ((bO prog f127 R e) .normal) w))) (km prog (lu (sb f127 [1,1,1,1,1,0,0,1,1,1,1,1,1,1,1,0])) ((lu (sb f127 [1,1,1,1,1,0,0,1,1,1,1,1,1,1,1,0])).drop 27) (ru false (aH j 0::jp A::ag j 1 4 (ab i::ab k::ag j 5 86 (bM A 7::ah b::ae ((b:Int) != 0)::ae false::bm 22 [])))) ((bO prog f127 R e) .normal) w)):=by kernel_rfl
theorem XP (a:dy):km prog (lu (sb f127 [1,1,1,1,1,0,0,1,1,1,1,1,1,1,1,0])) ((lu (sb f127 [1,1,1,1,1,0,0,1,1,1,1,1,1,1,1,0])).drop 27) (ru F j) ((bO prog f127 R a) .normal) w=(a .normal (IN F (ag j 0 93 (ag j 94 26 [ae F]))) w):=by kernel_rfl
theorem XQ (a:dy):W prog (sb f127 [1,1,1,1,1,0,0,1,1,1,1,1,1,1,1,1]) (IN F j) (bO prog f127 R a) w=(cond F (R (ab 1) w) (a .normal (rv  (ag j 0 93 (ae F::ag j 93 27 []))) w)):=by kernel_rfl
theorem XR (a:dy):W prog (sb f127 [1,1,1,1,1,1]) (rv  j) (bO prog f127 R a) w=(R (ab 0) w):=by kernel_rfl
end
section
def tZ (r:c_)(ok:Bool)(p c:Int):Int:=if r.il≠0/\ok=false then 1 else if r.il≠0/\(c=r.Client/\r.iN<=p\/c=r.e7/\r.gA<=p)then 1 else 0
theorem lS (a:∀ env w,Q .ret env w=dE P fn R .ret env w)(h:W P c env (bO P fn R Q) w):W P c env Q w:=(Bj a).mp h
theorem vQ (a:∀ env w,Q .ret env w=dE P fn R .ret env w)(h:W P c env Q w):W P c env (bO P fn R Q) w:=(Bj a).mpr h
section
variable {R:cM}{u:an}{b1:Nat}{r:c_}{p c:Int}{ok:Bool}{Q:Exit->ax->aJ}
 (aq:av u b1 [.int .i64 r.Client,.int .i64 r.iN,.int .i64 r.hP,.int .i64 r.View.Number,.slice r.View.f7 r.View.fq r.View.gB,.int .i64 r.e7,.int .i64 r.gA,.int .u64 r.il] 41) (dQ:∀ env w,Q .ret env w=dE prog f127 R .ret env w)
include aq dQ
theorem HD (b:r.il≠0/\(c=r.Client/\r.iN<=p\/c=r.e7/\r.gA<=p)->R (.int .i64 1) u)(a:¬ (r.il≠0/\(c=r.Client/\r.iN<=p\/c=r.e7/\r.gA<=p))->∀ aC,Q .normal (rv aC) u)(aC:ax) :
  W prog (sub (bu f127) [1,1,1,1,1,0,0,1,1,1,1,1,1,1,1]) (BH ⟨b1,0,none⟩ p c aC) Q u:=by
 rw[WT];refine lS (P:=prog) (fn:=f127) (R:=R) dQ ?_;rw[XO];repeat' first
  |refine⟨_,aq.cell rfl,?_⟩
  |refine eg (λ_=>?_) (λ_=>?_)
  |refine d8 (λ_=>?_) (λ_=>?_)
  |refine bb (λ_=>?_) (λ_=>?_)
 all_goals
  try dsimp only
  rw[XP];refine fa ?_;refine lS (P:=prog) (fn:=f127) (R:=R) dQ ?_
  grind[XQ]
 all_goals grind
theorem Tn (a:r.il≠0/\ok=false->R (.int .i64 1) u)(f:r.il≠0/\(c=r.Client/\r.iN<=p\/c=r.e7/\r.gA<=p)->R (.int .i64 1) u)
  (d:¬ (r.il≠0/\ok=false)->¬ (r.il≠0/\(c=r.Client/\r.iN<=p\/c=r.e7/\r.gA<=p))->∀ aC,Q .normal (rv aC) u) (aC:ax) :
  W prog (sub (bu f127) [1,1,1,1,1,0,0,1,1,1,1,1,1]) (yv ⟨b1,0,none⟩ p c ok aC) Q u:=by
 rw[Wf];refine lS (P:=prog) (fn:=f127) (R:=R) dQ ?_;rw[t9];refine⟨_,aq.cell rfl,d8 (λb=>?_) (λb=>?_)⟩
 ·refine fa ?_;refine lS (P:=prog) (fn:=f127) (R:=R) dQ ?_;rw[ms];refine eF (λg=>a ⟨b,g⟩) (λg=>?_)
  exact vQ dQ <| HD aq dQ f (d (λe=>by grind)) _
 ·refine fa ?_;refine lS (P:=prog) (fn:=f127) (R:=R) dQ ?_;rw[ms];refine dG rfl ?_;exact vQ dQ <| HD aq dQ f (d (λe=>e.1 b)) _
theorem Tm (k:R (.int .i64 (if r.e7=r.Client/\r.gA≠r.iN then 1 else if r.e7≠r.Client/\(r.gA<2\/60<r.gA\/Int.tmod r.gA 2≠0) then 2 else tZ r ok p c)) u)
  (i:R (.int .i64 0) u->∀ aC,Q .normal (rv aC) u) (aC:ax) :
  W prog (sub (bu f127) [1,1,1,1,1,0,0,1,1]) (BJ ⟨b1,0,none⟩ p c ok aC) Q u:=by
 have a:∀ aC,R (.int .i64 (tZ r ok p c)) u->W prog (sub (bu f127) [1,1,1,1,1,0,0,1,1,1,1,1,1]) (yv ⟨b1,0,none⟩ p c ok aC) Q u:=λaC h=>by
  unfold tZ at h;refine Tn aq dQ (λe=>?_) (λe=>?_) (λo q=>i ?_) aC
  ·grind
  ·grind
  grind
 rw[Wd];refine lS (P:=prog) (fn:=f127) (R:=R) dQ ?_;rw[t5];have f:∀ aC,¬ (r.e7=r.Client/\r.gA≠r.iN)->W prog (sub (bu f127) [1,1,1,1,1,0,0,1,1,1,1]) (lw ⟨b1,0,none⟩ p c ok aC) Q u:=λaC j=>by
  rw[aQ j]at k;rw[We];refine lS (P:=prog) (fn:=f127) (R:=R) dQ ?_;rw[t7];have g:∀ (b:Bool) aC,(b=true↔r.e7≠r.Client/\(r.gA<2\/60<r.gA\/Int.tmod r.gA 2≠0))->W prog (sub (bu f127) [1,1,1,1,1,0,0,1,1,1,1,1]) (th ⟨b1,0,none⟩ p c ok b aC) Q u:=λb aC l=>by
   refine lS (P:=prog) (fn:=f127) (R:=R) dQ ?_;rw[t8];refine gW (λe=>?_) (λe=>vQ dQ <| a _ ?_)
   ·grind
   grind
  repeat' first
   |refine⟨_,aq.cell rfl,?_⟩
   |refine eg (λ_=>?_) (λ_=>?_)
   |refine d8 (λ_=>?_) (λ_=>?_)
   |refine bb (λ_=>?_) (λ_=>?_)
  all_goals
   refine fa (g _ _ ?_)
  all_goals grind
 have d:∀ (b:Bool) aC,(b=true↔r.e7=r.Client/\r.gA≠r.iN)->W prog (sub (bu f127) [1,1,1,1,1,0,0,1,1,1]) (i0 ⟨b1,0,none⟩ p c ok b aC) Q u:=λb aC l=>by
  refine lS (P:=prog) (fn:=f127) (R:=R) dQ ?_;rw[t6];refine gW (λe=>?_) (λe=>vQ dQ <| f _ (λn=>by grind))
  grind
 repeat' first
  |refine⟨_,aq.cell rfl,?_⟩
  |refine eg (λ_=>?_) (λ_=>?_)
  |refine d8 (λ_=>?_) (λ_=>?_)
  |refine bb (λ_=>?_) (λ_=>?_)
 all_goals
  refine fa (d _ _ ?_)
 all_goals grind
theorem HE {b:Bool}(f:b=true↔r.hP<98\/256<r.hP)(d:R (.int .i64 (if r.hP<98\/256<r.hP then 18 else if r.e7=r.Client/\r.gA≠r.iN then 1 else if r.e7≠r.Client/\(r.gA<2\/60<r.gA\/Int.tmod r.gA 2≠0) then 2 else tZ r ok p c)) u)
  (a:R (.int .i64 0) u->∀ aC,Q .normal (rv aC) u) (aC:ax) :
  W prog (sub (bu f127) [1,1,1,1,1,0,0,1]) (yj ⟨b1,0,none⟩ p c ok b aC) Q u:=by
 refine lS (P:=prog) (fn:=f127) (R:=R) dQ ?_;rw[XG];refine gW (λe=>?_) (λe=>vQ dQ <| Tm aq dQ ?_ a _)
 ·grind
 grind
end
abbrev mX (w:an)(k:Int):cM:=λx w'=>x=.int .i64 k/\ai w w'
theorem Md {r:c_}{j:bL}(h:q2 w r j):a5 127 [r.val] w (mX w j.valid):=by
 refine ba Tryz.func127 ?_;rw[Zs];rintro b1 w1 f k;obtain⟨aq,c⟩:=bo f k;have aq:av w1 b1 [.int .i64 r.Client,.int .i64 r.iN,.int .i64 r.hP,.int .i64 r.View.Number,.slice r.View.f7 r.View.fq r.View.gB,.int .i64 r.e7,.int .i64 r.gA,.int .u64 r.il] 41:=aq;clear k f;obtain⟨o,p,q,⟨G,d⟩,s,t,u,hu⟩:=h;have a:j.valid=if gJ r.iN r.Client≠0 then gJ r.iN r.Client else if r.e7<0\/6<=r.e7 then 1 else if j.v.valid 5≠0 then j.v.valid 5 else if r.hP<98\/256<r.hP then 18 else if r.e7=r.Client/\r.gA≠r.iN then 1 else if r.e7≠r.Client/\(r.gA<2\/60<r.gA\/Int.tmod r.gA 2≠0)then 2 else tZ r (nJ r.il) (l5 r.il) (l6 r.il):=by unfold bL.valid bL.tail tZ;rw[o,p,q,s,t,u];cases I:nJ j.prev<;>by_cases D:j.prev=0<;>simp[D]
 rw[a];clear a o p q s t u;refine⟨_,aq.cell (i:=1) rfl,_,aq.cell (i:=0) rfl,?_⟩;refine aB (xg w1 r.iN r.Client) ?_;rintro x E ⟨rfl,rfl⟩;refine⟨_,_,rfl,d8 (λhe=>⟨by grind,c⟩) (λhe=>?_)⟩
 rw[aQ (λe=>e he),Wc,WS];refine lS (λ_ _=>rfl) ?_;rw[XD];generalize y:(if r.e7<0\/6<=r.e7 then(1:Int)else _)=V;have n:∀ (b:Bool) aC,(b=true↔r.e7<0\/6<=r.e7)->W prog (sub (bu f127) [1,1,0,1]) (yi ⟨b1,0,none⟩ b aC) (aZ (λenv z=>W prog (sub (bu f127) [1,1,1]) env (dE prog f127 (mX w V)) z) (dE prog f127 (mX w V))) E:=λb aC J=>by
  refine lS (P:=prog) (fn:=f127) (R:=mX w V) (λ_ _=>rfl) ?_;rw[XE];refine gW (λe=>⟨by grind,c⟩) (λe=>?_)
  rw[aQ (λH=>by grind)]at y;refine fa ?_;refine lS (P:=prog) (fn:=f127) (R:=mX w V) (λ_ _=>rfl) ?_;rw[XF];refine da.aV r.View ⟨bX aq rfl,?_⟩;refine aB (Ec (d.new c) 5) ?_;rintro x F ⟨rfl,g⟩;have aq:=ai.aj g aq;have c:=c.new g;refine⟨_,rfl,d8 (λal=>⟨by grind,c⟩) (λal=>⟨_,aq.cell (i:=7) rfl,?_⟩)⟩;rw[aQ (λe=>e al)]at y;refine aB (CG F hu) ?_;rintro x l ⟨rfl,rfl⟩;have fin:mX w V (.int .i64 0) l->∀ aC,W prog (sub (bu f127) [1,1,1,1,1,1]) (rv aC) (bO prog f127 (mX w V) (dE prog f127 (mX w V))) l:=λh aC=>by
   grind[XR]
  have A:mX w V (.int .i64 V) l:=⟨rfl,c⟩;refine⟨_,_,_,rfl,_,aq.cell (i:=2) rfl,bb (λC=>?_) (λC=>⟨_,aq.cell (i:=2) rfl,?_⟩)⟩
  ·refine HE (R:=mX w V) aq ?_ ?_ ?_ ?_ _
   ·exactλ_ _=>rfl
   ·grind
   ·grind
   grind
  ·refine HE (R:=mX w V) aq ?_ ?_ ?_ ?_ _
   ·exactλ_ _=>rfl
   ·grind
   ·grind
   ·exactλh aC=>rY (fa (fin h aC))
 refine⟨_,aq.cell (i:=5) rfl,bb (λB=>fa (n _ _ ?_)) (λB=>⟨_,aq.cell (i:=5) rfl,fa (n _ _ ?_)⟩)⟩
 ·grind
 grind
end
section
def nt (j:bL):aS:=j.v.mem.getD 0 kk
def fx (j:bL)(G:a3):a_×dB×Bool:=
 if j.valid≠0 then([],⟨j.valid,0,0,0,0⟩,true)else match (iE j (nt j) G).1.ask with
 |some vs=>(vs,⟨0,0,0,0,0⟩,false)
 |none=>if(iE j (nt j) G).1.dH=true\/(iE j (nt j) G).1.a2≠[]then([],⟨6,0,0,0,0⟩,true)else([],(iE j (nt j) G).2,true)
def oG (w:an)(j:bL)(G:a3)(v:bf)(u:an):Prop:=
 ∃ (aa:ak) (ac:Nat) (a:List aG),v=.tuple #[.slice aa a.length ac,(fx j G).2.1.val,.bool (fx j G).2.2]/\ai w u/\bl u aa (dS a).flatten/\(∀ k,aP aa k->w.heap.size<=k)/\et (λk=>k<w.heap.size) u a (fx j G).1
theorem oG.nil {w u:an}{j:bL}{G:a3}{o:dB}{b:Bool}(h:fx j G=([],o,b))(c:ai w u):oG w j G (.tuple #[.slice none 0 0,o.val,.bool b]) u:=
 ⟨none,0,[],by grind,c,.inl rfl,λk a=>cp a ou,by rw[h];exact⟨rfl,λi v x al=>by grind⟩⟩
theorem yP {u:an}{b:Nat}{cs:ax}(aq:av u b cs p3)(f:cs.length=5)(o:dB){K:dB->aJ}(e:∀ cq,ao (λk=>k=b) u cq->K o cq) :
  ej u ⟨b,0,none⟩ 0 o.cells/\∀ a,a=cI u ⟨b,0,none⟩ 0 o.cells->dB.ex λres=>cn a ⟨b,0,none⟩ 0 res.cells/\a=a/\K res a:=
 dY aq (vs:=o.cells) (by rw[f];rfl) (dB.single _) λa d c=>dB.aV o ⟨bX d rfl,rfl,e a c⟩
theorem Rh {A:a4}{r:c_}{j:bL}(Z:q2 w r j){aR:ak}{aP gc:Nat}{G:a3}(cF:ic A w aR G)(b3:aP=G.length)(b0:aP<=gc) :
  a5 93 [r.val,.slice aR aP gc] w (oG w j G):=by
 refine ba Tryz.func93 ?_;rw[Zq];rintro b1 bQ bN bb;obtain⟨p,a8⟩:=bo bN bb;have p:av bQ b1 r.cells 41:=p;clear bb;rintro bK cl bO bh;obtain⟨E,x⟩:=bo bO bh;have E:av cl bK (dB.cells ⟨0,0,0,0,0⟩) p3:=E;clear bh;have I:=a8.new x;have cU:=a8.size;have cG:=p.lt;have cP:=E.lt;refine c_.aV r ⟨bX (ai.aj x p) rfl,?_⟩;refine aB (Md (Z.new I)) ?_;rintro v bw ⟨rfl,z⟩;have J:=I.new z;have U:=ai.aj z E;refine⟨_,rfl,d8 (λal=>?_) (λal=>?_)⟩
 ·refine yP U rfl ⟨j.valid,0,0,0,0⟩ (K:=λres aH=>oG w j G (.tuple #[.slice none 0 0,res.val,.bool true]) aH) λcq b5=>oG.nil ?_ (J.trans b5 λk a e=>by omega)
  unfold fx
  grind
 have f:=PA al (Z.prev▸Z.u64);obtain⟨bS,a0⟩:∃ bS,j.v.mem[0]?=some bS:=⟨_,b2 f.mem.1⟩;have b7:nt j=bS:=by grind[nt]
 rintro ca bj;have B:ai bw ca:=by rw[bj];exact cR _
 clear bj;have L:=J.new B;have q:=ai.aj ((x.new z).new B) p;refine⟨λy=>ai ca y,ao.refl _ _,c_.aV r ⟨λy b_=>bX (ai.aj b_ q) rfl,?_⟩⟩;refine aB (Gj ca aR aP gc) ?_;rintro v cr ⟨tb,rfl,c3,bz,d⟩;refine⟨_,rfl,d,?_⟩;rintro aO c5 bT bk;obtain⟨ah,C⟩:=bo bT bk;have ah:av c5 aO (qw r tb ⟨0,0,false⟩ 0 ⟨none,0,0,0⟩ (0,0)) o4:=ah;clear bk;have cZ:=d.size;have cp:=L.size;have cV:=x.size;have cW:=z.size;have cY:=B.size;have cS:=bz.lt;refine⟨d.new C,da.aV r.View ⟨bX (ai.aj (d.new C) q) rfl,?_⟩⟩;obtain⟨c9,ag⟩:=Z.view;have M:=(L.new d).new C;refine aB (Dz (ag.new M) a0) ?_;rintro v u8 ⟨rfl,ad⟩;have bC:=ai.aj ad ah;refine aS.aV bS ⟨true,rfl,gq bC (by simp[qw,aS.cells,c_.cells]) (aS.single _),?_⟩;rintro aQ af;have aG:av aQ aO (qw r tb bS 0 ⟨none,0,0,0⟩ (0,0)) o4:=by rw[af];exact bC.cI (o:=9) (i:=0) (vs:=bS.cells)
 have aX:ao (λk=>k=aO) u8 aQ:=by rw[af];exact ir _ _ _ _ _
 clear af;have a':ai w aQ:=(M.new ad).trans aX λk a e=>by omega
 have Q:ai cr aQ:=(C.new ad).trans aX λk a e=>by omega
 have S:av aQ b1 r.cells 41:=ai.aj (d.new Q) q;refine⟨_,S.cell (i:=1) rfl,_,S.cell (i:=0) rfl,?_⟩;refine aB (xg aQ r.iN r.Client) ?_;rintro v cd ⟨rfl,rfl⟩;refine⟨_,_,rfl,⟨_,aG.cell (i:=12) rfl⟩,aG.frozen,?_⟩;rintro b n;have H:ao (λk=>k=aO) cd b:=by rw[n];exact e4 _ _ _ _
 have bm:av b aO (qw r tb bS (gY j.inc j.aL) ⟨none,0,0,0⟩ (0,0)) o4:=by rw[n,<-Z.inc,<-Z.aL];exact aG.setCell (i:=12) _
 clear n;have N:ai w b:=a'.trans H λk a e=>by omega
 have g:ai cr b:=Q.trans H λk a e=>by omega
 have bA:av b tb (eM.cells ⟨aR,aP,gc,none,0,0,false⟩) p5:=ai.aj g bz;have bq:av b bK (dB.cells ⟨0,0,0,0,0⟩) p3:=ai.aj ((B.new d).new g) U;have bV:dv w b aO tb r bS j ⟨none,0,0,0⟩ (0,0):=⟨bm,Z,f,a0,N,by omega,by omega,by omega⟩;have cz:eV A w b tb ⟨aR,aP,gc,none,0,0,false⟩ G:=⟨bA,cF,b3,b0⟩;refine aB (Rg bV cz ⟨rfl,rfl⟩) ?_;rintro v ct ⟨rfl,D⟩;have c2:=g.size;have bD:av ct bK (dB.cells ⟨0,0,0,0,0⟩) p3:=D.aA.aj bq (by omega);have b8:ai w ct:=N.trans D.aA λk a e=>by omega
 obtain⟨db,s⟩:=D.aj;obtain⟨T,t,bM,u⟩:=D.gz;rw[<-b7]at t bM u s;have cn:∀ (X:Prop),X->X:=λ_ h=>h
 refine⟨rfl,_,s.cell (i:=8) rfl,?_⟩;refine aB (FF t.aj) ?_;rintro v dm ⟨rfl,l⟩;have V:=ai.aj l bD;have Y:=ai.aj l s;have O:=b8.new l;cases F:(iE j (nt j) G).1.ask with
 |some vs=>
  rw[F]at u;obtain⟨dd,w1,cu,de,cj⟩:=u;have cA:=cj.len;refine⟨_,_,_,_,rfl,hc (by grind) ?_⟩;refine yP V rfl ⟨0,0,0,0,0⟩ (K:=λres aH=>oG w j G (.tuple #[.slice T.aa T.e_ T.ac,res.val,.bool false]) aH) λcb aZ=>?_
  have cy:bP w1 cb T.aa T.e_ T.ac vs:=(cj.new l).aA aZ λk e=>by omega
  obtain⟨⟨bH,cT,bl⟩,cQ,cB⟩:=cy;have di:=bl.1;have c4:=cu.size;have b9:fx j G=(vs,⟨0,0,0,0,0⟩,false):=by
   unfold fx
   grind
  refine⟨T.aa,T.ac,bH,?_,O.trans aZ λk a e=>by omega,cT.rd,λk dg=>by grind,?_⟩
  ·grind
  ·rw[b9];exact bl.aA (ao.refl _ _) λk a e=>.inl (by omega)
 |none=>
  rw[F]at u;refine⟨_,_,_,_,rfl,dG (by grind) ?_⟩;refine⟨_,Y.cell (i:=8) rfl,?_⟩;refine aB (FG (ai.aj l t.aj)) ?_;rintro v cb ⟨rfl,ae⟩;have W:=ai.aj ae V;have br:=ai.aj ae Y;have P:=O.new ae;have cm:=t.f9;refine⟨_,rfl,?_⟩;cases hm:(T.dH || decide ((T.f9:Int)>0))with
  |true=>
   refine yP W rfl ⟨6,0,0,0,0⟩ (K:=λres aH=>oG w j G (.tuple #[.slice none 0 0,res.val,.bool true]) aH) λc7 ab=>oG.nil ?_ (P.trans ab λk a e=>by omega)
   unfold fx
   grind
  |false=>
   rintro bI R;have c:ai cb bI:=by rw[R];exact cR _
   clear R;have bx:=ai.aj c br;refine⟨λy=>ai bI y,ao.refl _ _,dB.aV (iE j (nt j) G).2 ⟨λy b_=>bX (ai.aj b_ bx) rfl,?_⟩⟩;refine yP (ai.aj c W) rfl (iE j (nt j) G).2 (K:=λres aH=>oG w j G (.tuple #[.slice none 0 0,res.val,.bool true]) aH) λc7 ab=>oG.nil ?_ ((P.new c).trans ab λk a e=>by omega)
   unfold fx
   simp_all
end
section
open dF
theorem Ht {f:aN->a7}(b:∀ p,(f p).length=9):∀ {W:List aN} {i:Nat} {p:aN},W[i]?=some p->∀ c,c<9->((W.map f).flatten)[9*i+c]?=(f p)[c]?
 | [],i,p,h,c,a=>by grind
 |q::W,0,p,h,c,a=>by
  grind
 |q::W,i+1,p,h,c,a=>by rw[iI,lD,wx (by grind),b,show 9*(i+1)+c-9=9*i+c by omega];exact Ht b (by simpa using h) c a
theorem Ri {W:List aN}{p:aN}(h:W[i]?=some p){c:Nat}(a:c<9):(fW s W).getD (2+9*i+c) 0=(p.bt::p.Head::h7 p).getD c 0:=by
 have b:=cS h;have d:=z1 s W;unfold fW;simp only[hO];rw[zr (by omega)];have:=Ht (f:=λp=>p.bt::p.Head::h7 p) (λ_=>rfl) h c a
 grind[ow,List.getElem?_cons_succ]
theorem Th {W:List aN}{p:aN}(h:W[i]?=some p)(a:∀ k,k<(fW s W).length->aK.getD k 0=(fW s W).getD k 0)(f:p.bt<=256):ps aK i=p:=by
 have e:=cS h;have b:=pq s W;have g:∀ c,c<9->((aK.drop (2+9*i)).take 9).getD c 0=(p.bt::p.Head::h7 p).getD c 0:=λc d=>by
  rw[<-Ri (s:=s) h d,<-a _ (by omega)]
  grind
 unfold ps rS;rw[g 0 (by omega),g 1 (by omega),g 2 (by omega),g 3 (by omega),g 4 (by omega),g 5 (by omega),g 6 (by omega),g 7 (by omega),g 8 (by omega)];show(⟨if 256<p.bt then 256 else p.bt,_,_,_,_,_,_,_,_⟩:aN)=p;rw[aQ (by omega)];rfl
theorem O8 {W:List aN}{lines:Int}(al:gk s W lines=0)(n:aK.length=112)(b:∀ k,k<(fW s W).length->aK.getD k 0=(fW s W).getD k 0):eh aK lines=0/\eu aK lines=(s,W):=by
 obtain⟨l,⟨s1,s2,o,fm⟩,g,_⟩:=jA al;have f:=pq s W;have d:aK.getD 0 0=s:=b 0 (by omega);have j:aK.getD 1 0=W.length:=b 1 (by omega);have e:(aK.getD 1 0).toNat=W.length:=by grind
 have c:hV aK W.length=W:=by
  apply i_;intro i;unfold hV;rw[fQ];by_cases a:i<W.length
  ·rw[si a,b2 a];have:=g _ (sj a);simp only[se];rw[Th (b2 a) b (by omega)]
  grind
 have h:fW s W=aK.take (3+9*W.length):=by
  apply i_
  grind
 have au:eh aK lines=0:=by unfold eh;rw[aQ (by omega),aQ (by grind),aQ (by grind),e,d,c,aQ (by grind),aQ (by grind)]
 refine⟨au,?_⟩;unfold eu
 grind
theorem E4 (h:1<=s/\s<1073741824):gw s=4*s+2:=by
 obtain⟨n,rfl⟩:∃ n:Nat,s=n:=⟨s.toNat,by omega⟩;have a:iQ .u64 (n:Int) 2=((n*4:Nat):Int):=by
  show IntKind.u64.wrap ((n:Int)*2 ^ 2)=_
  grind[ly]
 unfold gw;rw[a,show(2:Int)=((2:Nat):Int) from rfl,uB _ _ (by omega) (by omega)];have b:=xb n 2 2 (by omega)
 grind
theorem zV (h:1<=s/\s<1073741824):gw s≠0:=by grind[E4]
theorem O9 (h:1<=s/\s<1073741824):iG (gw s)=(s,true):=by
 obtain⟨_,e⟩:=Ba (Aa s);have a:c3 .u64 (gw s) 2=s:=by grind[E4]
 unfold iG
 grind
theorem O_:iG 0=(0,false):=by
 obtain⟨_,e⟩:=Ba hL;have a:c3 .u64 0 2=0:=by grind
 unfold iG
 grind
structure n1 (E:Env)(A:bn)(m:Nat)(L:a7):Prop where
 len:L.length=120
 cX:L.getD 0 0=if A.cX m=true then iH E else 0
 fH:A.fH m=true->∀ k,k<(hk E).length->L.getD (8+k) 0=(hk E).getD k 0
def vJ (x:aD):a7:=(x.words.drop 48).take 120
theorem Gw {x:aD}(h:i<120):(vJ x).getD i 0=x.get (48+i):=by
 grind[vJ,aD.get,List.getElem?_take_of_lt]
theorem Mem.fX {E:Env}{A:bn}{x:aD}(au:b8 E)(h:Mem E A m x):n1 E A m (vJ x):=by
 have a:=au.jG;have c:=au.k2;have d:=h.aT.len;refine⟨by grind[vJ],by rw[Gw (by omega)];exact h.cX,λa k b=>?_⟩;rw[Gw (by omega),<-h.fH a k b]
 grind
section
variable {E:Env}{A:bn}{m:Nat}{L:a7}
theorem n1.whole (au:b8 E)(h:n1 E A m L)(b:A.fH m=true):fL L E.L=true/\c2 L E.L=(dt E,bD E):=by
 have d:(L.drop 8).length=112:=by rw[pM,h.len]
 obtain⟨e,f⟩:=O8 au.yQ d λk c=>by
  rw[<-h.fH b k c]
  grind
 have a:fL L E.L=true:=by
  grind[fL]
 refine⟨a,?_⟩;unfold c2
 grind
theorem n1.comm (au:b8 E)(h:n1 E A m L)(c:A.fH m=true):hf L E.L=A.cX m/\(A.cX m=true->f_ L E.L=(dt E,bD E)):=by
 obtain⟨a,b⟩:=h.whole au c;have d:hf L E.L=A.cX m:=by
  unfold hf;rw[a,b,h.cX,zw];cases A.cX m
  ·exact beq_eq_false_iff_ne.2 (zV au.seq)
  grind
 refine⟨d,λe=>?_⟩
 unfold f_
 grind
theorem n1.none (h:n1 E A m L)(c:A.cX m=false):hf L E.L=false:=by
 cases a:hf L E.L with
 |false=>rfl
 |true=>
  exfalso;obtain⟨b,_⟩:=Cj a;have d:=DL b;unfold hf at a;rw[b,zw]at a;have:=beq_iff_eq.1 a;rw[h.cX,c]at this
  grind[zV]
theorem n1.holds (au:b8 E)(h:n1 E A m L)(a:A.fH m=true){j:bL}(d:j.lines=E.L):q3 j (dt E) (bD E) L=A.cX m:=by
 obtain⟨b,c⟩:=h.comm au a
 grind[q3,xC]
end
structure n2 (E:Env)(A:bn)(Ls:eE):Prop where
 len:Ls.length=E.n
 at_:∀ (m:Nat) (L:a7),Ls[m]?=some L->n1 E A m L
section
variable {E:Env}{A:bn}{Ls:eE}
theorem Rj (h:n2 E A Ls)(d:ff E A):dT E.L Ls=((0,[]),false):=by
 have key:∀ (l:eE),(∀ L ∈ l,hf L E.L=false)->∀ b,l.foldl (nu E.L) b=b:=by
  intro l;induction l with
  |nil=>grind
  |cons L l g=>
   intro f b;rw[sf];have:nu E.L b L=b:=aQ (λe=>by grind)
   grind
 refine key Ls (λL c=>?_) _;obtain⟨i,a⟩:=ez.1 c;exact(h.at_ i L a).none (d i (by have:=cS a;rw[h.len]at this;grind))
theorem O' (au:b8 E)(h:n2 E A Ls)(d:h4 E A)(hm:∃ m,m<E.n/\A.cX m=true):dT E.L Ls=((dt E,bD E),true):=by
 have t:=au.seq;have key:∀ (l:eE),(∀ L ∈ l,hf L E.L=true->f_ L E.L=(dt E,bD E))->∀ b,(b=((0,[]),false)\/b=((dt E,bD E),true))->(l.foldl (nu E.L) b=((dt E,bD E),true)\/l.foldl (nu E.L) b=((0,[]),false)/\b=((0,[]),false)/\∀ L ∈ l,hf L E.L=false):=by
  intro l;induction l with
  |nil=>grind
  |cons L l p=>
   intro e b d;rw[sf];have o:=λk a=>e k (fG _ a)
   unfold nu at p ⊢
   grind
 obtain⟨m,f,hm⟩:=hm;obtain⟨L,a⟩:∃ L,Ls[m]?=some L:=⟨_,b2 (by rw[h.len];grind)⟩;have e:∀ L ∈ Ls,hf L E.L=true->f_ L E.L=(dt E,bD E):=λL a s=>by
  obtain⟨i,j⟩:=ez.1 a;have c:=cS j;rw[h.len]at c;obtain⟨q,r⟩:=(h.at_ i L j).comm au (d i c)
  grind
 rcases key Ls e ((0,[]),false) (.inl rfl)with g | ⟨_,_,g⟩
 ·exact g
 ·have:=g L (b9 a);rw[((h.at_ m L a).comm au (d m f)).1,hm]at this
  grind
theorem Hu (au:b8 E)(h:n2 E A Ls)(s:h4 E A){cE:Int}(x:cE=dt E\/cE=E.o8 0):fT E.L cE Ls=dt E+1:=by
 have u:=au.seq;have t:=au.o8;have B:=au.e.n;have key:∀ (l:eE),(∀ L ∈ l,(L.getD 0 0=iH E\/L.getD 0 0=0)/\fL L E.L=true/\c2 L E.L=(dt E,bD E))->∀ g:Int,0<=g/\g<=dt E->l.foldl (g2 E.L) g=if l=[]then g else dt E:=by
  intro l;induction l with
  |nil=>grind
  |cons L l w=>
   intro k g z;obtain⟨p,q,r⟩:=k L fR;rw[sf];have f:g2 E.L g L=dt E:=by
    unfold g2;have d:(if(iG (L.getD 0 0)).2=true then nv g (iG (L.getD 0 0)).1 else g)<=dt E:=by
     rcases p with e | e
     ·rw[e,O9 u,bh rfl]
      grind[nv]
     ·rw[e,O_,aQ (by simp)]
      grind
    simp only;generalize (if(iG (L.getD 0 0)).2=true then nv g (iG (L.getD 0 0)).1 else g)=y at d ⊢;rw[bh q,r]
    grind[nv]
   rw[f,w (λo a=>k o (fG _ a)) _ (by omega),aQ (List.cons_ne_nil L l)]
   grind
 unfold fT;have c:jX cE=cE:=by unfold jX;grind
 rw[c,key Ls (λL a=>?_) cE (by omega),aQ (λe=>by have:=h.len;grind)];obtain⟨i,j⟩:=ez.1 a;have b:=cS j;rw[h.len]at b;have a:=h.at_ i L j;refine⟨?_,a.whole au (s i b)⟩;rw[a.cX]
 grind
end
end
section
open dF
def bC (E:Env)(c:Nat):bL:=⟨(c:Int),1,(E.L:Int),j' E.n,0,2,0⟩
def dp (c:Nat):Int:=256+((c:Int)+1)
section
variable {E:Env}{c:Nat}
theorem xi (a:c<6):gJ 1 c=0/\gY 1 c=dp c:=by have h:gJ 1 c=0:=Gn rfl (by omega);exact⟨h,by rw[z6 h];rfl⟩
theorem qT:(bC E c).v.mem=(List.range E.n).map bj:=rfl
theorem Rk {n:Nat}(h:1<=n/\n<=5):(j' n).valid 5=0:=by
 obtain rfl | rfl | rfl | rfl | rfl:n=1\/n=2\/n=3\/n=4\/n=5:=by omega
 all_goals kernel_rfl
theorem E5 (au:b8 E)(i:1<=c/\c<6):(bC E c).valid=0:=by
 have j:=au.e.L;have f:gJ (bC E c).inc (bC E c).aL=0:=(xi i.2).1;have g:(bC E c).v.valid 5=0:=Rk au.e.n;unfold bL.valid;rw[f,g];show(if(0:Int)≠0 then(0:Int)else if(0:Int)<0\/6<=(0:Int)then 1 else if(0:Int)≠0 then 0 else(bC E c).tail)=0;rw[aQ (by omega),aQ (by omega),aQ (by omega)];unfold bL.tail;have a:¬ ((bC E c).lines<98\/256<(bC E c).lines):=by show¬ ((E.L:Int)<98\/256<(E.L:Int));omega
 have b:¬ ((bC E c).dead=(bC E c).aL/\(bC E c).fJ≠(bC E c).inc):=by show¬ ((0:Int)=(c:Int)/\_);omega
 have d:¬ ((bC E c).dead≠(bC E c).aL/\((bC E c).fJ<2\/60<(bC E c).fJ\/Int.tmod (bC E c).fJ 2≠0)):=by
  grind[bC]
 rw[aQ a,aQ b,aQ d];exact aQ λh=>h.1 rfl
theorem Hv (a:1<=E.n):nt (bC E c)=bj 0:=by
 grind[nt,qT,List.range_succ_eq_map]
theorem Bc (hm:m<E.n):(bC E c).v.mem.getD m kk=bj m:=by
 grind[qT,List.getElem?_range]
theorem B3 (m:Nat)(a o w:Int):sP (bC E c) (bj m) a o w=c9 m a o w:=rfl
theorem zW:dg (bC E c)=[⟨0,2,true⟩]:=by unfold dg;rw[aQ (λh=>by have:nJ (0:Int)=false:=rfl;have a:nJ 0=true:=h.1;grind)];rfl
theorem E6 {α β:Type}{f:α->β}:∀ (l:List α),(l.map λx=>[f x]).flatten=l.map f
 | []=>rfl
 |a::l=>by rw[iI,lD,E6 l];rfl
def eA (n:Nat):a_:=(List.range n).map λm=>cb m 24 1
def eJ (e1:c6):a_:=e1.map λm=>c9 m 24 1 2
def ft (c:Nat):a_:=[c9 0 49 0 (dp c)]
def fc (n:Nat):a_:=((List.range n).map λm=>[cb m 24 1,cb m 48 120]).flatten++[cb 0 32 1]
def g6 (E:Env)(sp:c6):a_:=(sp.map λm=>[ca m 48 [0],ca m 56 (hk E),ca m 48 [iH E]]).flatten
def eC (W:List aN):a_:=W.map λp=>cb 0 (p.bt*8) 1
def gp (E:Env)(l:List aN):a_:=((List.range (E.n-1)).map λm=>l.map (fo (m+1))++[ca (m+1) 32 [dt E]]).flatten
def gI (E:Env)(l:List aN):a_:=ca 0 32 [dt E]::l.map (fo 0)
def fP (a:List aN):a_:=a.map λp=>c9 0 (p.bt*8) (dK p.Head 0) p.Head
def eP (c:Nat):a_:=[c9 0 49 (dp c) 0]
theorem DO:hW (bC E c)=eA E.n:=by unfold hW eA;rw[zW,qT,oM];exact E6 (List.range E.n) (f:=λm=>cb m 24 1)
theorem Gx (i:Nat):gO (bC E c) i=⟨0,2,true⟩:=by
 unfold gO;rw[zW]
 grind
theorem Sy (h:i<E.n):om (bC E c) i=bj i:=by unfold om;rw[zW];show(bC E c).v.mem.getD (i / 1) kk=_;rw[Nat.div_one];exact Bc h
def j8 (n:Nat)(ds:ck):c6:=(List.range n).filter λi=>di ds i == 1
theorem E7 {ds:ck}(h:∀ i,i<E.n->di ds i=1\/di ds i=2):∀ {k:Nat},k<=E.n->iy (bC E c) ds k=(j8 k ds).map λm=>(c9 m 24 1 2,(⟨0,2,true⟩:du))
 | 0,_=>rfl
 |k+1,a=>by
  rw[Cc,E7 h (by omega)];unfold j8 uc uN;rw[qP,List.filter_append,kY,Gx,Sy (by omega),B3]
  grind
def d3 (e1:c6)(X:a3):cd:=pJ (e1.map λm=>(c9 m 24 1 2,(⟨0,2,true⟩:du))) (bN X (eJ e1))
def lR (X:a3):cd:=⟨true,[],(0,0),X,none,false⟩
def Kp (E:Env)(c:Nat)(G:a3)(f:a3->cd×dB):Prop:=∀ X,iE (bC E c) (bj 0) (G++X)=f X
theorem Kp.next {G:a3}{f f':a3->cd×dB}(h:Kp E c G f){D:ck}(a:∀ X,f (D::X)=f' X):Kp E c (G++[D]) f':=λX=>by rw[ke];exact(h ([D]++X)).trans (a X)
theorem Kp.ask (au:b8 E)(b:1<=c/\c<6){G:a3}{f:a3->cd×dB}(h:Kp E c G f){vs:a_}(a:(f []).1.ask=some vs):fx (bC E c) G=(vs,⟨0,0,0,0,0⟩,false):=by have:=h [];rw[kV]at this;unfold fx;rw[aQ (by grind[E5]),Hv au.e.n.1,this,a]
theorem Kp.out (au:b8 E)(g:1<=c/\c<6){G:a3}{f:a3->cd×dB}(h:Kp E c G f)(a:(f []).1.ask=none)(b:(f []).1.dH=false)(d:(f []).1.a2=[]):fx (bC E c) G=([],(f []).2,true):=by
 have:=h [];rw[kV]at this;unfold fx;rw[aQ (by grind[E5]),Hv au.e.n.1,this,a]
 grind
theorem oH {vs:a_}(h:vs≠[]):bN [] vs=⟨false,[],(0,0),[],some vs,false⟩:=yY h 0
theorem nz {vs:a_}{D:ck}(h:vs≠[])(a:Fit vs D)(X:a3):bN (D::X) vs=⟨true,D,(0,0),X,none,false⟩:=za X h a 0
theorem uP (X:a3):bN X []=lR X:=DG X 0
def rz (E:Env)(c:Nat):a3->cd×dB:=iE (bC E c) (bj 0)
def kB (E:Env)(c:Nat)(X:a3):cd×dB:=tH (bC E c) (bj 0) (ix (bC E c) (bj 0) X)
def mn (E:Env)(c:Nat)(e1:c6)(X:a3):cd×dB:=if(d3 e1 X).ok=false then(d3 e1 X,jj (d3 e1 X).out)else kB E c (d3 e1 X).a2
def ob (E:Env)(c:Nat)(X:a3):cd×dB:=tH (bC E c) (bj 0) (lR X)
def fk (E:Env)(c:Nat)(Ls:eE)(cE:Int)(bU:Int×Int)(S:cd):cd×dB:=rW (bC E c) (bj 0) Ls cE (bU,S)
theorem vH:Kp E c [] (rz E c):=λX=>rfl
theorem u5 (a:1<=E.n):eA E.n≠[]:=by unfold eA;intro e;simp_all
theorem AO (a:1<=E.n):(rz E c []).1.ask=some (eA E.n):=by
 unfold rz iE hX uO
 grind[DO,oH,u5]
theorem As (e:1<=E.n){D:ck}(a:Fit (eA E.n) D)(hw:∀ i,i<E.n->di D i=1\/di D i=2)(X:a3):rz E c (D::X)=mn E c (j8 E.n D) X:=by
 have d:D.length=E.n:=by rw[a.len];grind[eA]
 have f:(List.range D.length).any (ka (bC E c) D)=false:=by
  grind[List.any_eq_false,ka,Gx,di]
 have b:hX (bC E c) (D::X)=d3 (j8 E.n D) X:=by unfold hX;rw[DO,nz (u5 e) a];unfold uO;simp only;rw[aQ (by simp),aQ (by grind),d,E7 hw (db _)];unfold d3 eJ;rw[oM];rfl
 unfold rz iE mn kB;rw[b]
theorem Sz (X:a3):d3 [] X=lR X:=by unfold d3 pJ;rw[show eJ []=[] from rfl,uP];rfl
theorem Gy (X:a3):mn E c [] X=kB E c X:=by unfold mn;rw[Sz];exact aQ (by simp[lR])
theorem Gz (h:e1≠[]):(mn E c e1 []).1.ask=some (eJ e1):=by
 have aq:eJ e1≠[]:=by unfold eJ;simp_all
 grind[mn,d3,pJ,oH]
theorem FY (h:e1≠[]){D:ck}(a:Fit (eJ e1) D)(hw:∀ i,i<e1.length->di D i=1\/di D i=2)(X:a3):mn E c e1 (D::X)=kB E c X:=by
 have aq:eJ e1≠[]:=by unfold eJ;simp_all
 have f:D.length=e1.length:=by rw[a.len];grind[eJ]
 have d:d3 e1 (D::X)=lR X:=by
  unfold d3 pJ;rw[nz aq a];simp only;have e:(List.range D.length).any (n_ (e1.map λm=>(c9 m 24 1 2,(⟨0,2,true⟩:du))) D)=false:=by
   rw[J9];intro i b;have b:=gS.1 b;have hw:=hw i (by omega);obtain⟨m,hm⟩:∃ m,e1[i]?=some m:=⟨_,b2 (by omega)⟩;unfold n_ m8;rw[hO,fQ,hm];show¬ ((decide (di D i≠1) && (decide (di D i≠2) && (true || decide (di D i<2))))=true)
   grind
  rw[aQ (by simp),aQ (by grind)];rfl
 unfold mn;rw[d];exact aQ (by simp[lR])
theorem zQ (a:c<6):[j0 (bC E c) (bj 0)]=ft c:=by
 unfold j0 ft;rw[B3];show[c9 0 49 0 (gY 1 c)]=_
 grind[xi]
theorem GA (a:c<6):(kB E c []).1.ask=some (ft c):=by unfold kB ix;rw[zQ a,oH (by simp[ft])];rfl
theorem FZ (b:c<6){D:ck}(d:Fit (ft c) D)(a:mU D=0)(X:a3):kB E c (D::X)=ob E c X:=by unfold kB ix ob;rw[zQ b,nz (by simp[ft]) d,aQ (by simp)];simp only;rw[a,aQ (λh=>h.1 rfl)];rfl
theorem Rl (b:c<6){D:ck}(d:Fit (ft c) D)(a:mU D≠0)(e:mU D≠dp c)(X:a3):kB E c (D::X)=(⟨false,[],(3,mU D),X,none,false⟩,⟨3,0,0,0,mU D⟩):=by unfold kB ix;rw[zQ b,nz (by simp[ft]) d,aQ (by simp)];simp only;rw[bh ⟨a,by show mU D≠gY 1 c;grind[xi]⟩];rfl
theorem DP:gl (bC E c) (bj 0)=fc E.n:=by unfold gl fc;rw[qT,oM];rfl
theorem NE (n:Nat):fc n≠[]:=by unfold fc;simp
theorem GB:(ob E c []).1.ask=some (fc E.n):=by
 unfold ob tH gm sR lR
 grind[DP,oH,NE]
def kq (n:Nat)(D:ck):eE:=(List.range n).map λi=>(D.getD (2*i+1) ⟨0,[]⟩).words
theorem F0 {D:ck}(k:Fit (fc E.n) D)(h:∀ i,i<E.n->di D (2*i)=2)(X:a3):ob E c (D::X)=fk E c (kq E.n D) (di D (2*E.n)) (eO (bC E c) (bj 0) (kq E.n D) X).1 (eO (bC E c) (bj 0) (kq E.n D) X).2:=by
 have a:(bC E c).v.mem.length=E.n:=by grind[qT]
 have b:bN (D::X) (gl (bC E c) (bj 0))=⟨true,D,(0,0),X,none,false⟩:=by grind[DP,nz,NE]
 have d:ny (bC E c) D E.n=true:=by unfold ny;rw[jt];intro i j;exact beq_iff_eq.2 (h i (gS.1 j))
 have e:gm (bC E c) (bj 0) (D::X)=lR X:=by unfold gm sR;rw[b,aQ (by simp)];simp only;rw[a,bh d];rfl
 have f:kT (bC E c) (bj 0) (D::X)=kq E.n D:=by unfold kT sG;rw[b,a];rfl
 have g:mW (bC E c) (bj 0) (D::X)=di D (2*E.n):=by
  grind[mW,uf]
 unfold ob tH;rw[aQ (by simp[lR])];show(if(gm (bC E c) (bj 0) (D::X)).ok=false then _ else rW _ _ (kT (bC E c) (bj 0) (D::X)) (mW (bC E c) (bj 0) (D::X)) (eO _ _ (kT (bC E c) (bj 0) (D::X)) (gm (bC E c) (bj 0) (D::X)).a2))=_;rw[e,f,g,aQ (by simp[lR])];rfl
end
end
section
open dF
section
variable {E:Env}{c:Nat}
def ng (E:Env)(l:List aN)(X:a3):cd:=bN X (gI E l)
def kC (E:Env)(l:List aN)(X:a3):cd:=if(bN X (gp E l)).ok=false then bN X (gp E l)else ng E l (bN X (gp E l)).a2
def h' (E:Env)(D:ck):List aN:=gx (bC E 0) (bD E) D (bD E).length
def jY (E:Env)(X:a3):cd:=
 if(bN X (eC (bD E))).ok=false then bN X (eC (bD E))else if(h' E (bN X (eC (bD E))).done).length=0 then bN X (eC (bD E))else kC E (h' E (bN X (eC (bD E))).done) (bN X (eC (bD E))).a2
def k9 (E:Env)(sp:c6)(X:a3):cd:=if(bN X (g6 E sp)).ok=false then bN X (g6 E sp)else jY E (bN X (g6 E sp)).a2
def mq (a:List aN)(X:a3):cd:=bN X (fP a)
def jJ (E:Env)(A:bn):c6:=(List.range E.n).filter λm=>!A.cX m
theorem F1 (b:1<=E.n):(bC E c).v.mem.tail=(List.range (E.n-1)).map λm=>bj (m+1):=by
 rw[qT];cases a:E.n with
 |zero=>omega
 |succ k=>rw[zz];simp
theorem Pa (a:1<=E.n)(l:List aN):nM (bC E c) (dt E) l=gp E l:=by unfold nM gp;rw[F1 a,oM];rfl
theorem Rm (l:List aN):rb (bC E c) (bj 0) (dt E) l=gI E l:=rfl
theorem Rn (X:a3):fw (bC E c) (bj 0) (bD E) X=bN X (eC (bD E)):=rfl
theorem Dq (au:b8 E){A:bn}{Ls:eE}(h:n2 E A Ls)(b:h4 E A):∀ k,k<=E.n->l4 (bC E c) (dt E) (bD E) Ls k=g6 E ((List.range k).filter λm=>!A.cX m)
 | 0,_=>rfl
 |k+1,e=>by
  rw[zd,Dq au h b k (by omega)];obtain⟨L,a⟩:∃ L,Ls[k]?=some L:=⟨_,b2 (by rw[h.len];omega)⟩;have d:=(h.at_ k L a).holds au (b k (by omega)) (j:=bC E c) rfl;unfold r2 g6;rw[hO,a,Option.getD_some,d,Bc (by omega),qP,List.filter_append,kY,Ka];congr 1;cases hm:A.cX k with
  |true=>grind
  |false=>simp[hm];rfl
theorem QK (f:1<=E.n)(X:a3):nf (bC E c) (bj 0) (dt E) (bD E) (fw (bC E c) (bj 0) (bD E) X)=jY E X:=by
 unfold nf jY kC ng od;rw[Rn];have a:∀ D:ck,D.length=(bD E).length->gx (bC E c) (bD E) D D.length=h' E D:=λD d=>by unfold h';rw[d];rfl
 by_cases e:(bN X (eC (bD E))).ok=true
 ·have g:=FX e;have b:¬ (bN X (eC (bD E))).ok=false:=by grind
  rw[aQ b,aQ b,a _ (by grind[eC]),Pa f,Rm]
 grind
theorem Oc (au:b8 E){A:bn}(h:n2 E A Ls)(b:h4 E A)(X:a3):mx (bC E c) (bj 0) (dt E) (bD E) Ls X=k9 E (jJ E A) X:=by
 unfold mx k9 kE;have a:(bC E c).v.mem.length=E.n:=by grind[qT]
 rw[a,Dq au h b _ (db _)];show(if(bN X (g6 E (jJ E A))).ok=false then bN X (g6 E (jJ E A))else nf _ _ _ _ (fw _ _ _ (bN X (g6 E (jJ E A))).a2))=_;rw[QK au.e.n.1]
theorem E8 (au:b8 E){A:bn}(h:n2 E A Ls)(b:h4 E A)(hm:∃ m,m<E.n/\A.cX m=true)(X:a3):eO (bC E c) (bj 0) Ls X=((2,dt E),k9 E (jJ E A) X):=by have a:dT (bC E c).lines Ls=((dt E,bD E),true):=O' au h b hm;unfold eO;rw[a,bh rfl];exact ey _ (Oc au h b X)
theorem E9 (au:b8 E){A:bn}(h:n2 E A Ls)(q:ff E A):∃ bU g,(∀ X,eO (bC E c) (bj 0) Ls X=(bU,mq g X))/\bU.1≠2/\(h4 E A->g=bD E/\bU=(3,dt E))/\g.length<=12/\∀ p ∈ g,96<=p.bt/\p.bt<E.L:=by
 have d:dT (bC E c).lines Ls=((0,[]),false):=Rj h q;have r:=au.e.n;obtain⟨L,o⟩:∃ L,Ls[0]?=some L:=⟨_,b2 (by rw[h.len];omega)⟩;have k:Ls.getD 0 []=L:=by grind
 have hw:h4 E A->fL L E.L=true/\c2 L E.L=(dt E,bD E):=λi=>(h.at_ 0 L o).whole au (i 0 (by omega))
 cases l:fL L E.L with
 |true=>
  refine⟨(3,(c2 L E.L).1),(c2 L E.L).2,λX=>?_,by simp,λi=>by grind,?_⟩
  ·unfold eO;rw[d,aQ (by simp),k,bh (show fL L (bC E c).lines=true from l)];rfl
  ·have j:=l;unfold fL at j;simp only [gL,mL,beq_iff_eq] at j;have f:=j.2;have u:c2 L E.L=((L.drop 8).getD 0 0,hV (L.drop 8) ((L.drop 8).getD 1 0).toNat):=by
    unfold c2 eu
    grind
   unfold eh at f;split at f
   ·omega
   split at f
   ·omega
   split at f
   ·omega
   split at f
   ·omega
   rename_i t;obtain⟨_,a,b,_⟩:=jA (by omega:gk ((L.drop 8).getD 0 0) (hV (L.drop 8) ((L.drop 8).getD 1 0).toNat) E.L=0)
   grind
 |false=>refine⟨(1,0),[],λX=>?_,by simp,λi=>(by grind),by simp,λp s=>by cases s⟩;unfold eO;rw[d,aQ (by simp),k,aQ (show¬ fL L (bC E c).lines=true by show¬ fL L E.L=true;grind)];unfold mq fP;rw[ur,uP];rfl
def rN (D:ck)(X:a3):cd:=⟨true,D,(0,0),X,none,false⟩
def p9 (vs:a_):cd:=⟨false,[],(0,0),[],some vs,false⟩
theorem A5 (h:sp≠[]):g6 E sp≠[]:=by
 cases sp with
 |nil=>grind
 |cons a l=>simp[g6]
theorem xu (au:b8 E):eC (bD E)≠[]:=by unfold eC;have:=au.bp.some_;simp_all
theorem xv (b:1<E.n)(l:List aN):gp E l≠[]:=by obtain⟨k,a⟩:∃ k,E.n-1=k+1:=⟨E.n-2,by omega⟩;unfold gp;rw[a,zz];simp
theorem AP (a:E.n=1)(l:List aN):gp E l=[]:=by grind[gp]
theorem GC (X:a3):k9 E [] X=jY E X:=by unfold k9;rw[show g6 E []=[] from rfl,uP];exact aQ (by simp[lR])
theorem SA (h:sp≠[]):k9 E sp []=p9 (g6 E sp):=by unfold k9;rw[oH (A5 h)];rfl
theorem QL (h:sp≠[]){D:ck}(a:Fit (g6 E sp) D)(X:a3):k9 E sp (D::X)=jY E X:=by
 unfold k9;rw[nz (A5 h) a]
 grind
theorem GD (au:b8 E):jY E []=p9 (eC (bD E)):=by unfold jY;rw[oH (xu au)];rfl
theorem F2 (au:b8 E){D:ck}(a:Fit (eC (bD E)) D)(X:a3):jY E (D::X)=if h' E D=[]then rN D X else kC E (h' E D) X:=by
 unfold jY;rw[nz (xu au) a,aQ (by simp)];simp only;by_cases h:h' E D=[]
 ·rw[bh (by grind),bh h];rfl
 grind
theorem SB (a:E.n=1)(l:List aN)(X:a3):kC E l X=ng E l X:=by unfold kC;rw[AP a,uP];exact aQ (by simp[lR])
theorem SC (a:1<E.n)(l:List aN):kC E l []=p9 (gp E l):=by unfold kC;rw[oH (xv a l)];rfl
theorem QM (b:1<E.n){l:List aN}{D:ck}(a:Fit (gp E l) D)(X:a3):kC E l (D::X)=ng E l X:=by
 unfold kC;rw[nz (xv b l) a]
 grind
theorem SD (l:List aN):ng E l []=p9 (gI E l):=oH (by simp[gI])
theorem QN {l:List aN}{D:ck}(a:Fit (gI E l) D)(X:a3):ng E l (D::X)=rN D X:=nz (by simp[gI]) a X
theorem GF (X:a3):mq [] X=lR X:=uP X
theorem GG {a:List aN}(h:a≠[]):mq a []=p9 (fP a):=oH (by unfold fP;simp_all)
theorem F3 {a:List aN}(h:a≠[]){D:ck}(b:Fit (fP a) D)(X:a3):mq a (D::X)=rN D X:=nz (by unfold fP;simp_all) b X
def mo (E:Env)(c:Nat)(Ls:eE)(cE:Int)(bU:Int×Int)(X:a3):cd×dB:=
 if(bN X (eP c)).ok=false then(bN X (eP c),jj (bN X (eP c)).out)else(bN X (eP c),⟨0,bU.1,bU.2,fT E.L cE Ls,0⟩)
variable {Ls:eE}{cE:Int}{bU:Int×Int}
theorem SE (a:c<6)(X:a3):h8 (bC E c) (bj 0) X=bN X (eP c):=by
 unfold h8 eP;rw[B3];show bN X [c9 0 49 (gY 1 c) 0]=_
 grind[xi]
theorem u6 (a:c<6){S:cd}(h:S.ok=true):fk E c Ls cE bU S=mo E c Ls cE bU S.a2:=by unfold fk rW mo;rw[aQ (by grind),SE a];rfl
theorem sH (vs:a_):(fk E c Ls cE bU (p9 vs)).1.ask=some vs:=by unfold fk rW;rw[bh (show(p9 vs).ok=false from rfl)];rfl
theorem GH:(mo E c Ls cE bU []).1.ask=some (eP c):=by
 grind[mo,oH,eP]
theorem F4 {D:ck}(a:Fit (eP c) D)(X:a3):mo E c Ls cE bU (D::X)=(rN D X,⟨0,bU.1,bU.2,fT E.L cE Ls,0⟩):=by unfold mo;rw[nz (by simp[eP]) a];exact aQ (by simp)
end
end
section
open dF
structure pZ (vs:a_)(ds:ck):Prop where
 len:ds.length=vs.length
 each:∀ (q:Nat) (v:bc) (d:cN),vs[q]?=some v->ds[q]?=some d->(d.code=0/\(d.words.length:Int)=v.v.hi)\/(d.code=5/\d.words=[])
theorem Dr:∀ {ds:ck},(∀ d ∈ ds,d.code=0\/d.code=5)->(hY ds=5/\∃ d ∈ ds,d.code=5)\/(hY ds=0/\∀ d ∈ ds,d.code=0)
 | [],_=>.inr ⟨rfl,λd g=>by cases g⟩
 |d::ds,h=>by
  unfold hY;rcases h d fR with e | e
  ·rw[bh e];rcases Dr λx a=>h x (fG _ a)with⟨b,x,c,f⟩ | ⟨b,c⟩
   ·exact .inl ⟨b,x,fG _ c,f⟩
   ·exact .inr ⟨b,λx a=>by rcases f0.1 a with rfl | a;exact e;exact c x a⟩
  grind
theorem pZ.get {vs:a_}{ds:ck}(h:pZ vs ds){d:cN}(c:d ∈ ds):∃ v,v ∈ vs/\((d.code=0/\(d.words.length:Int)=v.v.hi)\/(d.code=5/\d.words=[])):=by
 obtain⟨q,b⟩:=ez.1 c;have e:=cS b;have a:q<vs.length:=by rw[<-h.len];grind
 exact⟨vs[q],sj a,h.each q vs[q] d (b2 a) b⟩
theorem pZ.cases {vs:a_}{ds:ck}(h:pZ vs ds):Fit vs ds\/hY ds=5/\∃ d ∈ ds,d.code=5:=by
 rcases Dr (ds:=ds) (λd a=>by obtain⟨v,_,g | g⟩:=h.get a;exact .inl g.1;grind)with g | ⟨_,g⟩
 ·grind
 ·refine .inl ⟨h.len,λq v d al a=>?_⟩;rcases h.each q v d al a with e | e
  ·exact e
  grind
theorem Ds {vs:a_}{d:ck}(G:a3)(al:vs≠[])(h:pZ vs d)(k:hY d=5)(a:Int):cA (d::G) vs a=⟨false,[],(5,a),G,none,false⟩:=by
 have o:vs.length≠0:=λe=>al (oL.1 e)
 have n:k6 vs d=true:=by
  unfold k6;rw[gL,mL,jt];refine⟨h.len.symm,λp i=>?_⟩;obtain⟨q,j⟩:=ez.1 i;obtain⟨f,g⟩:=Ct.1 j;unfold ti;rcases h.each q p.1 p.2 f g with⟨b,c⟩ | ⟨b,c⟩
  ·grind
  grind
 have l:batch (d::G) vs=⟨d,true,G,none,false⟩:=by unfold batch;grind
 grind[cA]
section
variable {E:Env}
def eb (E:Env):Nat->a_
 | 0=>(List.range E.n).map λm=>ca m 56 (hk E)
 | 1=>(bD E).map λp=>c9 0 (p.bt*8) p.Head (dK p.Head 0)
 | 2=>(List.range E.n).map λm=>ca m 48 [iH E]
 | 3=>gp E (bD E)
 | _=>gI E (bD E)
def A6:Nat->Int
 | 0=>1
 | 1=>1
 | 2=>2
 | _=>3
def AR (E:Env):List (a3->cd):=qX (E.dV 0)
def kt (E:Env)(aE:Nat)(G:a3):Prop:=∀ X,runM (E.dV 0) (G++X)=oy ((AR E).drop aE) X
theorem E_ (au:b8 E):nX (E.dV 0)=eb E 0:=au.bp.Bm
theorem wF (au:b8 E):dL (E.dV 0)=eb E 1:=by rw[au.bp.Iy au.e.n.1,au.rd];simp;rfl
theorem E' (au:b8 E):nY (E.dV 0)=eb E 2:=au.bp.BK
theorem Es (au:b8 E):q7 (E.dV 0)=eb E 3:=au.bp.HL
theorem At (au:b8 E):iu (E.dV 0)=eb E 4:=au.bp.HV au.e.n.1
theorem sr (au:b8 E):∀ aE,aE<=4->(aE=3->1<E.n)->eb E aE≠[]
 | 0,_,_=>by have:=au.e.n;intro e;have:=ey List.length e;grind[eb]
 | 1,_,_=>by have:=au.bp.some_;simpa[eb]using this
 | 2,_,_=>by have:=au.e.n;intro e;have:=ey List.length e;grind[eb]
 | 3,_,h=>xv (h rfl) _
 | 4,_,_=>by simp[eb,gI]
def tQ (E:Env):Nat->a3->cd
 | 0=>sL (E.dV 0)
 | 1=>kQ (E.dV 0)
 | 2=>u4 (E.dV 0)
 | 3=>oQ (E.dV 0)
 | _=>oe (E.dV 0)
theorem wG:∀ aE,aE<=4->(AR E).drop aE=tQ E aE::(AR E).drop (aE+1)
 | 0,_=>rfl
 | 1,_=>rfl
 | 2,_=>rfl
 | 3,_=>rfl
 | 4,_=>rfl
theorem xd (au:b8 E):∀ aE,aE<=4->aE≠1->∀ X,tQ E aE X=cA X (eb E aE) (A6 aE)
 | 0,_,_,X=>by rw[<-E_ au];exact ND au.bp.valid au.bp.some_ X
 | 2,_,_,X=>by rw[<-E' au];exact NF au.bp.valid au.bp.some_ X
 | 3,_,_,X=>by rw[<-Es au];rfl
 | 4,_,_,X=>by rw[<-At au];exact Pr au.bp.valid au.bp.some_ X
def xw (E:Env)(D:ck):Prop:=∀ (q:Nat) (p:aN) (d:cN),(bD E)[q]?=some p->D[q]?=some d->ed d=p.Head
theorem Dt:∀ {xs:a7} {ds:ck},(∀ (q:Nat) (x:Int) (d:cN),xs[q]?=some x->ds[q]?=some d->ed d=x)->iX xs ds=false
 | [],_,_=>by grind[iX]
 |x::xs,[],_=>by grind[iX]
 |x::xs,d::ds,h=>by unfold iX;rw[Dt λq gh a b c=>h (q+1) gh a (by simpa using b) (by simpa using c),h 0 x d rfl rfl];simp
theorem Me (au:b8 E){D:ck}(h:xw E D):iX (iW (E.dV 0)) D=false:=by
 refine Dt λq x d a b=>?_
 unfold iW at a;rw[au.rd,ur,kV,fQ]at a;obtain⟨p,c,rfl⟩:=lC.1 a;exact h q p d c b
theorem QO (au:b8 E)(a:aE<=4)(b:aE=3->1<E.n):tQ E aE []=p9 (eb E aE):=by
 by_cases e:aE=1
 ·subst e;show kQ (E.dV 0) []=_;unfold kQ;rw[wF au,yY (sr au 1 (by omega) (by omega))];rfl
 ·rw[xd au aE a e];exact yY (sr au aE a b) _
theorem QP (au:b8 E)(b:aE<=4)(d:aE=3->1<E.n){D:ck}(a:Fit (eb E aE) D)(f:aE=1->xw E D)(X:a3):∃ c,tQ E aE (D::X)=rN c X:=by
 by_cases e:aE=1
 ·subst e;refine⟨[],?_⟩;have a:Fit (dL (E.dV 0)) D:=by grind[wF]
  exact P1 au.bp.valid au.bp.some_ a (Me au (f rfl)) X
 ·refine⟨D,?_⟩;rw[xd au aE b e];exact za X (sr au aE b d) a _
theorem QQ (au:b8 E)(d:aE<=4)(c:aE=3->1<E.n){D:ck}(b:pZ (eb E aE) D)(a:hY D=5)(X:a3):tQ E aE (D::X)=⟨false,[],(5,A6 aE),X,none,false⟩:=by
 by_cases e:aE=1
 ·subst e;show kQ (E.dV 0) (D::X)=_;unfold kQ;rw[wF au,Ds X (sr au 1 (by omega) (by omega)) b a];rfl
 grind[xd,Ds,sr]
theorem T3:kt E 0 []:=λX=>rfl
theorem kt.next (au:b8 E){G:a3}(h:kt E aE G)(a:aE<=4)(b:aE=3->1<E.n){D:ck}(d:Fit (eb E aE) D)(e:aE=1->xw E D):kt E (aE+1) (G++[D]):=λX=>by obtain⟨f,c⟩:=QP au a b d e X;rw[ke];refine(h ([D]++X)).trans ?_;rw[wG aE a];show u3 (tQ E aE (D::X)) _=_;rw[c];rfl
theorem kt.skip (au:b8 E){G:a3}(h:kt E 3 G)(a:E.n=1):kt E 4 G:=λX=>by refine(h X).trans ?_;rw[wG 3 (by omega),oy,xd au 3 (by omega) (by omega)];show u3 (cA X (gp E (bD E)) 3) _=_;rw[AP a,DG];rfl
theorem kt.ask (au:b8 E){G:a3}(h:kt E aE G)(a:aE<=4)(b:aE=3->1<E.n):ee (E.dV 0) G=(eb E aE,(0,0),false):=by have:=h [];rw[kV,wG aE a,oy,QO au a b]at this;unfold ee;rw[aQ (by rw[au.bp.valid];simp),this];rfl
theorem kt.ref (au:b8 E){G:a3}(h:kt E aE G)(a:aE<=4)(b:aE=3->1<E.n){D:ck}(d:pZ (eb E aE) D)(c:hY D=5):ee (E.dV 0) (G++[D])=([],(5,A6 aE),true):=by have:=h [D];rw[wG aE a,oy,QQ au a b d c]at this;unfold ee;rw[aQ (by rw[au.bp.valid];simp),this];rfl
theorem kt.done (au:b8 E){G:a3}(h:kt E 5 G):ee (E.dV 0) G=([],(0,3),true):=by have:=h [];rw[kV]at this;unfold ee;rw[aQ (by rw[au.bp.valid];simp),this];rfl
end
end
end Go.Proofs.YtmkljjbioomepaaGreat
