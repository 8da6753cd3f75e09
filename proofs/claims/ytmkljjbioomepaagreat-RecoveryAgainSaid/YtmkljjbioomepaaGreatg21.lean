import Derived.Test.YtmkljjbioomepaaGreatProg
import Derived.Test.YtmkljjbioomepaaGreatg02
import Derived.Test.YtmkljjbioomepaaGreatg14
import Derived.Test.YtmkljjbioomepaaGreatg20
set_option linter.all false
set_option maxHeartbeats 4000000
set_option maxRecDepth 100000
namespace Go.Proofs.YtmkljjbioomepaaGreat
open Go.Proofs.Tryz Go.bJ
section
open IntKind
variable (w:an)(R:cM){a b c d e f g h:Nat}{s t u v:ak}{i k l:Int}{A:aU}{j:ar}
def yl (e:aU)(s1:ak)(a b:Nat)(s2:ak)(c d:Nat)(n:ak)(f g:Nat)(o:Int)(h:ak)(i k:Nat)(l:Int)(j:ar):ar:=.pointer (some e)::ad s1 a b::ad s2 c d::ad n f g::ab o::ag j 0 6 (ad h i k::ab l::ag j 6 82 [])
def IE (a:aU)(s1:ak)(b c:Nat)(s2:ak)(d f:Nat)(e:ak)(g h:Nat)(n:Int)(i:ak)(k l:Nat)(j:ar):ar:=.pointer (some a)::ad s1 b c::ad s2 d f::ad e g h::ab n::ag j 0 6 (ad i k l::ag j 6 83 [])
def ii (e:aU)(s1:ak)(a b:Nat)(s2:ak)(c d:Nat)(n:ak)(f g:Nat)(o:Int)(h:ak)(i k:Nat)(l:Int)(j:ar):ar:=.pointer (some e)::ad s1 a b::ad s2 c d::ad n f g::ab o::ag j 0 6 (ad h i k::ag j 6 1 (ab l::ag j 7 81 []))
def ym (a:aU)(s1:ak)(b c:Nat)(j:ar):ar:=.pointer (some a)::ad s1 b c::ag j 0 93 []
def vy (e:aU)(s1:ak)(a b:Nat)(s2:ak)(c d:Nat)(n:ak)(f g:Nat)(o:Int)(h:ak)(i k:Nat)(l m:Int)(j:ar):ar:=.pointer (some e)::ad s1 a b::ad s2 c d::ad n f g::ab o::ag j 0 6 (ad h i k::ag j 6 1 (ab l::ab m::ag j 7 80 []))
def IF (a:aU)(s1:ak)(b c:Nat)(s2:ak)(d f:Nat)(e:ak)(g h:Nat)(n:Int)(i:ak)(k l:Nat)(m:Int)(j:ar):ar:=.pointer (some a)::ad s1 b c::ad s2 d f::ad e g h::ab n::ag j 0 6 (ad i k l::ag j 6 1 (ab m::ag j 7 81 []))
def yn (d:aU)(s1:ak)(a b:Nat)(c:Int)(j:ar):ar:=.pointer (some d)::ad s1 a b::ag j 0 14 (ab c::ag j 14 78 [])
def Iz (s1:ak)(a b:Nat)(j:ar):ar:=ag j 0 1 (ad s1 a b::ag j 1 93 [])
def yo (e:aU)(s1:ak)(a b:Nat)(s2:ak)(c d:Nat)(n:ak)(f g:Nat)(o:Int)(h:ak)(i k:Nat)(l m:Int)(j:ar):ar:=.pointer (some e)::ad s1 a b::ad s2 c d::ad n f g::ab o::ag j 0 6 (ad h i k::ag j 6 1 (ab l::ag j 7 1 (ab m::ag j 8 79 [])))
def IA (a:aU)(s1:ak)(b c:Nat)(s2:ak)(d f:Nat)(e:ak)(g h:Nat)(n:Int)(i:ak)(k l:Nat)(m:Int)(j:ar):ar:=.pointer (some a)::ad s1 b c::ad s2 d f::ad e g h::ab n::ag j 0 6 (ad i k l::ag j 6 1 (ab m::ag j 7 81 []))
theorem YE:bd prog f15 [a' a,ad s b c,ad t d e,ad u f g,ab i] R w=(de 46 (a0) (ad s b c) w λk h j l=>cz prog (cU f15 [1,1,1,0,1,0,0]) (yl (af a 0) k h j t d e u f g i none 0 0 0 (bm 5 (a0::bm 4 (ad s b c::ad k h j::bm 76 [])))) (aO 0 (aT f15 [1,1,1,1] R)) l):=by kernel_rfl
theorem V2 (q:ar->aJ):W prog (sb f15 [1,1,1,0,1,0,0]) (yl A s a b t c d u e f i v g h k j) (aZ q (aO 0 (aT f15 [1,1,1,1] R))) w=(cond (k<(a:Nat)) (bx s a k 36 λp=>b0 w (b5 p 1) λm=>aR w #[ab m] 3 λr y=>de 22 (ad v g h) (ad (bk r) 1 1) y λl n o x=>q (yl A s a b t c d u e f i l n o (i64.wrap (k+1)) (ag j 0 12 (ab k::ad s a b::dA a::ae (k<(a:Nat))::ab k::ab (i64.wrap (k+1))::ad v g h::ad s a b::ab k::jp p::bM p 1::ab m::ad (bk r) 1 1::ad l n o::ag j 26 62 []))) x) (W prog (sb f15 [1,1,1,1]) (IE A s a b t c d u e f i v g h (ag j 0 6 (ab k::ag j 6 6 (ab k::ad s a b::dA a::ae (k<(a:Nat))::ag j 16 72 [])))) (bT f15 R) w)):=by kernel_rfl
theorem W5:W prog (sb f15 [1,1,1,1]) (IE A s a b t c d u e f i v g h j) (bT f15 R) w=(cz prog (cU f15 [1,1,1,1,0,1,0,0]) (ii A s a b t c d u e f i v g h 0 (ag j 0 7 (ag j 8 81 []))) (aO 2 (aT f15 [1,1,1,1,1] R)) w):=by kernel_rfl
theorem pm (l:ar->aJ):W prog (sb f15 [1,1,1,1,0,1,0,0]) (ii A s a b t c d u e f i v g h k j) (aZ l (aO 2 (aT f15 [1,1,1,1,1] R))) w=(cond (k<i) (cz prog (cU f15 [1,1,1,1,0,1,0,0,1,0,0,0,1,0,0]) (vy A s a b t c d u e f i v g h k 0 (ag j 0 7 (ag j 8 18 (ab k::ab i::ae (k<i)::ag j 29 59 [])))) (aO 4 (aZ (λm w=>W prog (sb f15 [1,1,1,1,0,1,0,0,1,0,0,1]) m (aO 3 (aZ (λm w=>W prog (sb f15 [1,1,1,1,0,1,0,0,1,1]) m (aZ l (aO 2 (aT f15 [1,1,1,1,1] R))) w) (aZ l (aO 2 (aT f15 [1,1,1,1,1] R))))) w) (aO 3 (aZ (λm w=>W prog (sb f15 [1,1,1,1,0,1,0,0,1,1]) m (aZ l (aO 2 (aT f15 [1,1,1,1,1] R))) w) (aZ l (aO 2 (aT f15 [1,1,1,1,1] R))))))) w) (W prog (sb f15 [1,1,1,1,1]) (ym A s a b (ad t c d::ad u e f::ab i::ag j 0 6 (ad v g h::aH j 6::ab k::ag j 7 19 (ab k::ab i::ae (k<i)::ag j 29 59 [])))) (bT f15 R) w)):=by kernel_rfl
theorem rg:W prog (sb f15 [1,1,1,1,1]) (ym A s a b j) (bT f15 R) w=(cz prog (cU f15 [1,1,1,1,1,0,1,0,0]) (yn A s a b 0 (ag j 0 14 (ag j 15 78 []))) (aO 8 (aT f15 [1,1,1,1,1,1] R)) w):=by kernel_rfl
theorem V5 (p:ar->aJ)(y:ar->aJ):W prog (sb f15 [1,1,1,1,0,1,0,0,1,0,0,0,1,0,0]) (vy A s a b t c d u e f i v g h k l j) (aZ y (aO 4 (aZ (λm w=>W prog (sb f15 [1,1,1,1,0,1,0,0,1,0,0,1]) m (aO 3 (aZ (λm w=>W prog (sb f15 [1,1,1,1,0,1,0,0,1,1]) m (aZ p (aO 2 (aT f15 [1,1,1,1,1] R))) w) (aZ p (aO 2 (aT f15 [1,1,1,1,1] R))))) w) (aO 3 (aZ (λm w=>W prog (sb f15 [1,1,1,1,0,1,0,0,1,1]) m (aZ p (aO 2 (aT f15 [1,1,1,1,1] R))) w) (aZ p (aO 2 (aT f15 [1,1,1,1,1] R)))))))) w=(cond (l<(e:Nat)) (bx u e l 3 λq=>b0 w q λx=>cG 12 #[ab x,ab 60] w λn z=>cond (n == k) (bx u e l 3 λo=>WA z o λr=>vV 33 #[.pointer (some A),ad v g h,r.val] z λB=>y (vy A s a b t c d u e f i v g h k (i64.wrap (l+1)) (ag j 0 30 (ab l::ad u e f::dA e::ae (l<(e:Nat))::ab l::ab (i64.wrap (l+1))::ad u e f::ab l::jp q::jp q::ab x::ab n::ab k::ae ((n:Int) == k)::jp A::ad v g h::ad u e f::ab l::jp o::r.val::.tuple #[]::ag j 51 36 []))) B) (y (vy A s a b t c d u e f i v g h k (i64.wrap (l+1)) (ag j 0 30 (ab l::ad u e f::dA e::ae (l<(e:Nat))::ab l::ab (i64.wrap (l+1))::ad u e f::ab l::jp q::jp q::ab x::ab n::ab k::ae ((n:Int) == k)::ag j 44 43 []))) z)) (W prog (sb f15 [1,1,1,1,0,1,0,0,1,0,0,1]) (IF A s a b t c d u e f i v g h k (ag j 0 7 (ab l::ag j 7 23 (ab l::ad u e f::dA e::ae (l<(e:Nat))::ag j 34 53 [])))) (aO 3 (aZ (λm w=>W prog (sb f15 [1,1,1,1,0,1,0,0,1,1]) m (aZ p (aO 2 (aT f15 [1,1,1,1,1] R))) w) (aZ p (aO 2 (aT f15 [1,1,1,1,1] R))))) w)):=by kernel_rfl
theorem W6 (m:ar->aJ):W prog (sb f15 [1,1,1,1,0,1,0,0,1,0,0,1]) (IF A s a b t c d u e f i v g h k j) (aO 3 (aZ (λl w=>W prog (sb f15 [1,1,1,1,0,1,0,0,1,1]) l (aZ m (aO 2 (aT f15 [1,1,1,1,1] R))) w) (aZ m (aO 2 (aT f15 [1,1,1,1,1] R))))) w=(cz prog (cU f15 [1,1,1,1,0,1,0,0,1,0,0,1,0,1,0,0]) (yo A s a b t c d u e f i v g h k 0 (ag j 0 8 (ag j 9 79 []))) (aO 6 (aZ (λl w=>W prog (sb f15 [1,1,1,1,0,1,0,0,1,0,0,1,1]) l (aO 3 (aZ (λl w=>W prog (sb f15 [1,1,1,1,0,1,0,0,1,1]) l (aZ m (aO 2 (aT f15 [1,1,1,1,1] R))) w) (aZ m (aO 2 (aT f15 [1,1,1,1,1] R))))) w) (aO 3 (aZ (λl w=>W prog (sb f15 [1,1,1,1,0,1,0,0,1,1]) l (aZ m (aO 2 (aT f15 [1,1,1,1,1] R))) w) (aZ m (aO 2 (aT f15 [1,1,1,1,1] R))))))) w):=by kernel_rfl
theorem pp (c:ar->aJ):W prog (sb f15 [1,1,1,1,1,0,1,0,0]) (yn A s a b i j) (aZ c (aO 8 (aT f15 [1,1,1,1,1,1] R))) w=(cond (i<(a:Nat)) (bx s a i 36 λe=>e0 w e λr=>qu 34 #[.pointer (some A),r.val] w λd h=>bx s a i 36 λf=>a8 h f 0 d.cells λg=>c (yn A s a b (i64.wrap (i+1)) (ag j 0 76 [ab i,ad s a b,dA a,ae (i<(a:Nat)),ab i,ab (i64.wrap (i+1)),ad s a b,ab i,jp A,ad s a b,ab i,jp e,r.val,d.val,jp f,aH j 91])) g) (W prog (sb f15 [1,1,1,1,1,1]) (Iz s a b (jp A::ag j 0 14 (ab i::ag j 14 62 (ab i::ad s a b::dA a::ae (i<(a:Nat))::ag j 80 12 [])))) (bT f15 R) w)):=by kernel_rfl
theorem W7:W prog (sb f15 [1,1,1,1,1,1]) (Iz s a b j) (bT f15 R) w=(R (ad s a b) w):=by kernel_rfl
theorem V6 (p:ar->aJ)(x:ar->aJ):W prog (sb f15 [1,1,1,1,0,1,0,0,1,0,0,1,0,1,0,0]) (yo A s a b t c d u e f i v g h k l j) (aZ x (aO 6 (aZ (λm w=>W prog (sb f15 [1,1,1,1,0,1,0,0,1,0,0,1,1]) m (aO 3 (aZ (λm w=>W prog (sb f15 [1,1,1,1,0,1,0,0,1,1]) m (aZ p (aO 2 (aT f15 [1,1,1,1,1] R))) w) (aZ p (aO 2 (aT f15 [1,1,1,1,1] R))))) w) (aO 3 (aZ (λm w=>W prog (sb f15 [1,1,1,1,0,1,0,0,1,1]) m (aZ p (aO 2 (aT f15 [1,1,1,1,1] R))) w) (aZ p (aO 2 (aT f15 [1,1,1,1,1] R)))))))) w=(cond (l<(a:Nat)) (bx s a l 36 λq=>e0 w q λr=>qu 34 #[.pointer (some A),r.val] w λn z=>bx s a l 36 λo=>a8 z o 0 n.cells λy=>x (yo A s a b t c d u e f i v g h k (i64.wrap (l+1)) (ag j 0 51 (ab l::ad s a b::dA a::ae (l<(a:Nat))::ab l::ab (i64.wrap (l+1))::ad s a b::ab l::jp A::ad s a b::ab l::jp q::r.val::n.val::jp o::ag j 66 21 []))) y) (W prog (sb f15 [1,1,1,1,0,1,0,0,1,0,0,1,1]) (IA A s a b t c d u e f i v g h k (ag j 0 8 (ab l::ag j 8 43 (ab l::ad s a b::dA a::ae (l<(a:Nat))::ag j 55 32 [])))) (aO 3 (aZ (λm w=>W prog (sb f15 [1,1,1,1,0,1,0,0,1,1]) m (aZ p (aO 2 (aT f15 [1,1,1,1,1] R))) w) (aZ p (aO 2 (aT f15 [1,1,1,1,1] R))))) w)):=by kernel_rfl
theorem ro (l:ar->aJ):W prog (sb f15 [1,1,1,1,0,1,0,0,1,0,0,1,1]) (IA A s a b t c d u e f i v g h k j) (aO 3 (aZ (λo w=>W prog (sb f15 [1,1,1,1,0,1,0,0,1,1]) o (aZ l (aO 2 (aT f15 [1,1,1,1,1] R))) w) (aZ l (aO 2 (aT f15 [1,1,1,1,1] R))))) w=(dx 35 #[.pointer (some A),ad t c d,ab k] w λn m=>cond (!n) (W prog (sb f15 [1,1,1,1,1]) (ym A s a b (ad t c d::ad u e f::ab i::ag j 0 6 (ad v g h::aH j 6::ab k::ag j 7 60 (jp A::ad t c d::ab k::ae n::ae (!n)::ag j 72 16 [])))) (bT f15 R) m) (l (ii A s a b t c d u e f i v g h (i64.wrap (k+1)) (ag j 0 29 (ab k::ab (i64.wrap (k+1))::ag j 31 36 (jp A::ad t c d::ab k::ae n::ae (!n)::ag j 72 16 [])))) m)):=by kernel_rfl
theorem YF (g:cu):bd prog f26 [a' a,g.val] R w=(aR w g.cells.toArray 45 λn o=>aR o #[ab 0,ab 0,ab 0,ab 0,ab 0,ab 0,ab 0,ah 0,ab 0,ab 0,ab 0,ab 0,a0,a0,a0,ab 0,ab 0,ab 0,ab 0,a0,ab 0,ab 0,ah 0,a0,ae false,ae false,ab 0,ab 0,a0,ab 0,a0,ah 0,ab 0,ab 0,ab 0,ab 0] 45 λi h=>e0 h (af n 0) λr=>aR h r.cells.toArray 45 λl m=>dm 15 #[a' a,ad (bk l) 1 1,a0,a0,ab 20000] m λe b c j=>bx e b 0 36 λk=>e0 j k λp=>a8 j (af i 0) 0 p.cells λf=>e0 f (af i 0) λd=>f=f/\R d.val f):=by kernel_rfl
theorem Y0 (cd:cu):bd prog f34 [a' a,cd.val] R w=(aR w cd.cells.toArray 45 λu ba=>aR ba #[ab 0,ab 0,ab 0,ab 0,ab 0,ab 0,ab 0,ah 0,ab 0,ab 0,ab 0,ab 0,a0,a0,a0,ab 0,ab 0,ab 0,ab 0,a0,ab 0,ab 0,ah 0,a0,ae false,ae false,ab 0,ab 0,a0,ab 0,a0,ah 0,ab 0,ab 0,ab 0,ab 0] 45 λB D=>j5 D (af u 24) λj=>cond j (e0 D (af u 0) λr=>a8 D (af B 0) 0 r.cells λM=>e0 M (af B 0) λb5=>M=M/\R b5.val M) (b0 D (af u 1) λb=>dx 43 #[a' a,ab b] D λc K=>cond (!c) (e0 K (af u 0) λbr=>a8 K (af B 0) 0 br.cells λS=>e0 S (af B 0) λag=>S=S/\R ag.val S) (b0 K (af u 1) λd=>cG 63 #[a' a,ab d] K λf O=>cond (f>0) (e0 O (af u 0) λbD=>a8 O (af B 0) 0 bD.cells λG=>e0 G (af B 0) λbT=>G=G/\R bT.val G) (b0 O (af u 1) λg=>j7 64 #[a' a,ab g] O λh i k l C=>cond l (b_ C (af u 23) λm n o=>de 42 (a0) (ad m n o) C λbP p q av=>aR av #[ad h i k] 100 λbN bb=>de 42 (ad bP p q) (ad (bk bN) 1 1) bb λs t v bI=>cV bI (af u 23) (ad s t v) λJ=>b_ J (af u 23) λx y z=>cond ((y:Int)>200) (cV J (af u 24) (ae true) λcn=>cV cn (af u 25) (ae true) λcj=>e0 cj (af u 0) λbH=>a8 cj (af B 0) 0 bH.cells λL=>e0 L (af B 0) λaG=>L=L/\R aG.val L) (e0 J (af u 0) λaZ=>Calls prog 65 #[aZ.val] J λe bl=>∃ (b8:ak) (b7 ca:Nat),cu.ex λY=>e=.returned (.tuple #[ad b8 b7 ca,Y.val])/\a8 bl (af u 0) 0 Y.cells λE=>j5 E (af u 24) λao=>cond (!ao) (b0 E (af u 1) λbX=>cG 66 #[a' a,ab bX,ad b8 b7 ca] E λbj W=>cond (bj != 0) (cV W (af u 24) (ae true) λbm=>cV bm (af u 25) (ae true) λcb=>e0 cb (af u 0) λaQ=>a8 cb (af B 0) 0 aQ.cells λP=>e0 P (af B 0) λbC=>P=P/\R bC.val P) (e0 W (af u 0) λb2=>a8 W (af B 0) 0 b2.cells λa6=>e0 a6 (af B 0) λaB=>a6=a6/\R aB.val a6)) (e0 E (af u 0) λbq=>a8 E (af B 0) 0 bq.cells λI=>e0 I (af B 0) λbV=>I=I/\R bV.val I))) (b_ C (af u 23) λcr a5 cp=>cond ((a5:Int)>200) (cV C (af u 24) (ae true) λaP=>cV aP (af u 25) (ae true) λZ=>e0 Z (af u 0) λbK=>a8 Z (af B 0) 0 bK.cells λN=>e0 N (af B 0) λbo=>N=N/\R bo.val N) (e0 C (af u 0) λaO=>Calls prog 65 #[aO.val] C λe bO=>∃ (X:ak) (cm A:Nat),cu.ex λg7=>e=.returned (.tuple #[ad X cm A,g7.val])/\a8 bO (af u 0) 0 g7.cells λF=>j5 F (af u 24) λaH=>cond (!aH) (b0 F (af u 1) λb3=>cG 66 #[a' a,ab b3,ad X cm A] F λbM V=>cond (bM != 0) (cV V (af u 24) (ae true) λbx=>cV bx (af u 25) (ae true) λb9=>e0 b9 (af u 0) λbh=>a8 b9 (af B 0) 0 bh.cells λT=>e0 T (af B 0) λaV=>T=T/\R aV.val T) (e0 V (af u 0) λU=>a8 V (af B 0) 0 U.cells λQ=>e0 Q (af B 0) λaX=>Q=Q/\R aX.val Q)) (e0 F (af u 0) λbA=>a8 F (af B 0) 0 bA.cells λH=>e0 H (af B 0) λbz=>H=H/\R bz.val H))))))):=by kernel_rfl
theorem Y1 (cW:cu):bd prog f65 [cW.val] R w=(aR w cW.cells.toArray 45 λu bx=>aR bx #[ab 0,ab 0,ab 0,ab 0,ab 0,ab 0,ab 0,ah 0,ab 0,ab 0,ab 0,ab 0,a0,a0,a0,ab 0,ab 0,ab 0,ab 0,a0,ab 0,ab 0,ah 0,a0,ae false,ae false,ab 0,ab 0,a0,ab 0,a0,ah 0,ab 0,ab 0,ab 0,ab 0] 45 λD B=>b0 B (af u 0) λa=>cond (a == 1) (WB B (af u 2) λcd=>b_ B (af u 23) λb c d=>Calls prog 90 #[cd.val,ad b c d] B λe bO=>∃ (f:ak) (g h:Nat),rD.ex λao=>∃ (i:Bool),e=.returned (.tuple #[ad f g h,ao.val,ae i])/\aR bO #[ab 0,ab 0,ab 0,a0,ab 0,ae false,ah 0,a0,a0,a0] 163 λG bD=>a8 bD (af G 0) 0 ao.cells λcp=>cF cp λb2 j=>cY j (af G 0) λk=>BV j (af G 2) λZ=>cY j (af G 4) λl=>eD j (af G 9) λm n o=>cV b2 (af u 24) (ae i) λT=>j T/\cV T (af u 26) (ab k) λU=>j U/\a8 U (af u 27) 0 Z.cells λS=>j S/\cV S (af u 29) (ab l) λc2=>j c2/\cV c2 (af u 30) (ad m n o) λbM=>cF bM λaZ cr=>tx cr (af u 0) λr=>a8 aZ (af D 0) 0 r.cells λL=>e0 L (af D 0) λaX=>L=L/\R (.tuple #[ad f g h,aX.val]) L) (cond (a == 2) (WC B (af u 3) λbV=>b_ B (af u 23) λp q s=>Calls prog 91 #[bV.val,ad p q s] B λe cj=>∃ (t:ak) (v x:Nat),rF.ex λc3=>∃ (y:Bool),e=.returned (.tuple #[ad t v x,c3.val,ae y])/\aR cj #[ab 0,ah 0,ab 0] 167 λP bC=>a8 bC (af P 0) 0 c3.cells λb3=>cF b3 λb7 M=>cY M (af P 0) λz=>kn M (af P 1) λbm=>cV b7 (af u 24) (ae y) λV=>M V/\cV V (af u 26) (ab z) λcS=>M cS/\cV cS (af u 31) (ah bm) λbq=>cF bq λcA ct=>tx ct (af u 0) λbX=>a8 cA (af D 0) 0 bX.cells λa6=>e0 a6 (af D 0) λa5=>a6=a6/\R (.tuple #[ad t v x,a5.val]) a6) (cond (a == 3) (BW B (af u 8) λbP=>b_ B (af u 23) λbk bb bz=>Calls prog 92 #[bP.val,ad bk bb bz] B λe bT=>∃ (Q:ak) (ag cZ:Nat),bA.ex λg7=>∃ (aB:Bool),e=.returned (.tuple #[ad Q ag cZ,g7.val,ae aB])/\aR bT #[ab 0,ab 0] 171 λO cI=>a8 cI (af O 0) 0 g7.cells λcP=>cF cP λa' H=>cY H (af O 0) λbo=>cY H (af O 1) λbh=>cV a' (af u 24) (ae aB) λc4=>H c4/\cV c4 (af u 26) (ab bo) λcT=>H cT/\cV cT (af u 32) (ab bh) λbK=>cF bK λcz cQ=>tx cQ (af u 0) λb9=>a8 cz (af D 0) 0 b9.cells λaG=>e0 aG (af D 0) λaH=>aG=aG/\R (.tuple #[ad Q ag cZ,aH.val]) aG) (cond (a == 4) (I3 B (af u 15) λb8=>b_ B (af u 23) λaO cB A=>Calls prog 93 #[b8.val,ad aO cB A] B λe bj=>∃ (W:ak) (av c7:Nat),dB.ex λc5=>∃ (I:Bool),e=.returned (.tuple #[ad W av c7,c5.val,ae I])/\aR bj #[ab 0,ab 0,ab 0,ab 0,ah 0] 175 λF aV=>a8 aV (af F 0) 0 c5.cells λb5=>cF b5 λbI E=>cY E (af F 0) λcy=>cY E (af F 1) λaP=>cY E (af F 2) λcG=>cY E (af F 3) λbH=>cV bI (af u 24) (ae I) λY=>E Y/\cV Y (af u 26) (ab cy) λcU=>E cU/\cV cU (af u 33) (ab aP) λJ=>E J/\cV J (af u 34) (ab cG) λX=>E X/\cV X (af u 35) (ab bH) λaQ=>cF aQ λcn cm=>tx cm (af u 0) λcb=>a8 cn (af D 0) 0 cb.cells λN=>e0 N (af D 0) λca=>N=N/\R (.tuple #[ad W av c7,ca.val]) N) (cV B (af u 24) (ae true) λbN=>cV bN (af u 25) (ae true) λC=>cF C λcR ba=>tx ba (af u 0) λbl=>a8 cR (af D 0) 0 bl.cells λK=>e0 K (af D 0) λbr=>K=K/\R (.tuple #[a0,br.val]) K))))):=by kernel_rfl
end
namespace dI
def conv:Conv:=⟨cJ ⊕ bL,(Int×Int) ⊕ dB,λj G=>match j with
 |.inl j=>((ee j G).1,.inl (ee j G).2.1,(ee j G).2.2)
 |.inr j=>((fx j G).1,.inr (fx j G).2.1,(fx j G).2.2)⟩
def NG (j:conv.dV):Int:=match j with
 |.inl _=>3
 |.inr _=>4
structure rf (A:a4)(w:an)(r:c_)(j:bL):Prop where
 at_:q2 w r j
 view:gD A w r.View j.v
theorem rf.aA {A A':a4}{w w':an}{r:c_}{j:bL}(h:rf A w r j)(d:ao A w w')(c:∀ k,k<w.heap.size->A' k->A k):rf A' w' r j:=by obtain⟨a,al⟩:=h;have b:=dF.gD.aA al d c;exact⟨⟨a.aL,a.inc,a.lines,⟨A',b⟩,a.dead,a.fJ,a.prev,a.u64⟩,b⟩
def xj (A:a4)(w:an)(r:cu)(j:conv.dV):Prop:=match j with
 |.inl j=>dF.re A w r.jv j
 |.inr j=>rf A w r.Recover j
def xD (A:a4)(w:an)(r:cu)(o:conv.O):Prop:=match o with
 |.inl o=>r.Code=o.1/\r.q8=o.2
 |.inr o=>r.Code=o.Code/\r.kx=o.kx/\r.Seq=o.Seq/\r.ku=o.ku
theorem xj.aA {A A':a4}{w w':an}{r:cu}{j:conv.dV}(h:xj A w r j)(b:ao A w w')(a:∀ k,k<w.heap.size->A' k->A k):xj A' w' r j:=by
 cases j with
 |inl j=>exact dF.re.aA h b a
 |inr j=>exact rf.aA h b a
theorem xD.aA {A A':a4}{w w':an}{r:cu}{o:conv.O}(h:xD A w r o)(b:ao A w w')(a:∀ k,k<w.heap.size->A' k->A k):xD A' w' r o:=by
 cases o with
 |inl o=>exact h
 |inr o=>exact h
end dI
section
open dF
structure fp where
 aE:Nat
 bg:Nat->Option cN
def mZ (E:Env)(A:bn)(v:bc):Prop:=(∀ m p,p ∈ bD E->v=fo m p->A.b6 m (bz p)=2)/\∀ m,v=ca m 32 [dt E]->A.dO m=true
def n0 (E:Env)(A:bn)(vs:a_)(bg:Nat->Option cN):Prop:=∀ (q:Nat) (v:bc) (d:cN),vs[q]?=some v->bg q=some d->d.code=0->mZ E A v
theorem mZ.mono {E:Env}{A A':bn}{v:bc}(h:mZ E A v)(hm:dq E A A'):mZ E A' v:=⟨λm p a e=>hm.b6 m _ (h.1 m p a e),λm e=>hm.dO m (h.2 m e)⟩
theorem n0.mono {E:Env}{A A':bn}{vs:a_}{bg:Nat->Option cN}(h:n0 E A vs bg)(hm:dq E A A'):n0 E A' vs bg:=λq v d a b c=>(h q v d a b c).mono hm
def fg (E:Env)(A:bn)(g:fp):Prop:=match g.aE with
 | 0=>ff E A/\(∀ m,m<E.n->A.dO m=false)/\(∀ m,m<E.n->∀ p ∈ bD E,A.b6 m (bz p)=0)/\∀ m,m<E.n->∀ d,g.bg m=some d->d.code=0->A.fH m=true
 | 1=>h4 E A/\ff E A/\∀ (q:Nat) (p:aN),(bD E)[q]?=some p->(g.bg q=none->A.b6 0 (bz p)=0)/\∀ d,g.bg q=some d->d.code=0->ed d=p.Head/\(A.b6 0 (bz p)=1\/iL E A)
 | 2=>h4 E A/\(ff E A->(∀ p ∈ bD E,A.b6 0 (bz p)=1)\/iL E A)/\∀ m,m<E.n->∀ d,g.bg m=some d->d.code=0->A.cX m=true
 | 3=>iJ E A/\n0 E A (gp E (bD E)) g.bg
 | 4=>iJ E A/\q1 E A/\n0 E A (gI E (bD E)) g.bg
 | 6=>jP E A
 | _=>True
def n4 (E:Env)(A:bn)(g:fp):Prop:=∀ (q:Nat) (d:cN),g.bg q=some d->∃ v,(eb E g.aE)[q]?=some v/\((d.code=0/\(d.words.length:Int)=v.v.hi)\/(d.code=5/\d.words=[]/\A.c0 v.node.toNat=true))
structure c1 where
 aE:Nat
 bg:Nat->Option cN
 e1:c6
 Ls:eE
 cE:Int
 sp:c6
 l:List aN
 nH:List aN
 bU:Int×Int
def c7 (E:Env)(c:Nat)(g:c1):a_:=match g.aE with
 | 0=>eA E.n
 | 1=>eJ g.e1
 | 2=>ft c
 | 3=>fc E.n
 | 4=>g6 E g.sp
 | 5=>eC (bD E)
 | 6=>gp E g.l
 | 7=>gI E g.l
 | 8=>fP g.nH
 | 9=>eP c
 | _=>[]
def eH (E:Env)(c:Nat)(g:c1):a3->cd×dB:=match g.aE with
 | 0=>rz E c
 | 1=>mn E c g.e1
 | 2=>kB E c
 | 3=>ob E c
 | 4=>λX=>fk E c g.Ls g.cE g.bU (k9 E g.sp X)
 | 5=>λX=>fk E c g.Ls g.cE g.bU (jY E X)
 | 6=>λX=>fk E c g.Ls g.cE g.bU (kC E g.l X)
 | 7=>λX=>fk E c g.Ls g.cE g.bU (ng E g.l X)
 | 8=>λX=>fk E c g.Ls g.cE g.bU (mq g.nH X)
 | _=>mo E c g.Ls g.cE g.bU
def Own (E:Env)(A:bn)(c:Nat):Prop:=iL E A/\A.dM=dp c
def xk (E:Env)(A:bn)(l:List aN):Prop:=(∀ p ∈ l,p ∈ bD E)/\l.length<=12/\∀ p ∈ bD E,p ∈ l\/A.b6 0 (bz p)=2
def Fin (E:Env)(A:bn)(g:c1):Prop:=(jP E A/\g.bU.1=2/\fT E.L g.cE g.Ls=dt E+1)\/(pY E A/\g.bU.1≠2)
def g' (g:c1):Prop:=(g.aE=2/\∃ d,g.bg 0=some d/\ed d=0)\/(3<=g.aE/\g.aE<=10)
def ss (ns:List aD)(v:bc):a7:=match ns[v.node.toNat]? with
 |none=>[]
 |some x=>(x.words.drop v.at_.toNat).take v.n.toNat
def cQ (E:Env)(rs:c6)(A:bn)(ns:List aD)(gr:Nat->c1)(c:Nat):Prop:=match (gr c).aE with
 | 0=>∀ m,m<E.n->∀ d,(gr c).bg m=some d->ed d=1\/(ed d=2/\A.c0 m=true)
 | 1=>(∀ m,m<E.n->m ∉ (gr c).e1->A.c0 m=true)/\(∀ m ∈ (gr c).e1,m<E.n)/\∀ (q m:Nat) (d:cN),(gr c).e1[q]?=some m->(gr c).bg q=some d->A.c0 m=true/\(ed d=1\/ed d=2)
 | 2=>iL E A/\∀ d,(gr c).bg 0=some d->(ed d=0/\A.dM=dp c)\/∃ c' ∈ rs,c'≠c/\ed d=dp c'/\g' (gr c')
 | 3=>Own E A c/\∀ (q:Nat) (v:bc) (d:cN),(fc E.n)[q]?=some v->(gr c).bg q=some d->d.words=ss ns v
 | 4=>Own E A c/\h4 E A/\(∃ m,m<E.n/\A.cX m=true)/\(∀ p ∈ bD E,A.b6 0 (bz p)≠0)/\(∀ m,m<E.n->m ∉ (gr c).sp->A.cX m=true)/\(∀ m ∈ (gr c).sp,m<E.n)/\(gr c).sp.Nodup/\(∀ (k m:Nat),(gr c).sp[k]?=some m->(gr c).bg (k*3)=none->A.cX m=false)/\∀ (q m:Nat) (d:cN),(g6 E (gr c).sp)[q]?=some (ca m 48 [iH E])->(gr c).bg q=some d->A.cX m=true
 | 5=>Own E A c/\iJ E A/\∀ (q:Nat) (p:aN) (d:cN),(bD E)[q]?=some p->(gr c).bg q=some d->(ed d=dK p.Head 0↔A.b6 0 (bz p)=1)
 | 6=>Own E A c/\iJ E A/\xk E A (gr c).l/\n0 E A (gp E (gr c).l) (gr c).bg
 | 7=>Own E A c/\iJ E A/\q1 E A/\xk E A (gr c).l/\n0 E A (gI E (gr c).l) (gr c).bg
 | 8=>Own E A c/\ff E A/\((gr c).nH=bD E\/∀ p ∈ bD E,A.b6 0 (bz p)=0)/\(gr c).nH.length<=12/\(∀ p ∈ (gr c).nH,96<=p.bt/\p.bt<E.L)/\∀ (q:Nat) (p:aN) (d:cN),(gr c).nH[q]?=some p->(gr c).bg q=some d->p ∈ bD E->A.b6 0 (bz p)=0
 | 9=>iL E A/\((gr c).bg 0=none->A.dM=dp c)/\Fin E A (gr c)
 | 10=>iL E A/\Fin E A (gr c)
 | 11=>∃ c' ∈ rs,c'≠c/\g' (gr c')
 | _=>True
def mf (E:Env)(g:c1):Prop:=(4<=g.aE/\g.aE<=7->g.bU.1=2/\fT E.L g.cE g.Ls=dt E+1)/\(g.aE=8->g.bU.1≠2)
def m2 (E:Env)(c:Nat)(g:c1):Prop:=∀ (q:Nat) (d:cN),g.bg q=some d->∃ v,(c7 E c g)[q]?=some v/\d.code=0/\(d.words.length:Int)=v.v.hi
def iD (g:c1):Prop:=(g.aE=2/\∃ d,g.bg 0=some d/\ed d=0)\/(3<=g.aE/\g.aE<=8)\/(g.aE=9/\g.bg 0=none)
def ve (rs:c6)(A:bn)(gr:Nat->c1):Prop:=A.dM=0\/∃ c ∈ rs,A.dM=dp c/\iD (gr c)
theorem Et {c c':Nat}(h:dp c=dp c'):c=c':=by grind[dp]
theorem Au (c:Nat):dp c≠0:=by grind[dp]
theorem cQ.own {E:Env}{rs:c6}{A:bn}{ns:List aD}{gr:Nat->c1}{c:Nat}(h:cQ E rs A ns gr c)(b:iD (gr c)):Own E A c:=by
 unfold cQ at h;rcases b with⟨e,d,a,j⟩ | ⟨f,i⟩ | ⟨e,a⟩
 ·rw[e]at h;rcases h.2 d a with g | ⟨c',_,_,g,_⟩
  ·exact⟨h.1,g.2⟩
  grind[Au]
 ·grind
 ·rw[e]at h;exact⟨h.1,h.2.1 a⟩
structure oY (E:Env)(A A':bn):Prop where
 mono:dq E A A'
 rM:iL E A->ff E A->ff E A'
 tv:iL E A->ff E A->∀ p ∈ bD E,A.b6 0 (bz p)=0->A'.b6 0 (bz p)=0
theorem oY.TG {E:Env}{A A':bn}(h:oY E A A')(g:pY E A):pY E A':=⟨h.mono.bg g.1,h.rM g.1 g.2.1,λp a=>h.tv g.1 g.2.1 p a (g.2.2 p a)⟩
theorem oY.fin {E:Env}{A A':bn}(h:oY E A A'){g:c1}(c:Fin E A g):Fin E A' g:=by
 rcases c with⟨a,b⟩ | ⟨a,b⟩
 ·exact .inl ⟨h.mono.HU a,b⟩
 ·exact .inr ⟨h.TG a,b⟩
theorem Own.one {E:Env}{A:bn}{c c':Nat}(h:Own E A c)(a:Own E A c'):c=c':=Et (h.2.symm.trans a.2)
theorem cQ.gb {E:Env}{rs:c6}{A A':bn}{ns ns':List aD}{gr f:Nat->c1}{c:Nat}(h:cQ E rs A ns gr c)(p:f c=gr c)(a:¬ iD (gr c))(b:oY E A A')(hw:∀ c',g' (gr c')->g' (f c')):cQ E rs A' ns' f c:=by
 unfold cQ at h ⊢;rw[p];split at h
 ·exact λm hm d i=>by
   rcases h m hm d i with g | ⟨j,k⟩
   ·grind
   ·exact .inr ⟨j,b.mono.c0 m k⟩
 ·exact⟨λm hm o=>b.mono.c0 m (h.1 m hm o),h.2.1,λq m d l n=>⟨b.mono.c0 m (h.2.2 q m d l n).1,(h.2.2 q m d l n).2⟩⟩
 ·rename_i e;refine⟨b.mono.bg h.1,λd i=>?_⟩;rcases h.2 d i with g | ⟨c',j,k,r,s⟩
  ·exact cp (.inl ⟨e,d,i,g.1⟩) a
  grind
 ·rename_i e;exact cp (.inr (.inl ⟨by omega,by omega⟩)) a
 ·rename_i e;exact cp (.inr (.inl ⟨by omega,by omega⟩)) a
 ·rename_i e;exact cp (.inr (.inl ⟨by omega,by omega⟩)) a
 ·rename_i e;exact cp (.inr (.inl ⟨by omega,by omega⟩)) a
 ·rename_i e;exact cp (.inr (.inl ⟨by omega,by omega⟩)) a
 ·rename_i e;exact cp (.inr (.inl ⟨by omega,by omega⟩)) a
 ·rename_i e;refine⟨b.mono.bg h.1,λi=>cp (.inr (.inr ⟨e,i⟩)) a,b.fin h.2.2⟩
 ·exact⟨b.mono.bg h.1,b.fin h.2⟩
 ·grind
 grind
theorem cQ.stay {E:Env}{rs:c6}{A:bn}{ns:List aD}{gr a:Nat->c1}{c:Nat}(h:cQ E rs A ns gr c)(b:a c=gr c)(hw:∀ c',g' (gr c')->g' (a c')):cQ E rs A ns a c:=by
 unfold cQ at h ⊢;rw[b]
 grind
structure o1 (E:Env)(A A':bn):Prop where
 mono:dq E A A'
 rM:ff E A->ff E A'
 some_:ff E A'->ff E A
 dO:ff E A->∀ m,m<E.n->A.dO m=false->A'.dO m=false
 vO:ff E A->∀ m,m<E.n->∀ p ∈ bD E,A.b6 m (bz p)=0->A'.b6 m (bz p)=0
 IT:ff E A->∀ p ∈ bD E,A.b6 0 (bz p)=1->A'.b6 0 (bz p)=1\/iL E A
theorem fg.rec {E:Env}(s:1<=E.n){A A':bn}{g:fp}(h:fg E A g)(e:o1 E A A'):fg E A' g:=by
 unfold fg at h ⊢;split at h
 ·obtain⟨a,b,c,d⟩:=h;exact⟨e.rM a,λm hm=>e.dO a m hm (b m hm),λm hm p f=>e.vO a m hm p f (c m hm p f),λm hm x o r=>e.mono.fH m (d m hm x o r)⟩
 ·obtain⟨a,b,c⟩:=h;refine⟨e.mono.lb a,e.rM b,λq p f=>⟨λk=>?_,λd k u=>?_⟩⟩
  ·exact e.vO b 0 s p (b9 f) ((c q p f).1 k)
  ·obtain⟨t,i⟩:=(c q p f).2 d k u;refine⟨t,?_⟩;rcases i with i | i
   ·rcases e.IT b p (b9 f) i with j | j
    ·grind
    ·exact .inr (e.mono.bg j)
   ·exact .inr (e.mono.bg i)
 ·obtain⟨a,b,c⟩:=h;refine⟨e.mono.lb a,λs=>?_,λm hm d o r=>e.mono.cX m (c m hm d o r)⟩;have l:=e.some_ s;rcases b l with g | g
  ·by_cases k:iL E A
   ·exact .inr (e.mono.bg k)
   ·refine .inl λp f=>?_
    rcases e.IT l p f (g p f)with j | j
    ·exact j
    grind
  ·exact .inr (e.mono.bg g)
 ·exact⟨e.mono.am h.1,h.2.mono e.mono⟩
 ·exact⟨e.mono.am h.1,e.mono.Bk h.2.1,h.2.2.mono e.mono⟩
 ·exact e.mono.HU h
 grind
end
section
open dF
theorem wO {α:Type}{k:Nat}(e:0<k):∀ {hS:List (List α)} {q:Nat} {v:α},(∀ b ∈ hS,b.length=k)->hS.flatten[q]?=some v->∃ (i:Nat) (b:List α),hS[i]?=some b/\i*k<=q/\b[q-i*k]?=some v
 | [],q,v,_,h=>by grind
 |b::hS,q,v,a,h=>by
  have n:=a b fR;rw[lD]at h;by_cases f:q<b.length
  ·rw[zr f]at h;exact⟨0,b,rfl,by omega,by grind⟩
  ·rw[wx (by omega)]at h;obtain⟨i,c,g,j,l⟩:=wO e (λc d=>a c (fG _ d)) h;refine⟨i+1,c,by grind,by grind,?_⟩
   grind
theorem ug {α:Type}{k:Nat}:∀ {hS:List (List α)} {i r:Nat} {b:List α} {v:α},(∀ b ∈ hS,b.length=k)->hS[i]?=some b->b[r]?=some v->hS.flatten[i*k+r]?=some v
 | [],i,r,b,v,_,h,_=>by grind
 |c::hS,0,r,b,v,a,h,d=>by
  grind
 |c::hS,i+1,r,b,v,a,h,d=>by have f:=a c fR;rw[lD,wx (by rw[uk];omega),f,uk,show i*k+k+r-k=i*k+r by omega];exact ug (λc e=>a c (fG _ e)) (by simpa using h) d
theorem g8.before {C:a9}{vs:a_}{bg:Nat->Option cN}(h:g8 C vs bg){j:Nat}{l:ct}(e:C.az[j]?=some l){q:Nat}{cx:c6}(r:l.bG=q::cx){q':Nat}{f:bc}(k:q'<q)(al:vs[q']?=some f)(n:f.node.toNat=j):∃ d,bg q'=some d:=by
 cases i:bg q' with
 |some d=>grind
 |none=>
  exfalso;obtain⟨p,l',a,hm⟩:=h.left q' (cS al) i;obtain⟨t,o⟩:=ez.1 hm;obtain⟨v,b,_,g,_⟩:=(h.lane p l' a).at_ t q' o
  rw[al]at b;cases b;rw[<-g,n]at a;rw[e]at a;cases a;have c:=(h.lane j l e).xH
  grind[List.pairwise_cons]
section
variable {E:Env}{l:List aN}
theorem xx {q:Nat}{v:bc}(h:(gp E l)[q]?=some v):∃ m,m+1<E.n/\v.node=((m+1:Nat):Int)/\((∃ p ∈ l,v=fo (m+1) p)\/(v=ca (m+1) 32 [dt E]/\∀ p ∈ l,∃ q',q'<q/\(gp E l)[q']?=some (fo (m+1) p))):=by
 have e:∀ b ∈ (List.range (E.n-1)).map (λm=>l.map (fo (m+1))++[ca (m+1) 32 [dt E]]),b.length=l.length+1:=λb e=>by
  grind
 obtain⟨i,b,c,s,a⟩:=wO (by omega) e h;have j:=cS c;simp only[gR,nO]at j;have d:=c;rw[fQ,si j]at c;simp only[se,hM]at c;subst c;refine⟨i,by omega,?_⟩;by_cases t:q-i*(l.length+1)<l.length
 ·rw[zr (by grind),fQ]at a;obtain⟨p,f,rfl⟩:=lC.1 a;exact⟨rfl,.inl ⟨p,b9 f,rfl⟩⟩
 ·rw[wx (by grind)]at a;have:=cS a;simp only[gR,List.length_singleton]at this;have k:q-i*(l.length+1)-(l.map (fo (i+1))).length=0:=by grind
  rw[k]at a;simp only[List.getElem?_cons_zero,hM]at a;subst a;refine⟨rfl,.inr ⟨rfl,λp f=>?_⟩⟩;obtain⟨r,g⟩:=ez.1 f;have o:=cS g;refine⟨i*(l.length+1)+r,by omega,ug e d ?_⟩
  grind
theorem xy {q:Nat}{v:bc}(h:(gI E l)[q]?=some v):v.node=0/\((q=0/\v=ca 0 32 [dt E])\/(0<q/\∃ p ∈ l,v=fo 0 p)):=by
 cases q with
 |zero=>simp[gI]at h;subst h;exact⟨rfl,.inl ⟨rfl,rfl⟩⟩
 |succ q=>unfold gI at h;rw[zt,fQ]at h;obtain⟨p,a,rfl⟩:=lC.1 h;exact⟨rfl,.inr ⟨by omega,p,b9 a,rfl⟩⟩
theorem Ti {m a:Nat}{p p':aN}(h:fo m p=fo a p')(e:0<=p.bt)(b:0<=p'.bt):m=a/\bz p=bz p':=by
 have c:(m:Int)=a:=ey bc.node h;have d:p.bt*8=p'.bt*8:=ey bc.at_ h
 grind
theorem GI {m a:Nat}{p:aN}(c:96<=p.bt):fo m p≠ca a 32 [dt E]:=λh=>by have b:p.bt*8=32:=ey bc.at_ h;omega
theorem Ys {m b:Nat}{a:Int}{ws:a7}(h:ca m a ws=ca b a ws):m=b:=by have c:(m:Int)=b:=ey bc.node h;omega
theorem GJ (au:b8 E){A:bn}{m:Nat}{p:aN}(c:p ∈ bD E)(h:A.b6 m (bz p)=2):mZ E A (fo m p):=by
 have f:=au.pl c;refine⟨λd p' a e=>?_,λd e=>cp e (GI (by omega))⟩;have b:=au.pl a
 grind[Ti]
theorem F' (au:b8 E){A:bn}{m:Nat}(h:A.dO m=true):mZ E A (ca m 32 [dt E]):=by
 refine⟨λb p' a e=>cp e.symm (GI (by have:=au.pl a;omega)),λb e=>?_⟩
 grind[Ys]
theorem su (au:b8 E){m:Nat}(hm:m<E.n){p:aN}(b:p ∈ bD E):e9 E.n E.L (fo m p):=by have d:=au.pl b;have a:=au.e.n;have c:=au.e.L;exact oS a.2 hm (by omega) (by omega) (by show 1<=8;omega) (by show 8<=1000;omega) (by show p.bt*8+(8:Int)<=_;omega)
theorem sv (au:b8 E){m:Nat}(hm:m<E.n):e9 E.n E.L (ca m 32 [dt E]):=by
 have b:=au.e.n;have a:=au.e.L
 grind[oS]
end
theorem Hw {p:cH}{x:aD}{e2:a_}{m a:Nat}{ws:a7}(g:gu p)(c:p.a1=ca m a ws::e2)(k:p.refusal (ca m a ws) x=0)(h:a % 8=0)(i:p.words=[])(j:a+ws.length<=x.words.length)(f:ws.length<=8):p.step x=(p.done,x.write a ws,some ⟨0,[]⟩):=by
 obtain⟨l,e,_,_,b⟩:=AW g c k h i j;have d:p.b4=0:=by omega
 rw[d]at e b;rcases b with b | ⟨_,n,o⟩
 ·omega
 ·have hw:(ws.drop (8*0)).take 8=ws:=by rw[Nat.mul_zero,List.drop_zero,r' f]
  grind
section
variable {E:Env}{A:bn}{ns:List aD}{l:List aN}
theorem Ga (au:b8 E)(n:hQ E A ns)(z:e8 E A)(B:iJ E A)(h:∀ p ∈ l,p ∈ bD E){q j:Nat}{v:bc}(al:(gp E l)[q]?=some v)(L:v.node.toNat=j){x:aD}(t:ns[j]?=some x)(d:∀ (q':Nat) (w:bc),q'<q->(gp E l)[q']?=some w->w.node.toNat=j->mZ E A w)(G:∀ p ∈ bD E,p ∈ l\/A.b6 j (bz p)=2) :
  ∃ (a:Nat) (ws:a7) (A':bn),v=ca j (a:Int) ws/\a % 8=0/\ws.length<=8/\a+ws.length<=x.words.length/\hQ E A' (ns.set j (x.write a ws))/\e8 E A'/\mZ E A' v/\dq E A A'/\(A'.dM,A'.c0)=(A.dM,A.c0)/\A'.cX=A.cX/\(∀ m l',A'.b6 m l'=A.b6 m l'\/1<=m):=by
 obtain⟨m,hm,s,F⟩:=xx al;have o:j=m+1:=by grind
 subst o;have b:=n.mem _ x t;have J:=b.aT.len;have I:=au.jG;rcases F with⟨p,i,rfl⟩ | ⟨rfl,f⟩
 ·have c:=h p i;have H:=au.pl c;refine⟨bz p*8,jU p,A.hj (m+1) (bz p) 2,?_,by omega,by show 8<=8;omega,by show bz p*8+8<=_;omega,n.fD t (b.new au c) λK r y u=>?_,z.tv (by omega) (λ_=>by omega) (λe=>by omega) (λ_=>B) (λ_ e=>by omega) (λ_ _=>rfl),GJ au c ?_,w2 λ_=>rfl,rfl,rfl,λk l'=>?_⟩
  ·show ca (m+1) (p.bt*8) (jU p)=_
   grind
  ·exact u.same (λp' _=>by grind[bn.hj]) rfl rfl rfl rfl (λ_=>rfl)
  ·simp[bn.hj]
  grind[bn.hj]
 ·refine⟨32,[dt E],A.l1 (m+1),rfl,by omega,by simp,by grind,n.fD t (b.vm au) λK r y u=>?_,z.vm B (λe=>by omega) (λ_ p i=>?_),F' au (by simp[bn.l1]),Fm,rfl,rfl,λk l'=>.inl rfl⟩
  ·exact u.same (λp' _=>rfl) rfl (by grind[bn.l1]) rfl rfl (λ_=>rfl)
  ·rcases G p i with g | g
   ·obtain⟨q',C,D⟩:=f p g;exact(d q' _ C D (by simp[fo,ca])).1 _ p i rfl
   grind
theorem Gb (au:b8 E)(g:hQ E A ns)(t:e8 E A)(u:iJ E A)(z:q1 E A)(f:∀ p ∈ l,p ∈ bD E){q j:Nat}{v:bc}(al:(gI E l)[q]?=some v)(I:v.node.toNat=j){x:aD}(o:ns[j]?=some x)(d:∀ (q':Nat) (s:bc),q'<q->(gI E l)[q']?=some s->s.node.toNat=j->mZ E A s) :
  ∃ (a:Nat) (ws:a7) (A':bn),j=0/\v=ca j (a:Int) ws/\a % 8=0/\ws.length<=8/\a+ws.length<=x.words.length/\hQ E A' (ns.set j (x.write a ws))/\e8 E A'/\mZ E A' v/\dq E A A'/\(A'.dM,A'.c0)=(A.dM,A.c0)/\A'.cX=A.cX:=by
 obtain⟨n,B⟩:=xy al;have i:j=0:=by grind
 subst i;have b:=g.mem _ x o;have G:=b.aT.len;have D:=au.jG;rcases B with⟨_,rfl⟩ | ⟨w,p,F,rfl⟩
 ·refine⟨32,[dt E],A.l1 0,rfl,rfl,by omega,by simp,by grind,g.fD o (b.vm au) λH k y r=>?_,t.vm u (λ_=>z) (λe=>by omega),F' au (by simp[bn.l1]),Fm,rfl,rfl⟩;exact r.same (λp' _=>rfl) rfl (by grind[bn.l1]) rfl rfl (λ_=>rfl)
 ·have c:=f p F;have C:=au.pl c;have h:=(d 0 (ca 0 32 [dt E]) w rfl rfl).2 0 rfl;refine⟨bz p*8,jU p,A.hj 0 (bz p) 2,rfl,?_,by omega,by show 8<=8;omega,by show bz p*8+8<=_;omega,g.fD o (b.new au c) λH k y r=>?_,t.tv (by omega) (λe=>by omega) (λe=>by omega) (λ_=>u) (λ_ _=>h) (λe=>by omega),GJ au c ?_,w2 λ_=>rfl,rfl,rfl⟩
  ·show ca 0 (p.bt*8) (jU p)=_
   grind
  ·exact r.same (λp' _=>by grind[bn.hj]) rfl rfl rfl rfl (λ_=>rfl)
  grind[bn.hj]
end
end
section
open dF
section
variable {E:Env}{ns:List aD}{i m:Nat}{x gh:aD}
end
end
section
open dF
theorem eB.pl {E:Env}{i:Nat}{j:cJ}(h:eB E i j){p:aN}(a:p ∈ j.writes):p.bt=((p.bt.toNat:Nat):Int)/\96<=p.bt.toNat/\p.bt.toNat<E.L:=by
 obtain⟨l,e,b,c⟩:=h.line p a
 grind
end
section
open dF
section
variable {E:Env}{i:Nat}{j:cJ}
theorem QR (h:eB E i j)(a:1<=E.n){q:Nat}{v:bc}(al:(dL j)[q]?=some v):(∃ p ∈ j.writes,j.writes[q]?=some p/\v=Bp (p.bt*8) p.Head (dK p.Head i))\/∃ s ∈ j.reads,v=B1 (s.bt*8):=by
 rw[h.Iy a]at al
 grind
end
end
section
open dF
section
variable {n L:Nat}{p:cH}{x:aD}{e2:a_}
end
section
variable {E:Env}{i:Nat}{j:cJ}
end
end
section
open dF
section
variable {E:Env}{ns:List aD}{i m q:Nat}{p:cH}{x:aD}{v:bc}{bg:Nat->Option cN}{D:ck}
end
end
section
open dF
def jl (l:ct):Nat:=(l.pair.a1.map λv=>v.v.pieces.length).sum-l.pair.b4
def jk (C:a9):Nat:=(C.az.map jl).sum
theorem Av:∀ {l:c6} {i:Nat} {a b:Nat},l[i]?=some a->(l.set i b).sum+a=l.sum+b
 | [],i,a,b,h=>by grind
 |x::l,0,a,b,h=>by
  grind
 |x::l,i+1,a,b,h=>by have:=Av (l:=l) (i:=i) (a:=a) (b:=b) (by simpa using h);simp only[List.set_cons_succ,pO];omega
theorem Od {p:cH}{n:aD}(c:gu p)(e:∀ v e2,p.a1=v::e2->p.refusal v n=0){l l':ct}(d:l.pair=p)(b:l'.pair=(p.step n).1)(al:p.a1≠[]):jl l'<jl l:=by
 obtain⟨v,e2,a⟩:=um al;have f:=c.ih v e2 a;unfold jl;rw[d,b,uE a (e v e2 a),a];simp only[iI,pO];split
 ·grind
 ·show(p.a1.tail.map _).sum-0<_
  grind
def uM (p:cH):Prop:=∀ v e2,p.a1=v::e2->v.kind=2->p.words=[]
theorem Pb {p:cH}{n:aD}(a:uM p):uM (p.step n).1:=by
 unfold cH.step;cases al:p.a1 with
 |nil=>exact a
 |cons x xs=>
  simp only;split
  ·exactλ_ _ _ _=>rfl
  ·split
   ·intro v e2 e b;have e:x::xs=v::e2:=e;cases e;show p.words++(exec x _ n).2=[];rw[a x xs al b];unfold exec
    grind
   ·exactλ_ _ _ _=>rfl
def ZB (vs:a_)(bg:Nat->Option cN):Prop:=∀ q d,bg q=some d->∃ v,vs[q]?=some v/\d.code=0/\(d.words.length:Int)=v.v.hi
def hx (C:a9):Prop:=∀ (k:Nat) (l:ct),C.az[k]?=some l->l.pair.a1=[]
def ZJ (n:Nat):Nat->Nat
 | 0=>1
 | 1=>2
 | 2=>3
 | 3=>4
 | 4=>if n=1 then 4 else 5
 | 6=>if n=1 then 4 else 5
 | _=>0
structure ZC (n:Nat)(C:a9):Prop where
 batch:C.batch=none
 quiet:hx C
 inc:C.inc=1
 live:C.alive=true
 az:C.az.length=n
 nb:∀ (k:Nat) (l:ct),C.az[k]?=some l->uM l.pair
end
section
open dF
def rV:Nat->Nat
 | 0=>106
 | 1=>70
 | 2=>65
 | 3=>13
 | 8=>700
 | _=>0
def cost (vs:a_):Nat:=(vs.map λv=>v.v.pieces.length).sum
theorem my {k:Nat}:∀ {vs:a_},(∀ v ∈ vs,v.v.count.toNat<=k)->cost vs<=vs.length*k
 | [],_=>by simp[cost]
 |v::vs,h=>by
  have a:=my λu hu=>h u (fG _ hu)
  have b:=h v fR;have c:v.v.pieces.length<=v.v.count.toNat:=tm _ _ _
  grind[cost,List.length_cons,Nat.succ_mul]
section
variable {E:Env}{i:Nat}{j:cJ}
theorem Oe (au:q4 E)(h:eB E i j):cost (nX j)<=555:=by
 have d:=pq j.seq j.writes;have c:=h.ei;have a:cost (nX j)<=(nX j).length*111:=my λv al=>by rw[h.Bm]at al;obtain⟨m,_,rfl⟩:=cW.1 al;show((fW j.seq j.writes).length:Int).toNat<=111;omega
 have b:(nX j).length=E.n:=by rw[h.Bm];simp
 have:=au.n
 grind
theorem Of (au:q4 E)(h:eB E i j):cost (nY j)<=5:=by
 have a:cost (nY j)<=(nY j).length*1:=my λv al=>by rw[h.BK]at al;obtain⟨m,_,rfl⟩:=cW.1 al;exact db _
 have b:(nY j).length=E.n:=by rw[h.BK];simp
 have:=au.n;omega
theorem Og (au:q4 E)(h:eB E i j):cost (dL j)<=36:=by
 have b:cost (dL j)<=(dL j).length*1:=my λv al=>by
  obtain⟨q,a⟩:=ez.1 al;rcases QR h au.n.1 a with⟨p,_,_,rfl⟩ | ⟨s,_,rfl⟩
  ·exact db _
  ·exact db _
 have c:(dL j).length=j.writes.length+j.reads.length:=by grind[dL]
 have:=h.ei;have:=h.yO;omega
theorem Eu (au:q4 E)(h:eB E i j):cost (iu j)<=13:=by
 have k:=h.ei;have c:∀ l:List aN,(∀ p ∈ l,p ∈ j.writes)->cost (l.map (fo 0))<=l.length:=λl a=>by
  induction l with
  |nil=>simp[cost]
  |cons p l f=>
   have:=f λq e=>a q (fG _ e)
   unfold cost at this ⊢;simp only[iI,pO,h3];have b:=h.pl (a p fR);have:(fo 0 p).v.pieces=[(p.bt*8,8)]:=pk (v:=(fo 0 p).v) (by show(1:Int)<=8;omega) (by show p.bt*8 % 8+8<=8;omega) (by show 0<=p.bt*8;omega)
   grind
 have d:=c j.writes λp b=>b
 rw[h.HV au.n.1];unfold cost at d ⊢;simp only[iI,pO];have g:=h.i6;have:(o9 i j.seq 0).v.pieces=[(32+(i:Int),1)]:=pk (v:=(o9 i j.seq 0).v) (by show(1:Int)<=1;omega) (by show(32+(i:Int)) % 8+1<=8;omega) (by show 0<=32+(i:Int);omega)
 grind
theorem pt (a b:a_):cost (a++b)=cost a+cost b:=by simp[cost]
theorem Oh (au:q4 E)(h:eB E i j):cost (q7 j)<=52:=by
 have o:=h.ei;have g:=h.i6;have e:∀ (m:Nat) (l:List aN),(∀ p ∈ l,p ∈ j.writes)->cost (l.map (fo m))<=l.length:=λm l b=>by
  induction l with
  |nil=>simp[cost]
  |cons p l c=>
   have:=c λq f=>b q (fG _ f)
   unfold cost at this ⊢;simp only[iI,pO,h3];have r:=h.pl (b p fR);have:(fo m p).v.pieces=[(p.bt*8,8)]:=pk (v:=(fo m p).v) (by show(1:Int)<=8;omega) (by show p.bt*8 % 8+8<=8;omega) (by show 0<=p.bt*8;omega)
   grind
 have d:∀ m,cost [o9 i j.seq m]=1:=λm=>by
  have:(o9 i j.seq m).v.pieces=[(32+(i:Int),1)]:=pk (v:=(o9 i j.seq m).v) (by show(1:Int)<=1;omega) (by show(32+(i:Int)) % 8+1<=8;omega) (by show 0<=32+(i:Int);omega)
  grind[cost]
 have a:∀ k:Nat,cost ((List.range k).map λm=>j.writes.map (fo (m+1))++[o9 i j.seq (m+1)]).flatten<=k*13:=λk=>by
  induction k with
  |zero=>simp[cost]
  |succ k c=>
   rw[qP,kY,Ka,pt];simp only[iI,ur,lD,List.flatten_nil,kV]
   grind[pt]
 rw[h.HL];have:=a (E.n-1);have:=au.n;omega
variable (au:q4 E)(h:eB E i j)
include au h
end
end
section
open dF
theorem Pc {α:Type}{l:List α}{i:Nat}{a:α}(h:l[i]?=some a):l.set i a=l:=by
 apply i_
 grind
def iB (F:ay)(i:Nat)(C:a9):ay:={F with aF:=F.aF.set i C}
theorem F5 {F:ay}{i:Nat}{C:a9}(a:F.aF[i]?=some C)(c:C.alive=true)(hw:C.waiting=0):F.take (i:Int)=(C.batch,iB F i {C with batch:=none}):=by
 unfold ay.take;rw[g1,a];simp only;rw[aQ (by grind)];cases b:C.batch with
 |none=>
  have e:({C with batch:=none}:a9)=C:=by rw[<-b]
  simp only;rw[e];unfold iB;rw[Pc a]
 |some ds=>simp only;rw[aQ (by omega)];rfl
theorem qe {n L:Nat}{N:Int}(a:(n:Int)=N)(b:n<=5):∀ {vs:a_},(∀ v ∈ vs,e9 n L v)->hr N L vs=0
 | [],_=>rfl
 |v::vs,h=>by unfold hr;rw[aQ (by rw[(h v fR).valid N (by omega) (by omega)];simp)];exact qe a b λu hu=>h u (fG _ hu)
theorem QS {F:ay}{i n L:Nat}{C:a9}{vs:a_}(a:F.aF[i]?=some C)(d:C.alive=true)(f:C.batch=none)(al:vs≠[])(h:vs.length<=1024)(j:F.nodes.length=n)(b:n<=5)(c:F.lines=L)(g:∀ v ∈ vs,e9 n L v):F.post (i:Int) vs=(0,iB F i (C.j4 vs)):=by
 unfold ay.post;rw[g1,a];simp only;rw[aQ (by grind),aQ (by grind),aQ (λe=>al (oL.1 e)),aQ (by omega),aQ]
 ·rfl
 grind[qe]
def fy {cv:Conv}(t:bK cv)(C:a9):a3:=match C.batch with
 |none=>t.a2
 |some ds=>t.a2++[ds]
theorem F6 {cv:Conv}(t:bK cv)(C:a9):t.rC C.batch={t with a2:=fy t C}:=by unfold fy bK.rC;cases C.batch<;>rfl
theorem Du {cv:Conv}{F:ay}{i n L:Nat}{C:a9}{t:bK cv}(c:F.aF[i]?=some C)(d:C.alive=true)(hw:C.waiting=0)(e:t.aL=(i:Int))(r:t.en=false)(j:(fy t C).length<=200){vs:a_}{o:cv.O}(q:cv.next t.bp (fy t C)=(vs,o,false))(al:vs≠[])(k:vs.length<=1024)(l:F.nodes.length=n)(b:n<=5)(f:F.lines=L)(h:∀ v ∈ vs,e9 n L v) :
  br F t=(iB F i (({C with batch:=none}:a9).j4 vs),{t with a2:=fy t C,en:=false,out:=o}):=by
 have g:F.alive t.aL=true:=by grind[ay.alive,g1]
 have p:F.waiting t.aL=0:=by grind[ay.waiting,g1]
 unfold br;rw[aQ (by grind),e,F5 c d hw];simp only;rw[F6];unfold gG;simp only;rw[aQ (by omega),q];simp only;rw[aQ (by simp),e];have a:(iB F i {C with batch:=none}).aF[i]?=some {C with batch:=none}:=kX (cS c);rw[QS (F:=iB F i {C with batch:=none}) a d rfl al k l b f h];rw[aQ (by simp)]
 grind[bK.told,iB,List.set_set]
theorem Dv {cv:Conv}{F:ay}{i:Nat}{C:a9}{t:bK cv}(a:F.aF[i]?=some C)(b:C.alive=true)(hw:C.waiting=0)(d:t.aL=(i:Int))(h:t.en=false)(e:(fy t C).length<=200){o:cv.O}(g:cv.next t.bp (fy t C)=([],o,true)) :
  br F t=(iB F i {C with batch:=none},{t with a2:=fy t C,en:=true,out:=o}):=by
 have c:F.alive t.aL=true:=by grind[ay.alive,g1]
 have f:F.waiting t.aL=0:=by grind[ay.waiting,g1]
 unfold br;rw[aQ (by grind),d,F5 a b hw];simp only;rw[F6];unfold gG;simp only;rw[aQ (by omega),g];simp only;rw[bh trivial]
 grind[bK.told]
theorem QT {C:a9}{k:Nat}{v:bc}(he:∀ (m:Nat) (l:ct),C.az[m]?=some l->l.pair.b4=0)(h:v.node.toNat<C.az.length):jk (C.fe k v)=jk C+v.v.pieces.length/\∀ (m:Nat) (l:ct),(C.fe k v).az[m]?=some l->l.pair.b4=0:=by
 have c:∀ m,(C.fe k v).az[m]?=(C.az[m]?).map λl=>if v.node.toNat=m then(⟨{l.pair with a1:=l.pair.a1++[v]},l.bG++[k]⟩:ct)else l:=λm=>by
  grind[a9.fe]
 obtain⟨g,f⟩:∃ l,C.az[v.node.toNat]?=some l:=⟨_,b2 h⟩;have d:(C.fe k v).az.map jl=(C.az.map jl).set v.node.toNat (jl g+v.v.pieces.length):=by
  apply i_;intro m;rw[fQ,c];by_cases e:v.node.toNat=m
  ·subst e;rw[kX (by grind),f];simp only[se,if_true]
   grind[jl]
  grind
 refine⟨?_,λm l hm=>?_⟩
 ·unfold jk;rw[d];have:=Av (l:=C.az.map jl) (i:=v.node.toNat) (a:=jl g) (b:=jl g+v.v.pieces.length) (by grind);omega
 grind
theorem Ev:∀ (vs:a_) {C:a9} {k:Nat},(∀ (m:Nat) (l:ct),C.az[m]?=some l->l.pair.b4=0)->(∀ v ∈ vs,v.node.toNat<C.az.length)->jk (C.fB k vs)=jk C+cost vs
 | [],C,k,he,a=>by simp[a9.fB,cost]
 |v::vs,C,k,he,a=>by
  obtain⟨c,b⟩:=QT (k:=k) he (a v fR);have d:(C.fe k v).az.length=C.az.length:=by simp[a9.fe]
  have:=Ev vs (k:=k+1) b (λu hu=>by grind);show jk ((C.fe k v).fB (k+1) vs)=_
  grind[cost]
theorem CL:∀ (vs:a_) (C:a9) (k:Nat),(C.fB k vs).az.length=C.az.length/\(C.fB k vs).inc=C.inc
 | [],C,k=>⟨rfl,rfl⟩
 |v::vs,C,k=>by obtain⟨a,b⟩:=CL vs (C.fe k v) (k+1);exact⟨a.trans (by simp[a9.fe]),b⟩
theorem wb {C:a9}(h:hx C):jk C=0:=by
 unfold jk;have:∀ ls:List ct,(∀ l ∈ ls,l.pair.a1=[])->(ls.map jl).sum=0:=λls=>by
  induction ls with
  |nil=>grind
  |cons l ls c=>
   grind[List.mem_cons_of_mem,jl,List.mem_cons_self]
 exact this C.az λl b=>by obtain⟨k,a⟩:=ez.1 b;exact h k l a
def eR (F:ay)(i:Nat):Nat:=match F.aF[i]? with
 |some C=>jk C
 |none=>0
end
section
open dF
theorem lY {α:Type}{l:List α}{i:Nat}{a:α}(h:l[i]?=some a):l.set i a=l:=by
 apply i_
 grind
structure Az (E:Env)(ns:List aD)(i j:Nat)(C:a9)(vs:a_)(bg:Nat->Option cN)(l:ct)(x:aD)(v:bc)(e2:a_)(q:Nat)(cx:c6):Prop where
 lane:C.az[j]?=some l
 node:ns[j]?=some x
 ia:l.pair.a1=v::e2
 pl:l.bG=q::cx
 at_:vs[q]?=some v
 nd:v.node.toNat=j
 bg:bg q=none
 pc:l.pair.aL=(i:Int)
 pi:l.pair.inc=1
 cg:gu l.pair
 nb:uM l.pair
def pS (E:Env)(C:a9)(ns:List aD):Prop:=∀ (k:Nat) (l:ct) (y:aD),C.az[k]?=some l->ns[k]?=some y->∀ i,i<(hk E).length->i<8*l.pair.b4->y.get (56+i)=(hk E).getD i 0
theorem yV {C:a9}{j:Nat}{l:ct}(h:C.az[j]?=some l)(p:cH)(d:Option cN):∃ l',(C.comes j l p d).az[j]?=some l'/\l'.pair=p:=by
 have a:=cS h;cases d with
 |none=>grind[a9.comes]
 |some d=>grind[a9.comes]
theorem pS.step {E:Env}{C:a9}{ns:List aD}(h:pS E C ns){j:Nat}{l:ct}{x gh:aD}(g:C.az[j]?=some l)(r:ns[j]?=some x){p:cH}{d:Option cN}(q:∀ i,i<(hk E).length->i<8*p.b4->gh.get (56+i)=(hk E).getD i 0):pS E (C.comes j l p d) (ns.set j gh):=by
 intro k l' y a b i f he;by_cases e:k=j
 ·subst e;obtain⟨l2,n,o⟩:=yV g p d
  grind
 ·rw[k8 e]at a;rw[jN (λc=>e c.symm)]at b;exact h k l' y a b i f he
theorem ld {bg:Nat->Option cN}{q q':Nat}{d a:cN}(h:fD bg q d q'=some a):(q'=q/\a=d)\/(q'≠q/\bg q'=some a):=by
 grind[tY,sE]
theorem wH {bg:Nat->Option cN}{q q':Nat}{d:cN}(h:fD bg q d q'=none):q'≠q/\bg q'=none:=by
 grind[tY,sE]
section
variable {E:Env}{A:bn}{g:fp}
theorem fg.no (h:fg E A g){q:Nat}{d:cN}(f:d.code≠0):fg E A ⟨g.aE,fD g.bg q d⟩:=by
 have key:∀ {q' a},fD g.bg q d q'=some a->a.code=0->g.bg q'=some a:=λ{q' a} c e=>by
  grind[ld]
 unfold fg at h ⊢;simp only;split at h
 ·grind
 ·grind[wH]
 ·grind
 ·exact⟨h.1,λq' v a c e b=>h.2 q' v a c (key e b) b⟩
 ·exact⟨h.1,h.2.1,λq' v a c e b=>h.2.2 q' v a c (key e b) b⟩
 ·exact h
 grind
theorem n0.add {vs:a_}{bg:Nat->Option cN}(h:n0 E A vs bg){q:Nat}{v:bc}(al:vs[q]?=some v){d:cN}(i:mZ E A v):n0 E A vs (fD bg q d):=λq' g a b c f=>by
 rcases ld c with⟨e,_⟩ | ⟨_,e⟩
 ·grind
 ·exact h q' g a b e f
theorem n4.add (h:n4 E A g){A':bn}(hm:dq E A A'){q:Nat}{v:bc}(al:(eb E g.aE)[q]?=some v){d:cN}(p:(d.code=0/\(d.words.length:Int)=v.v.hi)\/(d.code=5/\d.words=[]/\A'.c0 v.node.toNat=true)):n4 E A' ⟨g.aE,fD g.bg q d⟩:=λq' i k=>by
 rcases ld k with⟨n,o⟩ | ⟨_,e⟩
 ·grind
 ·obtain⟨l,j,f⟩:=h q' i e;refine⟨l,j,?_⟩;rcases f with f | ⟨a,b,c⟩
  ·grind
  ·exact .inr ⟨a,b,hm.c0 _ c⟩
theorem n4.mono (h:n4 E A g){A':bn}(hm:dq E A A'):n4 E A' g:=λq' e i=>by
 obtain⟨j,f,d⟩:=h q' e i;refine⟨j,f,?_⟩;rcases d with d | ⟨a,b,c⟩
 ·grind
 ·exact .inr ⟨a,b,hm.c0 _ c⟩
structure vc (E:Env)(A:bn)(g:fp)(ns:List aD)(j:Nat)(C:a9)(l:ct)(x:aD)(A':bn)(k7:fp):Prop where
 aE:k7.aE=g.aE
 rep:hQ E A' (ns.set j (l.pair.step x).2.1)
 law:e8 E A'
 ok:fg E A' k7
 res:n4 E A' k7
 s5:g8 (C.comes j l (l.pair.step x).1 (l.pair.step x).2.2) (eb E g.aE) k7.bg
 TD:g.aE=0->pS E (C.comes j l (l.pair.step x).1 (l.pair.step x).2.2) (ns.set j (l.pair.step x).2.1)
 gb:oY E A A'
 stay:A.c0 j=true->A'=A/\ns.set j (l.pair.step x).2.1=ns
 JB:(A'.dM,A'.c0)=(A.dM,A.c0)
theorem vc.dM {E:Env}{A:bn}{g:fp}{ns:List aD}{j:Nat}{C:a9}{l:ct}{x:aD}{A':bn}{a:fp}(h:vc E A g ns j C l x A' a):A'.dM=A.dM:=ey Prod.fst h.JB
theorem vc.c0 {E:Env}{A:bn}{g:fp}{ns:List aD}{j:Nat}{C:a9}{l:ct}{x:aD}{A':bn}{a:fp}(h:vc E A g ns j C l x A' a):A'.c0=A.c0:=ey Prod.snd h.JB
theorem wj {A':bn}(hm:dq E A A'){j:Nat}(a:j<E.n)(b:A.c0 j=false):oY E A A':=
 ⟨hm,λh=>(by have:=h j a;grind),λh=>(by have:=h j a;grind)⟩
theorem Ew:oY E A A:=⟨dq.refl E A,λ_ h=>h,λ_ _ p _ h=>h⟩
theorem AT (au:b8 E){aE q:Nat}{v:bc}(h:(eb E aE)[q]?=some v):e9 E.n E.L v/\v.v.Kind≠1:=by
 have b:=au.e.n;have c:=au.e.L;have d:=au.k2
 match aE,h with
 | 0,h=>simp only[eb,fQ]at h;obtain⟨m,hm,rfl⟩:=lC.1 h;have:=gS.1 (b9 hm);exact⟨oS b.2 this (by omega) (by omega) (by omega) (by omega) (by grind),by show(2:Int)≠1;omega⟩
 | 1,h=>simp only[eb,fQ]at h;obtain⟨p,a,rfl⟩:=lC.1 h;have f:=au.pl (b9 a);exact⟨lo b.2 (by omega) (by omega) (by omega) (by omega),by show(3:Int)≠1;omega⟩
 | 2,h=>simp only[eb,fQ]at h;obtain⟨m,hm,rfl⟩:=lC.1 h;have:=gS.1 (b9 hm);exact⟨oS b.2 this (by omega) (by omega) (by simp) (by simp) (by grind),by show(2:Int)≠1;omega⟩
 | 3,h=>
  obtain⟨m,hm,_,⟨p,a,rfl⟩ | ⟨rfl,_⟩⟩:=xx h
  ·exact⟨su au hm a,by show(2:Int)≠1;omega⟩
  ·exact⟨sv au hm,by show(2:Int)≠1;omega⟩
 |n+4,h=>
  obtain⟨_,⟨_,rfl⟩ | ⟨_,p,a,rfl⟩⟩:=xy (show(gI E (bD E))[q]?=some v from h)
  ·exact⟨sv au (by omega),by show(2:Int)≠1;omega⟩
  ·exact⟨su au (by omega) a,by show(2:Int)≠1;omega⟩
theorem Hy (au:b8 E){ns:List aD}{j:Nat}{C:a9}{l:ct}{x:aD}{v:bc}{e2:a_}{q:Nat}{cx:c6}(O:hQ E A ns)(U:e8 E A)(z:fg E A g)(V:n4 E A g)(b0:g.aE<=4)(Z:g8 C (eb E g.aE) g.bg)(b:Az E ns 0 j C (eb E g.aE) g.bg l x v e2 q cx)(Y:g.aE=0->pS E C ns) :
  ∃ A' bx,vc E A g ns j C l x A' bx:=by
 obtain⟨aO,aV⟩:=AT au b.at_;have bT:=au.e.n;have r:=O.mem j x b.node;have B:j<E.n:=by have:=cS b.node;rw[O.len]at this;grind
 have s:=AJ r.aT bT.2 aO (p:=l.pair) (c:=0) b.pc b.pi (by omega);rw[aQ (λe=>aV e.2)]at s;have b3:=r.aT.len;have bP:=au.jG;have fin:∀ {d:cN},(l.pair.step x).1=l.pair.done->(l.pair.step x).2.2=some d->g8 (C.comes j l (l.pair.step x).1 (l.pair.step x).2.2) (eb E g.aE) (fD g.bg q d):=λ{d} t u=>by rw[t,u];exact Z.done b.lane b.ia (by show l.pair.a1.tail=e2;rw[b.ia];rfl) b.pl d
 have D:(l.pair.step x).1=l.pair.done->g.aE=0->pS E (C.comes j l (l.pair.step x).1 (l.pair.step x).2.2) (ns.set j (l.pair.step x).2.1):=λt u=>(Y u).step b.lane b.node λi bM he=>by rw[t]at he;exact cp he (by show¬ i<8*0;omega)
 cases F:A.c0 j with
 |true=>
  rw[bh ⟨F,rfl⟩]at s;have f:=AK b.ia (x:=x) (by grind);rw[s]at f;have t:(l.pair.step x).1=l.pair.done:=by rw[f]
  have u:(l.pair.step x).2.1=x:=by rw[f]
  have N:(l.pair.step x).2.2=some ⟨5,[]⟩:=by rw[f]
  refine⟨A,⟨g.aE,fD g.bg q ⟨5,[]⟩⟩,rfl,by rw[u,lY b.node];exact O,U,z.no (by simp),V.add (dq.refl E A) b.at_ (.inr ⟨rfl,rfl,by rw[b.nd];grind⟩),fin t N,D t,Ew,λ_=>⟨rfl,by rw[u,lY b.node]⟩,rfl⟩
 |false=>
  rw[aQ (λe=>by grind)]at s;have bq:¬ iL E A:=λh=>by have:=h j B;grind
  have stay:A.c0 j=true->∀ {P:Prop},P:=λe=>by grind
  have M:∀ (q':Nat) (S:bc),q'<q->(eb E g.aE)[q']?=some S->S.node.toNat=j->∃ d,g.bg q'=some d/\d.code=0:=λq' S t u N=>by
   obtain⟨d,aH⟩:=Z.before b.lane b.pl t u N;obtain⟨v2,T,X⟩:=V q' d aH
   grind
  have one:∀ {a:Nat} {ws:a7},v=ca j (a:Int) ws->a % 8=0->ws.length<=8->a+ws.length<=x.words.length->l.pair.step x=(l.pair.done,x.write a ws,some ⟨0,[]⟩):=λ{a ws} e bK bI bN=>by have J:=b.ia;rw[e]at J s;exact Hw b.cg J s bK (b.nb _ _ J rfl) bN bI
  obtain e | e | e | e | e:g.aE=0\/g.aE=1\/g.aE=2\/g.aE=3\/g.aE=4:=by omega
  ·
   unfold fg at z;rw[e]at z;obtain⟨H,bW,W,cb⟩:=z;have o:=b.at_;rw[e]at o
   simp only[eb,fQ]at o
   obtain⟨m,hm,rfl⟩:=lC.1 o
   have ad:m=q:=by
    grind
   subst ad;have ab:m=j:=by have:=b.nd;grind[ca]
   subst ab;have bo:=au.k2;have ao:=b.nb _ _ b.ia rfl;obtain⟨s1,s2,aG,br,b_⟩:=AW (a:=56) b.cg b.ia s (by omega) ao (by omega);have b2:=Y e m l x b.lane b.node;have K:∀ {A':bn},(∀ p ∈ bD E,A'.b6 m (bz p)=A.b6 m (bz p))->A'.cX m=A.cX m->A'.dO m=A.dO m->A'.c0 m=A.c0 m->(m=0->A'.dM=A.dM)->(A'.fH m=true->∀ k,k<(hk E).length->(l.pair.step x).2.1.get (56+k)=(hk E).getD k 0)->Mem E A' m (l.pair.step x).2.1:=λt u N bA bC bH=>
    r.low au aG (by omega) (by omega) t bA (.inl (by omega)) (by rw[aG.get _ (by omega),N];exact r.dO) (by rw[aG.get _ (by omega),u];exact r.cX) (λbl=>by rw[aG.get _ (by omega),bC bl];exact r.dM bl) bH
   rcases b_ with⟨t1,t2,t3⟩ | ⟨t1,t2,t3⟩
   ·refine⟨A,g,rfl,O.fD b.node (K (λ_ _=>rfl) rfl rfl rfl (λ_=>rfl) λbo k aB=>br k aB (.inr (r.fH bo k aB))) (λ_ _ _ h=>h),U,by grind[fg],V,?_,λ_=>(Y e).step b.lane b.node λi bM he=>?_,Ew,λe=>stay e,rfl⟩
    ·rw[t2,t3];exact Z.more b.lane rfl
    grind
   ·have ag:∀ k,k<(hk E).length->(l.pair.step x).2.1.get (56+k)=(hk E).getD k 0:=λk aB=>br k aB (by
     grind)
    have w:dq E A (A.qA m):=P3;refine⟨A.qA m,⟨g.aE,fD g.bg m ⟨0,[]⟩⟩,rfl,O.fD b.node (K (λ_ _=>rfl) rfl rfl rfl (λ_=>rfl) λ_=>ag) (λaf G y av=>av.same (λ_ _=>rfl) rfl rfl (by grind[bn.qA]) rfl (λ_=>rfl)),U.TB m,?_,V.add w b.at_ (.inl ⟨rfl,rfl⟩),fin t2 t3,D t2,wj w B F,λe=>stay e,rfl⟩;unfold fg;simp only[e];refine⟨H,bW,W,λaf G d t u=>?_⟩
    grind[ld,bn.qA]
  ·
   unfold fg at z;rw[e]at z;obtain⟨H,bW,W⟩:=z;have o:=b.at_;rw[e]at o
   simp only[eb,fQ]at o
   obtain⟨p,I,rfl⟩:=lC.1 o
   have aR:j=0:=by have:=b.nd;grind[c9]
   subst aR;have R:=b9 I;have bO:=au.pl R;have Q:=(W q p I).1 b.bg;obtain⟨aP,_⟩:=r.dR au R (by omega);have aP:=aP Q;have J:l.pair.a1=c9 0 ((bz p*8:Nat):Int) p.Head (dK p.Head 0)::e2:=by rw[b.ia,show p.bt*8=((bz p*8:Nat):Int) by omega]
   have f:=u1 (x:=x) b.cg J (by grind);rw[aP]at f;have ah:x.dr ((bz p*8:Nat):Int) p.Head (dK p.Head 0)={x with words:=x.words.set (bz p*8) (dK p.Head 0)}:=by
    unfold aD.dr
    grind
   rw[ah]at f;have w:dq E A (A.hj 0 (bz p) 1):=w2 λbm=>by omega
   refine⟨A.hj 0 (bz p) 1,⟨g.aE,fD g.bg q ⟨0,[p.Head]⟩⟩,rfl,by rw[f];exact O.fD b.node (r.Ul au R Q) (λaf G y av=>av.same (λp' _=>by grind[bn.hj]) rfl rfl rfl rfl (λ_=>rfl)),U.tv (by omega) (λe=>by omega) (λe=>by omega) (λe=>by omega) (λe=>by omega) (λe=>by omega),?_,V.add w b.at_ (.inl ⟨rfl,rfl⟩),fin (by rw[f]) (by rw[f]),D (by rw[f]),wj w B F,λe=>stay e,rfl⟩;unfold fg;simp only[e];refine⟨H,bW,λq' p' ae=>⟨λt=>?_,λd t u=>?_⟩⟩
   ·obtain ⟨T,X⟩:=wH t;have bX:bz p'≠bz p:=λbm=>by
     have:=au.inj (b9 ae) R bm;subst this;have bV:=au.bp.nodup;have i1:((bD E).map (·.bt))[q']?=some p'.bt:=by grind
     have i2:((bD E).map (·.bt))[q]?=some p'.bt:=by grind
     grind[List.getElem?_inj,cS]
    simp only[bn.hj]
    grind
   ·rcases ld t with⟨T,X⟩ | ⟨_,T⟩
    ·subst T X;rw[I]at ae;cases ae;exact⟨rfl,.inl (by simp[bn.hj])⟩
    grind[bn.hj]
  ·
   unfold fg at z;rw[e]at z;obtain⟨H,bW,W⟩:=z;have o:=b.at_;rw[e]at o
   simp only[eb,fQ]at o
   obtain⟨m,hm,rfl⟩:=lC.1 o
   have ad:m=q:=by
    grind
   subst ad;have ab:m=j:=by have:=b.nd;grind[ca]
   subst ab;have f:=one (a:=48) rfl (by omega) (by simp) (by grind);have Q:∀ p ∈ bD E,A.b6 0 (bz p)≠0:=λp I=>by
    by_cases aZ:ff E A
    ·grind
    ·have:∃ m,m<E.n/\A.cX m=true:=by
      refine Classical.byContradiction λcd=>aZ λm hm=>?_
      grind
     obtain⟨af,G,aX⟩:=this;exact(U.l2 af G aX).2 p I
   have w:dq E A (A.j9 m):=Fl;refine⟨A.j9 m,⟨g.aE,fD g.bg m ⟨0,[]⟩⟩,rfl,by rw[f];exact O.fD b.node (r.vL au) (λaf G y av=>av.same (λp' _=>rfl) (by grind[bn.j9]) rfl rfl rfl (λ_=>rfl)),U.vL H Q m,?_,V.add w b.at_ (.inl ⟨rfl,rfl⟩),fin (by rw[f]) (by rw[f]),D (by rw[f]),wj w B F,λe=>stay e,rfl⟩;unfold fg;simp only[e];refine⟨H,λa0=>?_,λaf G d t u=>?_⟩
   ·have:=a0 m B
    grind[bn.j9]
   grind[ld,bn.j9]
  ·
   unfold fg at z;rw[e]at z;obtain⟨H,bW⟩:=z;have o:=b.at_;rw[e]at o M;obtain⟨a,ws,A',r1,a8,a',ba,b7,bb,bj,L,bk,a5,b5⟩:=Ga au O U H (λp I=>I) o b.nd b.node (λq' S t u N=>by obtain⟨d,T,X⟩:=M q' S t u N;exact bW q' S d u T X) λp I=>.inl I
   have f:=one r1 a8 a' ba;refine⟨A',⟨g.aE,fD g.bg q ⟨0,[]⟩⟩,rfl,by grind,bb,?_,V.add L b.at_ (.inl ⟨rfl,by rw[r1];rfl⟩),fin (by rw[f]) (by rw[f]),D (by rw[f]),wj L B F,λe=>stay e,bk⟩;unfold fg;simp only[e];exact⟨L.am H,(bW.mono L).add o bj⟩
  ·
   unfold fg at z;rw[e]at z;obtain⟨H,bW,W⟩:=z;have o:=b.at_;rw[e]at o M;obtain⟨a,ws,A',cj,r1,a8,a',ba,b7,bb,bj,L,bk,a5⟩:=Gb au O U H bW (λp I=>I) o b.nd b.node (λq' S t u N=>by obtain⟨d,T,X⟩:=M q' S t u N;exact W q' S d u T X);have f:=one r1 a8 a' ba;refine⟨A',⟨g.aE,fD g.bg q ⟨0,[]⟩⟩,rfl,by grind,bb,?_,V.add L b.at_ (.inl ⟨rfl,by rw[r1];rfl⟩),fin (by rw[f]) (by rw[f]),D (by rw[f]),wj L B F,λe=>stay e,bk⟩;unfold fg;simp only[e];exact⟨L.am H,L.Bk bW,(W.mono L).add o bj⟩
end
end
end Go.Proofs.YtmkljjbioomepaaGreat
