import Derived.Test.YtmkljjbioomepaaGreatProg
import Derived.Test.YtmkljjbioomepaaGreatb03
import Derived.Test.YtmkljjbioomepaaGreatb15
import Derived.Test.YtmkljjbioomepaaGreatb16
set_option linter.all false
set_option maxHeartbeats 4000000
set_option maxRecDepth 100000
namespace Go.Proofs.YtmkljjbioomepaaGreat
open Go.Proofs.Tryz Go.bu
variable {K:an->Nat->Nat->aE} {M:a3} {a s:an} {c h i:Int} {cap m n sz:Nat} {r:c3} {u bE w w0:ak} {v:aG} {vs:List aW} {x:aW}
section
open IntKind
variable (w:ak) (R:cB) {s t:an} {a b c d:Nat} {i k:Int} {j:aq}
def xr (e:an) (a b:Nat) (c:an) (d f:Nat) (g h:Int) (j:aq):aq:=ag j 0 3 (ae e a b::ag j 3 14 (ae c d f::ab g::ab h::ag j 17 21 []))
def GD (c:an) (a b:Nat) (j:aq):aq:=ag j 0 3 (ae c a b::ag j 3 38 [])
theorem G3 (k:bY):bf prog f210 [k.val] R w=(aQ w k.cells.toArray 271 λe m=>hN m (af e 0) λr=>cm 167 #[r.val,ab 256] m λa j=>cond (a != 0) (R (a5) j) (bS j (af e 0) λb=>b5 j (af e 1) λc d f=>aQ j #[ah (u64.wrap b),ah (u64.wrap (d:Nat))] 30 λl n=>b5 n (af e 1) λg h i=>cv prog (c0 f210 [1,1,1,0,1,0,0]) (xr (bn l) 2 2 g h i (h:Nat) 0 (k.val::jp (af e 0)::a5::bb 2 (r.val::ab a::ad ((a:Int) != 0)::jp (af e 0)::ab b::ah (u64.wrap b)::jp (af e 1)::ae c d f::cX d::ah (u64.wrap (d:Nat))::ae (bn l) 2 2::jp (af e 1)::bb 21 []))) (aM 0 (aP f210 [1,1,1,1] R)) n)):=by kernel_rfl
theorem To (v:aq->aE):W prog (sb f210 [1,1,1,0,1,0,0]) (xr s a b t c d i k j) (aU v (aM 0 (aP f210 [1,1,1,1] R))) w=(cond (k<i) (bm t c k 9 λx=>hv w x λr=>aQ w #[ab 0,ah 0,ah 0,ah 0,ah 0,ah 0,ah 0,ah 0,ah 0] 73 λf y=>a' y (af f 0) 0 r.cells λq=>bS q (af f 0) λe=>dr q (af f 1) λh=>aQ q #[ah (u64.wrap e),ah h] 30 λu B=>c9 94 (ae s a b) (ae (bn u) 2 2) B λg l m A=>c9 94 (ae g l m) (ae (some (af f 2)) 7 7) A λn o p z=>v (xr n o p t c d i (i64.wrap (k+1)) (ag j 0 4 (jp (af f 0)::ag j 5 12 (ad (k<i)::jp x::r.val::ae s a b::jp (af f 0)::ab e::ah (u64.wrap e)::jp (af f 1)::ah h::ae (bn u) 2 2::ae g l m::ae g l m::jp (af f 2)::ae (some (af f 2)) 7 7::ae n o p::ab (i64.wrap (k+1))::ag j 33 5 [])))) z) (W prog (sb f210 [1,1,1,1]) (GD s a b (ag j 0 17 (ae t c d::ab i::ab k::ad (k<i)::ag j 18 20 []))) (bZ f210 R) w)):=by kernel_rfl
theorem Ux:W prog (sb f210 [1,1,1,1]) (GD s a b j) (bZ f210 R) w=(jq 239 #[ae s a b] w λc e=>aQ e #[ah c] 30 λh g=>c9 94 (ae s a b) (ae (bn h) 1 1) g λk d f i=>R (ae k d f) i):=by kernel_rfl
theorem Vn (e:aK):bf prog f211 [e.val,ab i] R w=(aQ w e.cells.toArray 73 λg d=>dr d (af g 1) λa=>ht 240 #[ah a,ab i] d λb c f=>R (.tuple #[ah b,ab c]) f):=by kernel_rfl
theorem Vb (i:aK):bf prog f244 [i.val] R w=(aQ w i.cells.toArray 73 λh e=>dr e (af h 1) λa=>ht 206 #[ah a] e λb c g=>cond (c != 0) (R (.tuple #[a5,ab c]) g) (aQ g #[ah b] 30 λj l=>c9 94 (ae (bn j) 1 1) (ae (some (af h 2)) 7 7) l λm d f k=>R (.tuple #[ae m d f,ab 0]) k)):=by kernel_rfl
end
section
open IntKind
variable (w:ak) (R:cB) {a b c d:Nat} {s t:an} {i k:Int} {A B:aS} {j:aq}
theorem R_ (h:aY) (i:aG):bf prog f212 [a_ a,h.val,i.val] R w=(aQ w h.cells.toArray 116 λo l=>aQ l i.cells.toArray 158 λj m=>aQ m #[ab 0,ab 0,ab 0,ab 0,ah 0,ah 0,a5,ah 0,ab 0] 158 λg p=>ct p λn f=>As f (af a 3) λd=>hc f (af o 0) λr=>Gr f (af j 0) λq=>eL 241 #[d.val,r.val,ad true,q.val] n λb k=>a' k (af g 0) 0 b.cells λe=>lR e (af g 0) λc=>e=e/\R c.val e):=by kernel_rfl
theorem Tb:bf prog f213 [a_ a,ae s b c,ab i] R w=(aQ w #[ab 0,ab 0] 171 λj q=>mD q (af a 7) λt=>js 116 #[.pointer t,ae s b c] q λn d f g r=>cond (!g) (a' r (af j 0) 0 [ab 0,ab 0] λp=>dV p (af j 0) λe=>p=p/\R (.tuple #[a5,e.val,ad false]) p) (cm 242 #[ae n d f] r λh u=>cond (h != 0) (a' u (af j 0) 0 [ab h,ab i] λm=>dV m (af j 0) λk=>m=m/\R (.tuple #[a5,k.val,ad false]) m) (a' u (af j 0) 0 [ab 0,ab 0] λo=>dV o (af j 0) λl=>o=o/\R (.tuple #[ae n d f,l.val,ad true]) o))):=by kernel_rfl
def wS (e i:aS) (k:an) (a b:Nat) (c:an) (d f:Nat) (g h:Int) (j:aq):aq:=.pointer (some e)::ag j 0 2 (.pointer (some i)::ag j 2 1 (ae k a b::ag j 3 8 (ae c d f::ab g::ab h::ag j 11 21 [])))
def FH (c:an) (a b:Nat) (j:aq):aq:=ag j 0 5 (ae c a b::ag j 5 32 [])
theorem Sq (e:aY):bf prog f217 [a_ a,e.val] R w=(aQ w e.cells.toArray 116 λg f=>b5 f (af a 6) λd b c=>cv prog (c0 f217 [1,1,0,1,0,0]) (wS (af a 0) (af g 0) none 0 0 d b c (b:Nat) 0 (e.val::undef::a5::bb 4 (jp (af a 0)::jp (af a 0)::jp (af a 0)::jp (af a 6)::bb 21 []))) (aM 0 (aP f217 [1,1,1] R)) f):=by kernel_rfl
theorem QW (y:aq->aE):W prog (sb f217 [1,1,0,1,0,0]) (wS A B s a b t c d i k j) (aU y (aM 0 (aP f217 [1,1,1] R))) w=(cond (k<i) (bm t c k 9 λa7=>hv w a7 λr=>aQ w #[ab 0,ah 0,ah 0,ah 0,ah 0,ah 0,ah 0,ah 0,ah 0] 73 λu a6=>a' a6 (af u 0) 0 r.cells λF=>hv F (af u 0) λC=>sE 244 #[C.val] F λf g l m L=>ct L λK h=>hc h B λE=>cN h (af u 0) λn=>cm 108 #[ab n] K λo D=>h D/\eL 212 #[.pointer (some A),E.val,.agg #[ab 2,ab 0,ab o,ab 0,ah 0,ah 0,ae f g l,ah 0,ab 0]] D λe G=>h G/\aQ G e.cells.toArray 158 λx H=>h H/\c9 125 (ae s a b) (ae (bn x) 1 1) H λv p q z=>h z/\y (wS A B v p q t c d i (i64.wrap (k+1)) (ag j 0 4 (jp (af u 0)::ae f g l::ab m::ag j 7 4 [ad (k<i),jp a7,r.val,.tuple #[ae f g l,ab m],C.val,.tuple #[ae f g l,ab m],ae f g l,ab m,ae s a b,jp A,E.val,jp (af u 0),ab n,ab o,ae f g l,.agg #[ab 2,ab 0,ab o,ab 0,ah 0,ah 0,ae f g l,ah 0,ab 0],e.val,ae (bn x) 1 1,ae v p q,ab (i64.wrap (k+1)),aF j 31]))) z) (W prog (sb f217 [1,1,1]) (FH s a b (jp A::aF j 0::aF j 1::jp B::ag j 2 9 (ae t c d::ab i::ab k::ad (k<i)::ag j 12 20 []))) (bZ f217 R) w)):=by kernel_rfl
theorem Ra:W prog (sb f217 [1,1,1]) (FH s a b j) (bZ f217 R) w=(R (ae s a b) w):=by kernel_rfl
theorem Sr (p:aY):bf prog f218 [a_ a,p.val] R w=(aQ w p.cells.toArray 116 λB x=>aQ x #[ab 0,ab 0,ab 0,ab 0,ah 0,ah 0,a5,ah 0,ab 0] 158 λm A=>ct A λv j=>hc j (af B 0) λr=>cN j (af a 0) λe=>cN j (af a 1) λb=>(cm 225 #[ab e] v λc u=>j u/\aQ u #[ah (u64.wrap b)] 30 λz q=>j q/\eL 212 #[a_ a,r.val,.agg #[ab 2,ab 0,ab c,ab 0,ah 0,ah 0,ae (bn z) 1 1,ah 0,ab 0]] q λf t=>j t/\a' t (af m 0) 0 f.cells λn=>lR n (af m 0) λg=>n=n/\R g.val n)/\aQ v #[ah (u64.wrap b)] 30 λy o=>j o/\cm 225 #[ab e] o λd s=>j s/\eL 212 #[a_ a,r.val,.agg #[ab 2,ab 0,ab d,ab 0,ah 0,ah 0,ae (bn y) 1 1,ah 0,ab 0]] s λi h=>j h/\a' h (af m 0) 0 i.cells λk=>lR k (af m 0) λl=>k=k/\R l.val k):=by kernel_rfl
def wN (e i:aS) (k:an) (a b:Nat) (c:an) (d f:Nat) (g h:Int) (j:aq):aq:=.pointer (some e)::ag j 0 2 (.pointer (some i)::ag j 2 1 (ae k a b::ag j 3 7 (ae c d f::ab g::ab h::ag j 10 12 [])))
def FG (c:an) (a b:Nat) (j:aq):aq:=ag j 0 5 (ae c a b::ag j 5 22 [])
theorem rg (e:aG):bf prog f237 [a_ a,e.val] R w=(aQ w e.cells.toArray 158 λg f=>b5 f (af a 4) λd b c=>cv prog (c0 f237 [1,1,0,1,0,0]) (wN (af a 0) (af g 0) none 0 0 d b c (b:Nat) 0 (e.val::undef::a5::bb 2 (jp (af a 0)::jp (af a 0)::jp (af a 0)::jp (af a 3)::jp (af a 4)::bb 12 []))) (aM 0 (aP f237 [1,1,1] R)) f):=by kernel_rfl
theorem Rl (p:aq->aE):W prog (sb f237 [1,1,0,1,0,0]) (wN A B s a b t c d i k j) (aU p (aM 0 (aP f237 [1,1,1] R))) w=(cond (k<i) (bm t c k 3 λq=>im w q λr=>aQ w #[ab 0,ab 0,ad false] 116 λh x=>a' x (af h 0) 0 r.cells λg=>im g (af h 0) λu=>lR g B λo=>eL 212 #[.pointer (some A),u.val,o.val] g λl z=>aQ z l.cells.toArray 158 λn y=>c9 125 (ae s a b) (ae (bn n) 1 1) y λf e m v=>p (wN A B f e m t c d i (i64.wrap (k+1)) (ag j 0 4 (jp (af h 0)::ag j 5 5 [ad (k<i),jp q,r.val,ae s a b,jp A,u.val,o.val,l.val,ae (bn n) 1 1,ae f e m,ab (i64.wrap (k+1)),aF j 21]))) v) (W prog (sb f237 [1,1,1]) (FG s a b (jp A::aF j 0::aF j 1::jp B::ag j 2 8 (ae t c d::ab i::ab k::ad (k<i)::ag j 11 11 []))) (bZ f237 R) w)):=by kernel_rfl
theorem Rt:W prog (sb f237 [1,1,1]) (FG s a b j) (bZ f237 R) w=(R (ae s a b) w):=by kernel_rfl
end
section
theorem nA {k:Nat}:¬ aL none k:=λh=>by obtain ⟨o,a⟩:=h;cases a
theorem CV {α:Type} {cells:α->ax} (h:∀ x,(cells x).length=sz) (l:List α):(l.map cells).flatten.length=l.length * sz:=by rw [mj (sz:=sz),ft];intro r a;obtain ⟨x,_,rfl⟩:=cT.1 a;exact h x
theorem rb {α:Type} {cells:α->ax} {S e:TypeId} {inf:TypeInfo} {z:a2} (B:∀ x,(cells x).length=sz) (E:∀ x,∀ v ∈ cells x,single v=true)
  (R:prog.underlying S=some (.slice e)) (M:prog.info? e=some inf) (au:inf.zero=some z) (G:z.cells.size=inf.size) (C:inf.size=sz) (J:0<sz) (A:inf.bytes<=1000)
  {l:List α} (q:a0 u e sz a n cap (l.map cells).flatten) {c:Nat} {l2:List α} (Q:bh u s (l2.map cells).flatten) (hm:m=l2.length) (N:n+m<=1000000)
  (p:∀ ap b i,a0 i e sz ap (n+m) b ((l++l2).map cells).flatten->ao (aL a) u i->(∀ k,aL ap k->aL a k\/u.heap.size<=k)->K ap (n+m) b i) :
  ∃ (ap:an) (f d:Nat),∃ i,(Builtin.append_ #[S,S] S #[(.slice a n cap),(.slice s m c)]).run prog u=.ok (.slice ap f d) i/\K ap f d i:=by
 subst C;have L:(n+m) * inf.bytes<=1000000 * 1000:=p5 N A;have h:∀ x ∈ (l2.map cells).flatten,single x=true:=by intro x F;obtain ⟨r,O,F⟩:=oW.1 F;obtain ⟨y,_,rfl⟩:=cT.1 O;exact E y x F
 obtain ⟨ap,b,H,j,g,D,w⟩:=a0.append (P:=prog) (t:=S) (ty:=S) R M au G J q (s:=s) (m:=m) (c:=c) (news:=(l2.map cells).flatten) (by rw [CV B,hm]) Q h (by omega) (by omega);have I:(l.map cells).flatten++(l2.map cells).flatten=((l++l2).map cells).flatten:=by simp
 rw [I] at g;refine ⟨ap,n+m,b,H,j,p ap b H g D λk p=>?_⟩;rcases w with e | e
 ·exact .inl (e▸p)
 ·obtain ⟨o,q⟩:=p;rw [e] at q;simp at q;exact .inr (by omega)
def tO (x:Int):ax:=[.int .u64 x]
theorem vF (l:bd):(l.map tO).flatten=us l:=by
 induction l with
 |nil=>rfl
 |cons x l a=>simp [tO,us] at a ⊢;exact a
theorem tE {l:bd} (q:a0 u 30 1 a n cap (us l)) {c:Nat} {l2:bd} (r:bh u s (us l2)) (hm:m=l2.length) (p:n+m<=1000000)
  (o:∀ ap e f,a0 f 30 1 ap (n+m) e (us (l++l2))->ao (aL a) u f->(∀ k,aL ap k->aL a k\/u.heap.size<=k)->K ap (n+m) e f) :
  ∃ (ap:an) (d b:Nat),∃ f,(Builtin.append_ #[94,94] 94 #[(.slice a n cap),(.slice s m c)]).run prog u=.ok (.slice ap d b) f/\K ap d b f:=by
 obtain ⟨inf,j,au,g,h⟩:=fO (T:=30) (z:=.int .u64 0) (n:=1) (m:=8) (by kernel_rfl);refine rb (cells:=tO) (sz:=1) (λ_=>rfl) (λx v al=>by simp [tO] at al;subst al;rfl) Tryz.underlying94 j au (by rw [g];rfl) g (by decide) (by rw [h];decide) (l:=l) (by rw [vF];exact q) (l2:=l2) (by rw [vF];exact r) hm p λap e f i=>?_
 rw [vF] at i;exact o ap e f i
def eK (h c:Int):Int:=jg .u64 h (c+1)
def ln (h:Int):Int:=ie .u64 (db .u64 h 8+1) 8
def fQ (s:Int):Int:=jg .u64 (ie .u64 s 2) 2
def qO (n:Int):Int:=2 * n+1
theorem yG (x:Int):ca (IntKind.u64.wrap x):=by unfold ca;simp only [IntKind.wrap,IntKind.bits,IntKind.signed];simp;omega
theorem Du (h c:Int):ca (eK h c):=yG _
theorem Md (h:Int):ca (ln h):=yG _
theorem yX (s:Int):ca (fQ s):=yG _
theorem Nv (w:ak) (hu:lV h=true) (b:0<=c/\c<6):a9 240 [.int .u64 h,.int .i64 c] w λv w'=>v=.tuple #[.int .u64 (eK h c),.int .i64 0]/\w'=w:=by
 refine bc Tryz.func240 ?_;rw [HI];refine aC (I3 w c) ?_;rintro v w1 ⟨rfl,rfl⟩;refine ⟨_,rfl,ev (λa=>absurd (of_decide_eq_false a) (by omega)) (λ_=>?_)⟩
 refine aC (wa w1 h) ?_;rintro v d ⟨rfl,rfl⟩;refine ⟨_,rfl,ev (λa=>by rw [hu] at a;cases a) (λ_=>⟨?_,rfl⟩)⟩
 rw [bC (x:=c+1) (by omega) (by omega),kh (x:=c+1) (by omega) (by omega)];rfl
theorem zf (w:ak) {s:Int} (h:1<=s/\s<1073741824):a9 214 [.int .i64 s] w λv w'=>v=.tuple #[.int .u64 (fQ s),.int .i64 0]/\w'=w:=by
 refine bc Tryz.func214 ?_;rw [AD];refine aC (sT w s 1 1073741823) ?_;rintro v w1 ⟨rfl,rfl⟩;refine ⟨_,rfl,ev (λa=>absurd (of_decide_eq_false a) (by omega)) (λ_=>⟨?_,rfl⟩)⟩
 rw [kh (x:=s) (by omega) (by omega)];rfl
theorem Me (w:ak) (hu:ca h) (b:pp h=true):a9 206 [.int .u64 h] w λv w'=>v=.tuple #[.int .u64 (ln h),.int .i64 0]/\w'=w:=by
 refine bc Tryz.func206 ?_;rw [Hl];refine aC (DJ w h) ?_;rintro v w1 ⟨rfl,rfl⟩;refine ⟨_,_,rfl,?_⟩;refine aC (A0 w1 _ 1 281474976710654) ?_;rintro v d ⟨rfl,rfl⟩;have c:=My hu;unfold pp at b;refine ⟨_,rfl,ev (λa=>by rw [b] at a;cases a) (λ_=>⟨?_,rfl⟩)⟩
 rw [jO (x:=db .u64 h 8+1) (by omega) (by omega)];rfl
theorem PG (w:ak) {n:Int} (a:0<=n) (b:n<16):a9 103 [.int .i64 n,.bool true] w λv w'=>v=.tuple #[.int .u64 (qO n),.int .i64 0]/\w'=w:=by refine bc Tryz.func103 ?_;rw [Ho];refine aC (sT w n 0 15) ?_;rintro v w1 ⟨rfl,rfl⟩;refine ⟨_,rfl,cV (by simp;omega) (ek rfl ⟨?_,rfl⟩)⟩;rw [jO (x:=n) (by omega) (by omega),jO (x:=n * 2) (by omega) (by omega),jO (by omega) (by omega)];unfold qO;rw [Int.mul_comm]
def e' (c:Int):Int:=48+120 * c
theorem A1 (w:ak) (a:0<=c/\c<6) (b:0<=i/\i<1000):a9 238 [.int .i64 c,.int .i64 i] w λv w'=>v=.int .i64 (e' c+i)/\w'=w:=by
 refine bc Tryz.func238 ?_;rw [U6];refine a8 (λh=>absurd h (by omega)) (λ_=>a8 (λh=>absurd h (by omega)) (λ_=>⟨?_,rfl⟩))
 unfold e';rw [bC (x:=c * 15) (by omega) (by omega),bC (x:=6+c * 15) (by omega) (by omega),bC (x:=(6+c * 15) * 8) (by omega) (by omega),bC (x:=(6+c * 15) * 8+i) (by omega) (by omega)];congr 1;omega
theorem Dv (w:ak) (a:0<=c/\c<6):a9 209 [.int .i64 c] w λv w'=>v=.int .i64 (e' c+8)/\w'=w:=by refine bc Tryz.func209 ?_;rw [VL];refine aC (A1 w a (i:=8) (by omega)) ?_;rintro v w1 ⟨rfl,rfl⟩;exact ⟨_,rfl,rfl,rfl⟩
theorem yY (w:ak) (a:0<=c/\c<6):a9 215 [.int .i64 c] w λv w'=>v=.int .i64 (e' c)/\w'=w:=by refine bc Tryz.func215 ?_;rw [VM];refine aC (A1 w a (i:=0) (by omega)) ?_;rintro v w1 ⟨rfl,rfl⟩;exact ⟨_,rfl,by rw [Int.add_zero],rfl⟩
section
attribute [local irreducible] ij iX mT
theorem vG (w:ak) (g:0<=i/\i<6):a9 225 [.int .i64 i] w λv w'=>v=.int .i64 (32+i)/\ai w w':=by
 refine bc Tryz.func225 ?_;rw [Vw];refine aC (hR _ _ _) ?_;rintro v w1 ⟨cA,d,rfl,a,b,e⟩;have c:=yd;refine ⟨_,rfl,?_⟩;have f:(#[]++#[.int .i64 i]++#[ptr cA,ptr d]:Array a2)=#[.int .i64 i,ptr cA,ptr d]:=by simp
 refine q2 c f ?_;refine aC (x0 w1 a b (by omega) (by omega) i) ?_;rintro v h ⟨rfl,rfl⟩;refine ⟨_,rfl,?_,e⟩;unfold nS;rw [if_neg (by omega),show (4:Int) * 8+i=32+i by omega]
end
theorem yH (w:ak) (p:aK) (hu:lV p.Head=true) (d:0<=c/\c<6):a9 211 [p.val,.int .i64 c] w λv w'=>v=.tuple #[.int .u64 (eK p.Head c),.int .i64 0]/\ai w w':=by refine bc Tryz.func211 ?_;rw [Vn];rintro b1 w1 b a;obtain ⟨au,e⟩:=bl b a;have au:av w1 b1 p.cells et:=au;clear a;refine ⟨_,au.cell (i:=1) rfl,?_⟩;refine aC (Nv w1 hu d) ?_;rintro v f ⟨rfl,rfl⟩;exact ⟨_,_,rfl,rfl,e⟩
def hA (p:aK):bd:=[p.vJ,p.Ci,p.Cj,p.Ck,p.Cl,p.Cm,p.Cn]
def ix (p:aK):bd:=ln p.Head::hA p
theorem Cf (w:ak) (p:aK) (z:ca p.Head) (B:pp p.Head=true):a9 244 [p.val] w λv w'=>∃ (a:an) (cap:Nat),v=.tuple #[.slice a 8 cap,.int .i64 0]/\ai w w'/\a0 w' 30 1 a 8 cap (us (ix p))/\∀ k,aL a k->w.heap.size<=k:=by
 refine bc Tryz.func244 ?_;rw [Vb];rintro b1 w1 n h;obtain ⟨au,g⟩:=bl n h;have au:av w1 b1 p.cells et:=au;clear h;refine ⟨_,au.cell (i:=1) rfl,?_⟩;refine aC (Me w1 z B) ?_;rintro v E ⟨rfl,rfl⟩;refine ⟨_,_,rfl,dw (λe=>absurd rfl e) (λ_=>?_)⟩
 rintro aA x q j;obtain ⟨c,b⟩:=bl q j;have c:av x aA (us [ln p.Head]) 30:=c;clear j;have C:=g.size;have D:=b.size;have t:a0 x 30 1 (some ⟨aA,0,none⟩) 1 1 (us [ln p.Head]):=⟨rfl,.inr ⟨aA,_,rfl,c,by omega,by decide,rfl,rfl⟩⟩;refine tE t (l2:=hA p) (m:=7) (fm (ai.aj b au) rfl) rfl (by omega) λap d F y s l=>?_
 have u:w.heap.size<=aA:=by omega
 have f:∀ k,aL (some ⟨aA,0,none⟩) k->w.heap.size<=k:=λk r=>by obtain ⟨o,t⟩:=r;simp at t <;> omega
 refine ⟨ap,d,rfl,(g.new b).trans s λk A e=>by have:=f k e;omega,y,λk r=>?_⟩;rcases l k r with e | e
 ·exact f k e
 ·omega
def nD (seq:Int) (ch:List aK):bd:=seq::(ch.length:Int)::(ch.map λp=>p.bo::p.Head::hA p).flatten
def fi (seq:Int) (ch:List aK):bd:=nD seq ch++[sd (nD seq ch)]
theorem I_ (ch:List aK):(ch.map λp=>p.bo::p.Head::hA p).flatten.length=9 * ch.length:=by
 induction ch with
 |nil=>rfl
 |cons p ch a=>rw [f9,gV,dI,a];simp [hA];omega
theorem yI (seq:Int) (ch:List aK):(nD seq ch).length=2+9 * ch.length:=by unfold nD;simp only [g7,I_];omega
theorem pA (seq:Int) (ch:List aK):(fi seq ch).length=3+9 * ch.length:=by unfold fi;rw [dI,yI];simp;omega
def oI (seq:Int) (ch:List aK) (i:Nat):bd:=seq::(ch.length:Int)::((ch.take i).map λp=>p.bo::p.Head::hA p).flatten
theorem yJ {r:bY} {W:List aK} (h:fh w r.eu r.dO W) (al:fy r.Seq W 256=0) (Wn:1<=r.Seq/\r.Seq<1073741824) (eW:W.length<=12) (Wh:∀ p ∈ W,96<=p.bo/\p.bo<256) :
  a9 210 [r.val] w λv w'=>∃ (a:an) (cap:Nat),v=.slice a (3+9 * W.length) cap/\ai w w'/\a0 w' 30 1 a (3+9 * W.length) cap (us (fi r.Seq W))/\∀ k,aL a k->w.heap.size<=k:=by
 refine bc Tryz.func210 ?_;rw [G3];rintro b1 w1 S M;obtain ⟨au,D⟩:=bl S M;have au:av w1 b1 r.cells 271:=au;clear M;refine bY.aR r ⟨bJ au rfl,?_⟩;refine aC (ye (h.new D) 256) ?_;rintro v Wp ⟨rfl,E⟩;rw [al];have hlen:=h.len;have y:=ai.aj E au;refine ⟨_,rfl,dw (λe=>absurd rfl e) (λ_=>⟨_,y.cell (i:=0) rfl,_,_,_,y.cell (i:=1) rfl,?_⟩)⟩;dsimp only;rw [kh (x:=r.Seq) (by omega) (by omega),kh (x:=(r.dO:Int)) (by omega) (by omega)];rintro aA Wb T N;obtain ⟨G,F⟩:=bl T N;have G:av Wb aA (us (oI r.Seq W 0)) 30:=by simpa [oI,us,hlen] using G
 clear N;have K:=(D.new E).new F;have Wj:=D.size;have Wk:=E.size;have Wl:=F.size;refine ⟨_,_,_,(ai.aj F y).cell (i:=1) rfl,?_⟩;have V2:a0 Wb 30 1 (some ⟨aA,0,none⟩) 2 2 (us (oI r.Seq W 0)):=⟨rfl,.inr ⟨aA,_,rfl,G,by omega,by decide,rfl,rfl⟩⟩;have X:∀ k,aL (some ⟨aA,0,none⟩) k->w.heap.size<=k:=λk n=>by obtain ⟨o,V2⟩:=n;simp at V2 <;> omega
 refine c2 mix (λm env u=>∃ (i:Nat) (pa:an) (pc:Nat) (V':ax),m=W.length - i/\i<=W.length/\env=xr pa (2+9 * i) pc r.eu r.dO r.gX r.dO i V'/\ai w u/\a0 u 30 1 pa (2+9 * i) pc (us (oI r.Seq W i))/\∀ k,aL pa k->w.heap.size<=k) W.length
  ⟨0,_,_,_,rfl,by omega,rfl,K,V2,X⟩ ?_
 rintro m env u ⟨i,pa,pc,V',rfl,Wm,rfl,g,j,s⟩;rw [To,hlen];refine a8 (λC=>?_) (λWg=>?_)
 ·obtain ⟨p,V3⟩:∃ p,W[i]?=some p:=⟨_,bD (by omega)⟩;have Wi:=Wh p (b7 V3);refine er (cells:=aK.cells) aK.len (by omega) (h.rd.new g) V3 rfl rfl λb o V _=>aK.aR p ⟨V,?_⟩
  refine ea (vs:=p.cells) rfl (aK.single _) λP Wa J t d=>⟨_,t.cell (i:=0) rfl,_,t.cell (i:=1) rfl,?_⟩
  rw [kh (x:=p.bo) (by omega) (by omega)];rintro Wc bk U l;obtain ⟨f,c⟩:=bl U l;have f:av bk Wc (us [p.bo,p.Head]) 30:=f;clear l;have V5:=d.size;have V6:=c.size;have V7:=g.size;refine tE (a0.new (d.new c) j) (l2:=[p.bo,p.Head]) (m:=2) (fm f rfl) rfl (by omega) λap z V8 Q q B=>?_
  have A:∀ k,aL ap k->w.heap.size<=k:=λk n=>by
   rcases B k n with e | e
   ·exact s k e
   ·omega
  have V_:=t.lt;have V4:∀ k,aL pa k->k≠P:=λk n e=>by have:=j.lt n;omega
  have O:av V8 P p.cells et:=q.aj (ai.aj c t) λe=>V4 _ e rfl
  have L:ai w V8:=((g.new d).new c).trans q λk C e=>by have:=s k e;omega
  refine tE Q (l2:=hA p) (m:=7) (fm O rfl) rfl (by omega) λR H Wo Wf Z I=>?_
  rw [bC (x:=(i:Int)+1) (by omega) (by omega)];have V9:2+9 * i+2+7=2+9 * (i+1):=by omega
  refine ⟨W.length - (i+1),by omega,i+1,R,H,_,rfl,by omega,by rw [<-V9,<-hlen];rfl,L.trans Z λk C e=>by have:=A k e;omega,?_,λk n=>?_⟩
  ·have e:oI r.Seq W i++[p.bo,p.Head]++hA p=oI r.Seq W (i+1):=by unfold oI;rw [fc,V3];simp
   rw [<-e,<-V9];exact Wf
  ·rcases I k n with e | e
   ·exact A k e
   ·have:=L.size;omega
 ·have Y:i=W.length:=by omega
  subst Y;have We:oI r.Seq W W.length=nD r.Seq W:=by unfold oI nD;rw [hx]
  rw [We] at j;rw [Ux];refine aC (I8 j.rd (by rw [yI]) (by omega)) ?_;rintro v bE ⟨rfl,d⟩;refine ⟨_,rfl,?_⟩;rintro P Wa J l;obtain ⟨f,c⟩:=bl J l;have f:av Wa P (us [sd (nD r.Seq W)]) 30:=f;clear l;have V5:=d.size;have V6:=c.size;have V7:=g.size;refine tE (a0.new (d.new c) j) (l2:=[sd (nD r.Seq W)]) (m:=1) (fm f rfl) rfl (by omega) λap z V8 Q q B=>?_
  have Wd:2+9 * W.length+1=3+9 * W.length:=by omega
  rw [Wd] at Q ⊢;refine ⟨ap,z,rfl,((g.new d).new c).trans q λk C e=>by have:=s k e;omega,Q,λk n=>?_⟩;rcases B k n with e | e
  ·exact s k e
  ·omega
end
section
theorem kK {b i:Nat} {cs:ax} {T:TypeId} {v x:a2} {K:aE} (a:av u b cs T) (c:cs[i]?=some x) (d:∀ w',av w' b (cs.set i v) T->ao (λk=>k=b) u w'->K w') :
  (∃ y,u.cell? ⟨b,i,none⟩=some y)/\u.frozen? ⟨b,i,none⟩=false/\∀ w',w'=u.setCell ⟨b,i,none⟩ v->K w':=
 ⟨⟨x,a.cell c⟩,a.frozen,λw' e=>by subst e;exact d _ (a.setCell v) (eY _ _ _ _)⟩
def addr (num:Int) (m:aY) (x:aW):aW:={ x with node:=m.Node,ef:=m.cn,key:=qO num }
theorem BA (w:ak) {m:aY} (V':0<=r.Number) (Wa:r.Number<16) (X:dN m.cn) (al:cF M w v x) :
  a9 241 [r.val,m.val,.bool true,v.val] w λy w'=>∃ bj:aG,y=bj.val/\cF (λk=>k<w.heap.size) w' bj (addr r.Number m x)/\ai w w':=by
 refine bc Tryz.func241 ?_;rw [Vu];rintro b1 w1 T J;obtain ⟨q,H⟩:=bl T J;have q:av w1 b1 r.cells nb:=q;clear J;rintro aA Wn U K;obtain ⟨s,D⟩:=bl U K;have s:av Wn aA m.cells eI:=s;clear K;rintro R Wo V L;obtain ⟨t,p⟩:=bl V L;have t:av Wo R v.cells cz:=t;clear L;rintro S V9 W N;obtain ⟨u,l⟩:=bl W N;have u:av V9 S (aG.cells ⟨0,0,0,0,0,0,none,0,0,0,0⟩) cz:=u;clear N;rintro Wp O;have c:ai V9 Wp:=by rw [O];exact cE _
 clear O;have Wg:=H.size;have Wh:=D.size;have Wi:=p.size;have Wj:=l.size;have Wk:=c.size;have Wc:=q.lt;have Wd:=s.lt;have We:=t.lt;have Wf:=u.lt;have G:=(((H.new D).new p).new l).new c;have V7:=ai.aj (((D.new p).new l).new c) q;have V_:=ai.aj ((p.new l).new c) s;have d:=ai.aj (l.new c) t;have Q:=ai.aj c u;refine ⟨λy=>av y aA m.cells eI,V_,_,λy V3=>V3.cell (i:=0) rfl,_,λy V3=>V3.cell (i:=1) rfl,kK d (i:=1) rfl λWt d E=>⟨E.aj V_ (by omega),kK d (i:=8) rfl λWq d Z=>?_⟩⟩;have b:=E.trans Z λ_ _ e=>e
 have V7:=b.aj V7 (by omega);refine ⟨_,V7.cell (i:=0) rfl,?_⟩;refine aC (PG Wq V' Wa) ?_;rintro z Wu ⟨rfl,rfl⟩;refine ⟨_,_,rfl,kK d (i:=7) rfl λV6 d C=>⟨_,_,_,d.cell (i:=6) rfl,?_⟩⟩;have g:ai w V6:=G.trans (b.trans C λ_ _ e=>e) λk F e=>by omega
 have P:v.cK=x.words.length:=by rw [al.eq];rfl
 refine aC (AG (xs:=us x.words) (by rw [hE,P]) (al.rd.new g) (pz _) (by have:=al.kN;omega) (λe=>by rw [P,al.nil e];rfl)) ?_;rintro z Wm ⟨B,cap,rfl,j,o,Y,I⟩;have Wl:=g.size;have V8:=(b.trans C λ_ _ e=>e).size;refine ⟨_,_,_,rfl,kK (ai.aj j d) (i:=6) rfl λV4 d f=>?_⟩;have Q:=f.aj (ai.aj j ((b.trans C λ_ _ e=>e).aj Q (by omega))) (show ¬ S=R by omega);have d:av V4 R (aG.cells { v with Node:=m.Node,cn:=m.cn,Key:=qO r.Number,Words:=B,cD:=cap }) cz:=d;refine aG.aR _ ⟨bJ d rfl,dQ Q rfl (aG.single _) λV5 Q A=>?_⟩;refine aG.aR _ ⟨bJ Q rfl,rfl,_,rfl,?_,((g.new j).trans f λk F e=>by omega).trans A λk F e=>by omega⟩;have n:us x.words=[]\/gl (λk=>k<V6.heap.size) B:=hn o.rd λk Wb e=>by have:=Y k Wb;omega
 have V2:bh V5 B (us x.words):=(o.rd.az f (n.imp id λh=>by
  cases B with
  |none=>trivial
  |some a=>exact λe=>h (by have e:a.block=R:=e;omega))).az A (n.imp id λh=>by
  cases B with
  |none=>trivial
  |some a=>exact λe=>h (by have e:a.block=S:=e;omega))
 refine ⟨?_,V2,λe=>al.nil (I.1 e),?_,al.wf,al.new,al.old,?_,X,a0.le o,al.kN⟩
 ·show ({ v with Node:=m.Node,cn:=m.cn,Key:=qO r.Number,Words:=B,cD:=cap }:aG)=_;have e:=al.eq;generalize v.Words=Wr at e;generalize v.cD=Ws at e;subst e;rfl
 ·rcases n with h | h
  ·left;have:=congrArg List.length h;rw [hE] at this;exact fI this
  ·right;cases B with
   |none=>trivial
   |some a=>exact λe=>h (by have e:a.block<w.heap.size:=e;show a.block<V6.heap.size;omega)
 ·show ca (qO r.Number);unfold qO ca;omega
theorem Cg (l:List aY):∀ r ∈ gj l,r.length=3:=by intro r a;obtain ⟨x,_,rfl⟩:=cT.1 a;rfl
theorem Ij (l:List aY):∀ u ∈ (gj l).flatten,single u=true:=by intro u hu;obtain ⟨r,a,b⟩:=oW.1 hu;obtain ⟨y,_,rfl⟩:=cT.1 a;exact aY.single y u b
theorem KY {c:Nat} {vs:List aY} (h:vs.length=n) (r:bh w a (gj vs).flatten) (s:n<=1000000) (l:a=none->n=0) :
  a9 243 [.slice a n c] w λv w'=>∃ e cap,v=.slice e n cap/\tp w w' eI 3 a e n cap (gj vs).flatten:=by
 refine bc Tryz.func243 ?_;rw [Qh];obtain ⟨i,p,au,d,g⟩:=fO (T:=eI) (z:=.agg #[.int .i64 0,.int .i64 0,.bool false]) (n:=3) (m:=24) (by kernel_rfl);cases a with
 |none=>
  refine ek rfl ⟨none,0,by rw [l rfl],ao.refl _ _,?_,?_,by simp⟩
  ·rw [l rfl] at h ⊢;rw [fI h];exact a0.nil _ _ _
  ·rintro k ⟨o,q⟩;cases q
 |some a=>refine cV rfl ?_;rintro b1 w1 rfl rfl;obtain ⟨e,b,w',f,j⟩:=xS (t:=33) (ty:=33) (n:=n) (c:=c) (w:=w) (a:=a) (xs:=(gj vs).flatten) Tryz.underlying33 p au (by rw [d];rfl) (by omega) (by rw [mj (Cg vs),d,gj,ft,h]) r (Ij vs) (by omega) (by rw [g];omega);exact ⟨e,n,b,w',f,e,b,rfl,by rw [d] at j;exact j⟩
theorem BQ {v:jf} (h:gd M w r v) {m:aY} (hm:v.mem[0]?=some m):a9 125 [r.val] w λx w'=>x=.tuple #[m.val,.bool true]/\ai w w':=by
 refine bc Tryz.func125 ?_;rw [VC];rintro b1 w1 p l;obtain ⟨d,g⟩:=bl p l;have d:av w1 b1 r.cells nb:=d;clear l;rintro aA B q n;obtain ⟨f,j⟩:=bl q n;have f:av B aA (aY.cells jI) eI:=f;clear n;have c:=ai.aj j d;have a:=g.new j;have A:=g.size;have C:=cb hm;have y:=h.len;refine ⟨_,_,_,c.cell (i:=1) rfl,dY (λe=>absurd e (by omega)) (λ_=>⟨_,_,_,c.cell (i:=1) rfl,?_⟩)⟩;refine er (cells:=aY.cells) aY.len (by omega) (i:=0) (h.rd.new a) hm rfl y λb o s _=>aY.aR m ⟨s,dQ f rfl (aY.single _) λD u t=>?_⟩
 exact aY.aR m ⟨bJ u rfl,rfl,rfl,a.trans t λk z e=>by omega⟩
theorem BR {v:jf} (h:gd M w r v) (B:0<v.mem.length):a9 216 [r.val] w λy w'=>∃ (a:an) (cap:Nat),y=.slice a (v.mem.length - 1) cap/\ai w w'/\bh w' a (gj v.mem.tail).flatten:=by
 refine bc Tryz.func216 ?_;rw [Vt];rintro b1 w1 l j;obtain ⟨c,f⟩:=bl l j;have c:av w1 b1 r.cells nb:=c;clear j;have hlen:=h.len;have t:=h.cap;have C:=h.small;refine ⟨_,_,_,c.cell (i:=1) rfl,dY (λe=>absurd e (by omega)) (λ_=>⟨_,_,_,c.cell (i:=1) rfl,?_⟩)⟩;have q:=h.rd.new f;have n:(gj v.mem).flatten.length=v.mem.length * 3:=by rw [mj (Cg _),gj,ft]
 obtain ⟨b,o,k⟩:∃ b o,r.ed=some ⟨b,o,none⟩:=by
  rcases q with he | ⟨b,o,e,_⟩
  ·have:=congrArg List.length he;rw [n] at this;simp at this <;> omega
  ·exact ⟨b,o,e⟩
 rw [k] at q ⊢;rw [hlen];have s:(gj v.mem.tail).flatten=((gj v.mem).flatten).drop 3:=by
  cases D:v.mem with
  |nil=>rfl
  |cons x xs=>rfl
 refine kA (by omega) (by omega) (by omega) (by omega) (by omega) λa A=>?_
 have d:bh w1 a (gj v.mem.tail).flatten/\a≠none:=by
  rcases A with rfl | ⟨e,rfl⟩
  ·refine ⟨?_,by simp⟩;rw [s];exact q.drop 3
  ·refine ⟨?_,by simp⟩;have:v.mem.tail=[]:=fI (by rw [rr];omega);rw [this];exact .inl rfl
 have z:Int.toNat (v.mem.length:Int) - Int.toNat 1=v.mem.length - 1:=by omega
 rw [z];refine aC (KY (vs:=v.mem.tail) (by rw [rr]) d.1 (by omega) (λe=>absurd e d.2)) ?_;rintro y E ⟨u,cap,rfl,p,g,_⟩;exact ⟨_,_,_,rfl,u,cap,rfl,f.new p,g.rd⟩
structure bH (w0 u:ak) (a:an) (n cap:Nat) (vs:List aW):Prop where
 ex:∃ cl:List aG,a0 u cz 9 a n cap (dP cl).flatten/\ep (λk=>k<w0.heap.size\/aL a k) u cl vs
 len:n=vs.length
 gi:∀ k,aL a k->w0.heap.size<=k
theorem bH.nil (w0 u:ak):bH w0 u none 0 0 []:=⟨⟨[],a0.nil _ _ _,rfl,λi v x h=>by simp at h⟩,rfl,λk a=>absurd a nA⟩
theorem bH.new {w0 u bs:ak} {a:an} {n cap:Nat} {vs:List aW} (h:bH w0 u a n cap vs) (b:ai u bs):bH w0 bs a n cap vs:=by obtain ⟨⟨cl,f,al⟩,d,c⟩:=h;exact ⟨⟨cl,a0.new b f,al.az (ao.b4 b) λ_ _ e=>e⟩,d,c⟩
theorem bH.az {w0 u bs:ak} {a:an} {n cap:Nat} {vs:List aW} (h:bH w0 u a n cap vs) {M:a3} (b:ao M u bs) (c:∀ k,M k->k<w0.heap.size):bH w0 bs a n cap vs:=by obtain ⟨⟨cl,g,al⟩,f,d⟩:=h;refine ⟨⟨cl,g.az b λk b e=>?_,al.az (b.mono λk _ e=>.inl (c k e)) λ_ _ e=>e⟩,f,d⟩;have:=d k b;have:=c k e;omega
theorem bH.mono {w1:ak} (h:bH w1 u a n cap vs) (g:w0.heap.size<=w1.heap.size):bH w0 u a n cap vs:=by obtain ⟨⟨cl,f,al⟩,d,b⟩:=h;exact ⟨⟨cl,f,al.az (ao.refl _ _) λk _ e=>e.imp (λe=>by omega) id⟩,d,λk c=>by have:=b k c;omega⟩
theorem ep.app {r1 b:List aG} {v1 v2:List aW} (e:ep M w r1 v1) (f:ep M w b v2):ep M w (r1++b) (v1++v2):=by
 obtain ⟨dd,c⟩:=e;obtain ⟨l2,d⟩:=f;refine ⟨by simp [dd,l2],λi v x al a=>?_⟩;by_cases g:i<r1.length
 ·rw [hU g] at al;rw [hU (by omega)] at a;exact c i v x al a
 ·rw [hV (by omega)] at al;rw [hV (by omega)] at a;rw [<-dd] at a;exact d _ v x al a
theorem ep.one (h:cF M w v x):ep M w [v] [x]:=⟨rfl,λi bj fT a b=>by
 cases i with
 |zero=>simp at a b;subst a b;exact h
 |succ i=>simp at a⟩
theorem bH.oD (h:bH w0 u a n cap vs) (j:ai w0 u) (hu:ai u bE) (al:cF (λk=>k<u.heap.size) bE v x) (H:n<=100000) {K:Nat->an->Nat->Nat->aE}
  (s:∀ b ap f i,b=bE.heap.size->bH w0 i ap (n+1) f (vs++[x])->ao (aL a) bE i->ai w0 i->K b ap (n+1) f i) :
  ∀ b1 A,b1=bE.heap.size->A=bE.alloc (.cells v.cells.toArray cz)->∃ (ap:an) (d c:Nat),∃ i,(Builtin.append_ #[gx,gx] gx #[(.slice a n cap),(.slice (some ⟨b1,0,none⟩) 1 1)]).run prog A=.ok (.slice ap d c) i/\K b1 ap d c i:=by
 obtain ⟨⟨cl,z,y⟩,E,p⟩:=h;have B:=j.new hu;have F:=j.size;have G:=hu.size;refine Mc (a0.new hu z) (v:=v) (by omega) λb ap f i D C g l=>?_
 have o:∀ k,aL ap k->w0.heap.size<=k:=λk s=>by
  rcases l k s with e | e
  ·exact p k e
  ·omega
 refine s b ap f i D ⟨⟨cl++[v],by rw [Hm];simpa [dP] using C,?_⟩,by rw [dI,E];rfl,o⟩ g (B.trans g λk q e=>by have:=p k e;omega);have r:∀ k,k<bE.heap.size->(k<w0.heap.size\/aL ap k)->(k<w0.heap.size\/aL a k):=λk q e=>e.imp id λe=>by
  rcases l k e with e | e
  ·exact e
  ·omega
 have t:=y.az (M':=λk=>k<w0.heap.size\/aL a k) (ao.b4 hu) λ_ _ e=>e
 refine ep.app (t.az (g.mono λk _ e=>.inr e) r) (ep.one ?_);have w:cF (λk=>k<w0.heap.size\/aL a k) bE v x:=al.az (ao.refl _ _) λk q e=>by
  rcases e with e | e
  ·omega
  ·exact z.lt e
 exact w.az (g.mono λk _ e=>.inr e) r
theorem bH.lQ (h:bH w0 u a n cap vs) (i:ai w0 u) (hu:ai u bE) (al:cF (λk=>k<u.heap.size) bE v x) (r:n<=100000) {b1:Nat} {j:ak} (q:b1=bE.heap.size) (hw:j=bE.alloc (.cells v.cells.toArray cz))
  (s:∀ ap f g,bH w0 g ap (n+1) f (vs++[x])->ao (aL a) bE g->ai w0 g->K ap (n+1) f g) :
  ∃ (ap:an) (e d:Nat),∃ g,(Builtin.append_ #[gx,gx] gx #[(.slice a n cap),(.slice (some ⟨b1,0,none⟩) 1 1)]).run prog j=.ok (.slice ap e d) g/\K ap e d g:=
 bH.oD h i hu al r (K:=λ_ ap n c w=>K ap n c w) (λb ap f g _ l o p=>s ap f g l o p) b1 j q hw
end
end Go.Proofs.YtmkljjbioomepaaGreat
