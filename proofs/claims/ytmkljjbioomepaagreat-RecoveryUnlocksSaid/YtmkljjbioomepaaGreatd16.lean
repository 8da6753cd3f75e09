import Derived.Test.YtmkljjbioomepaaGreatProg
import Derived.Test.YtmkljjbioomepaaGreatd03
import Derived.Test.YtmkljjbioomepaaGreatd14
import Derived.Test.YtmkljjbioomepaaGreatd15
set_option linter.all false
set_option maxHeartbeats 4000000
set_option maxRecDepth 100000
namespace Go.Proofs.YtmkljjbioomepaaGreat
open Go.Proofs.Tryz Go.bs
variable {K:an->Nat->Nat->aF} {M:a6} {a s:an} {c h i:Int} {cap m n sz:Nat} {r:c2} {u bG w w0:ak} {v:aG} {vs:List aQ} {x:aQ}
section
open IntKind
variable (w:ak) (R:cz) {s t:an} {a b c d:Nat} {i k:Int} {j:ar}
def xK (e:an) (a b:Nat) (c:an) (d f:Nat) (g h:Int) (j:ar):ar:=ag j 0 3 (ae e a b::ag j 3 14 (ae c d f::ab g::ab h::ag j 17 21 []))
def G7 (c:an) (a b:Nat) (j:ar):ar:=ag j 0 3 (ae c a b::ag j 3 38 [])
theorem Hv (k:b0):bf prog f210 [k.val] R w=(aS w k.cells.toArray 271 λe m=>hW m (af e 0) λr=>ct 167 #[r.val,ab 256] m λa j=>cond (a != 0) (R (a5) j) (bX j (af e 0) λb=>b_ j (af e 1) λc d f=>aS j #[ah (u64.wrap b),ah (u64.wrap (d:Nat))] 30 λn l=>b_ l (af e 1) λg h i=>cG prog (c7 f210 [1,1,1,0,1,0,0]) (xK (bo n) 2 2 g h i (h:Nat) 0 (k.val::jp (af e 0)::a5::bD 2 (r.val::ab a::ad ((a:Int) != 0)::jp (af e 0)::ab b::ah (u64.wrap b)::jp (af e 1)::ae c d f::eo d::ah (u64.wrap (d:Nat))::ae (bo n) 2 2::jp (af e 1)::bD 21 []))) (aP 0 (aU f210 [1,1,1,1] R)) l)):=by kernel_rfl
theorem UY (v:ar->aF):W prog (sb f210 [1,1,1,0,1,0,0]) (xK s a b t c d i k j) (aZ v (aP 0 (aU f210 [1,1,1,1] R))) w=(cond (k<i) (bA t c k 9 λu=>hI w u λr=>aS w #[ab 0,ah 0,ah 0,ah 0,ah 0,ah 0,ah 0,ah 0,ah 0] 73 λf y=>a_ y (af f 0) 0 r.cells λq=>bX q (af f 0) λe=>dX q (af f 1) λh=>aS q #[ah (u64.wrap e),ah h] 30 λx B=>db 94 (ae s a b) (ae (bo x) 2 2) B λg l m A=>db 94 (ae g l m) (ae (some (af f 2)) 7 7) A λn o p z=>v (xK n o p t c d i (i64.wrap (k+1)) (ag j 0 4 (jp (af f 0)::ag j 5 12 (ad (k<i)::jp u::r.val::ae s a b::jp (af f 0)::ab e::ah (u64.wrap e)::jp (af f 1)::ah h::ae (bo x) 2 2::ae g l m::ae g l m::jp (af f 2)::ae (some (af f 2)) 7 7::ae n o p::ab (i64.wrap (k+1))::ag j 33 5 [])))) z) (W prog (sb f210 [1,1,1,1]) (G7 s a b (ag j 0 17 (ae t c d::ab i::ab k::ad (k<i)::ag j 18 20 []))) (b7 f210 R) w)):=by kernel_rfl
theorem VZ:W prog (sb f210 [1,1,1,1]) (G7 s a b j) (b7 f210 R) w=(jB 239 #[ae s a b] w λc h=>aS h #[ah c] 30 λk g=>db 94 (ae s a b) (ae (bo k) 1 1) g λi d f e=>R (ae i d f) e):=by kernel_rfl
theorem WV (d:aK):bf prog f211 [d.val,ab i] R w=(aS w d.cells.toArray 73 λf e=>dX e (af f 1) λa=>hH 240 #[ah a,ab i] e λb c g=>R (.tuple #[ah b,ab c]) g):=by kernel_rfl
theorem WY (e:aK):bf prog f244 [e.val] R w=(aS w e.cells.toArray 73 λi h=>dX h (af i 1) λa=>hH 206 #[ah a] h λb c g=>cond (c != 0) (R (.tuple #[a5,ab c]) g) (aS g #[ah b] 30 λm j=>db 94 (ae (bo m) 1 1) (ae (some (af i 2)) 7 7) j λk d f l=>R (.tuple #[ae k d f,ab 0]) l)):=by kernel_rfl
end
section
open IntKind
variable (w:ak) (R:cz) {a b c d:Nat} {s t:an} {i k:Int} {A B:aX} {j:ar}
theorem TL (h:a0) (i:aG):bf prog f212 [ba a,h.val,i.val] R w=(aS w h.cells.toArray 116 λo m=>aS m i.cells.toArray 158 λq l=>aS l #[ab 0,ab 0,ab 0,ab 0,ah 0,ah 0,a5,ah 0,ab 0] 158 λg k=>cw k λp f=>AR f (af a 3) λd=>hp f (af o 0) λr=>GV f (af q 0) λj=>eM 241 #[d.val,r.val,ad true,j.val] p λb n=>a_ n (af g 0) 0 b.cells λe=>l4 e (af g 0) λc=>e=e/\R c.val e):=by kernel_rfl
theorem UL:bf prog f213 [ba a,ae s b c,ab i] R w=(aS w #[ab 0,ab 0] 171 λj r=>mN r (af a 7) λt=>jD 116 #[.pointer t,ae s b c] r λn d f g q=>cond (!g) (a_ q (af j 0) 0 [ab 0,ab 0] λo=>dY o (af j 0) λe=>o=o/\R (.tuple #[a5,e.val,ad false]) o) (ct 242 #[ae n d f] q λh u=>cond (h != 0) (a_ u (af j 0) 0 [ab h,ab i] λm=>dY m (af j 0) λk=>m=m/\R (.tuple #[a5,k.val,ad false]) m) (a_ u (af j 0) 0 [ab 0,ab 0] λp=>dY p (af j 0) λl=>p=p/\R (.tuple #[ae n d f,l.val,ad true]) p))):=by kernel_rfl
def xa (e i:aX) (k:an) (a b:Nat) (c:an) (d f:Nat) (g h:Int) (j:ar):ar:=.pointer (some e)::ag j 0 2 (.pointer (some i)::ag j 2 1 (ae k a b::ag j 3 8 (ae c d f::ab g::ab h::ag j 11 21 [])))
def Gd (c:an) (a b:Nat) (j:ar):ar:=ag j 0 5 (ae c a b::ag j 5 32 [])
theorem TZ (e:a0):bf prog f217 [ba a,e.val] R w=(aS w e.cells.toArray 116 λg f=>b_ f (af a 6) λd b c=>cG prog (c7 f217 [1,1,0,1,0,0]) (xa (af a 0) (af g 0) none 0 0 d b c (b:Nat) 0 (e.val::undef::a5::bD 4 (jp (af a 0)::jp (af a 0)::jp (af a 0)::jp (af a 6)::bD 21 []))) (aP 0 (aU f217 [1,1,1] R)) f):=by kernel_rfl
theorem SE (F:ar->aF):W prog (sb f217 [1,1,0,1,0,0]) (xa A B s a b t c d i k j) (aZ F (aP 0 (aU f217 [1,1,1] R))) w=(cond (k<i) (bA t c k 9 λE=>hI w E λr=>aS w #[ab 0,ah 0,ah 0,ah 0,ah 0,ah 0,ah 0,ah 0,ah 0] 73 λu a9=>a_ a9 (af u 0) 0 r.cells λy=>hI y (af u 0) λx=>sM 244 #[x.val] y λf g l m L=>cw L λK h=>hp h B λG=>cV h (af u 0) λn=>ct 108 #[ab n] K λo z=>h z/\eM 212 #[.pointer (some A),G.val,.agg #[ab 2,ab 0,ab o,ab 0,ah 0,ah 0,ae f g l,ah 0,ab 0]] z λe a'=>h a'/\aS a' e.cells.toArray 158 λC H=>h H/\db 125 (ae s a b) (ae (bo C) 1 1) H λv p q D=>h D/\F (xa A B v p q t c d i (i64.wrap (k+1)) (ag j 0 4 (jp (af u 0)::ae f g l::ab m::ag j 7 4 [ad (k<i),jp E,r.val,.tuple #[ae f g l,ab m],x.val,.tuple #[ae f g l,ab m],ae f g l,ab m,ae s a b,jp A,G.val,jp (af u 0),ab n,ab o,ae f g l,.agg #[ab 2,ab 0,ab o,ab 0,ah 0,ah 0,ae f g l,ah 0,ab 0],e.val,ae (bo C) 1 1,ae v p q,ab (i64.wrap (k+1)),aO j 31]))) D) (W prog (sb f217 [1,1,1]) (Gd s a b (jp A::aO j 0::aO j 1::jp B::ag j 2 9 (ae t c d::ab i::ab k::ad (k<i)::ag j 12 20 []))) (b7 f217 R) w)):=by kernel_rfl
theorem ST:W prog (sb f217 [1,1,1]) (Gd s a b j) (b7 f217 R) w=(R (ae s a b) w):=by kernel_rfl
theorem T0 (u:a0):bf prog f218 [ba a,u.val] R w=(aS w u.cells.toArray 116 λz y=>aS y #[ab 0,ab 0,ab 0,ab 0,ah 0,ah 0,a5,ah 0,ab 0] 158 λm x=>cw x λs j=>hp j (af z 0) λr=>cV j (af a 0) λe=>cV j (af a 1) λb=>(ct 225 #[ab e] s λc q=>j q/\aS q #[ah (u64.wrap b)] 30 λA o=>j o/\eM 212 #[ba a,r.val,.agg #[ab 2,ab 0,ab c,ab 0,ah 0,ah 0,ae (bo A) 1 1,ah 0,ab 0]] o λf v=>j v/\a_ v (af m 0) 0 f.cells λn=>l4 n (af m 0) λg=>n=n/\R g.val n)/\aS s #[ah (u64.wrap b)] 30 λB p=>j p/\ct 225 #[ab e] p λd t=>j t/\eM 212 #[ba a,r.val,.agg #[ab 2,ab 0,ab d,ab 0,ah 0,ah 0,ae (bo B) 1 1,ah 0,ab 0]] t λi h=>j h/\a_ h (af m 0) 0 i.cells λk=>l4 k (af m 0) λl=>k=k/\R l.val k):=by kernel_rfl
def w7 (e i:aX) (k:an) (a b:Nat) (c:an) (d f:Nat) (g h:Int) (j:ar):ar:=.pointer (some e)::ag j 0 2 (.pointer (some i)::ag j 2 1 (ae k a b::ag j 3 7 (ae c d f::ab g::ab h::ag j 10 12 [])))
def Gb (c:an) (a b:Nat) (j:ar):ar:=ag j 0 5 (ae c a b::ag j 5 22 [])
theorem Ui (e:aG):bf prog f237 [ba a,e.val] R w=(aS w e.cells.toArray 158 λg f=>b_ f (af a 4) λd b c=>cG prog (c7 f237 [1,1,0,1,0,0]) (w7 (af a 0) (af g 0) none 0 0 d b c (b:Nat) 0 (e.val::undef::a5::bD 2 (jp (af a 0)::jp (af a 0)::jp (af a 0)::jp (af a 3)::jp (af a 4)::bD 12 []))) (aP 0 (aU f237 [1,1,1] R)) f):=by kernel_rfl
theorem SY (o:ar->aF):W prog (sb f237 [1,1,0,1,0,0]) (w7 A B s a b t c d i k j) (aZ o (aP 0 (aU f237 [1,1,1] R))) w=(cond (k<i) (bA t c k 3 λq=>iC w q λr=>aS w #[ab 0,ab 0,ad false] 116 λh x=>a_ x (af h 0) 0 r.cells λg=>iC g (af h 0) λn=>l4 g B λp=>eM 212 #[.pointer (some A),n.val,p.val] g λl v=>aS v l.cells.toArray 158 λu z=>db 125 (ae s a b) (ae (bo u) 1 1) z λf e m y=>o (w7 A B f e m t c d i (i64.wrap (k+1)) (ag j 0 4 (jp (af h 0)::ag j 5 5 [ad (k<i),jp q,r.val,ae s a b,jp A,n.val,p.val,l.val,ae (bo u) 1 1,ae f e m,ab (i64.wrap (k+1)),aO j 21]))) y) (W prog (sb f237 [1,1,1]) (Gb s a b (jp A::aO j 0::aO j 1::jp B::ag j 2 8 (ae t c d::ab i::ab k::ad (k<i)::ag j 11 11 []))) (b7 f237 R) w)):=by kernel_rfl
theorem S8:W prog (sb f237 [1,1,1]) (Gb s a b j) (b7 f237 R) w=(R (ae s a b) w):=by kernel_rfl
end
section
theorem nO {k:Nat}:¬ aL none k:=λh=>by obtain ⟨o,a⟩:=h;cases a
theorem C6 {α:Type} {cells:α->ax} (h:∀ x,(cells x).length=sz) (l:List α):(l.map cells).flatten.length=l.length * sz:=by rw [mx (sz:=sz),fZ];intro r a;obtain ⟨x,_,rfl⟩:=cZ.1 a;exact h x
theorem rh {α:Type} {cells:α->ax} {S e:TypeId} {inf:TypeInfo} {z:a4} (B:∀ x,(cells x).length=sz) (E:∀ x,∀ v ∈ cells x,single v=true)
  (R:prog.underlying S=some (.slice e)) (M:prog.info? e=some inf) (au:inf.zero=some z) (G:z.cells.size=inf.size) (C:inf.size=sz) (J:0<sz) (A:inf.bytes<=1000)
  {l:List α} (q:a1 u e sz a n cap (l.map cells).flatten) {c:Nat} {l2:List α} (Q:bk u s (l2.map cells).flatten) (hm:m=l2.length) (N:n+m<=1000000)
  (p:∀ ap b i,a1 i e sz ap (n+m) b ((l++l2).map cells).flatten->ao (aL a) u i->(∀ k,aL ap k->aL a k\/u.heap.size<=k)->K ap (n+m) b i) :
  ∃ (ap:an) (f d:Nat),∃ i,(Builtin.append_ #[S,S] S #[(.slice a n cap),(.slice s m c)]).run prog u=.ok (.slice ap f d) i/\K ap f d i:=by
 subst C;have L:(n+m) * inf.bytes<=1000000 * 1000:=p_ N A;have h:∀ x ∈ (l2.map cells).flatten,single x=true:=by intro x F;obtain ⟨r,O,F⟩:=o2.1 F;obtain ⟨y,_,rfl⟩:=cZ.1 O;exact E y x F
 obtain ⟨ap,b,H,j,g,D,w⟩:=a1.append (P:=prog) (t:=S) (ty:=S) R M au G J q (s:=s) (m:=m) (c:=c) (news:=(l2.map cells).flatten) (by rw [C6 B,hm]) Q h (by omega) (by omega);have I:(l.map cells).flatten++(l2.map cells).flatten=((l++l2).map cells).flatten:=by simp
 rw [I] at g;refine ⟨ap,n+m,b,H,j,p ap b H g D λk p=>?_⟩;rcases w with e | e
 ·exact .inl (e▸p)
 ·obtain ⟨o,q⟩:=p;rw [e] at q;simp at q;exact .inr (by omega)
def tQ (x:Int):ax:=[.int .u64 x]
theorem vY (l:a8):(l.map tQ).flatten=us l:=by
 induction l with
 |nil=>rfl
 |cons x l a=>simp [tQ,us] at a ⊢;exact a
theorem tz {l:a8} (q:a1 u 30 1 a n cap (us l)) {c:Nat} {l2:a8} (r:bk u s (us l2)) (hm:m=l2.length) (p:n+m<=1000000)
  (o:∀ ap e f,a1 f 30 1 ap (n+m) e (us (l++l2))->ao (aL a) u f->(∀ k,aL ap k->aL a k\/u.heap.size<=k)->K ap (n+m) e f) :
  ∃ (ap:an) (d b:Nat),∃ f,(Builtin.append_ #[94,94] 94 #[(.slice a n cap),(.slice s m c)]).run prog u=.ok (.slice ap d b) f/\K ap d b f:=by
 obtain ⟨inf,j,au,g,h⟩:=fV (T:=30) (z:=.int .u64 0) (n:=1) (m:=8) (by kernel_rfl);refine rh (cells:=tQ) (sz:=1) (λ_=>rfl) (λx v al=>by simp [tQ] at al;subst al;rfl) Tryz.underlying94 j au (by rw [g];rfl) g (by decide) (by rw [h];decide) (l:=l) (by rw [vY];exact q) (l2:=l2) (by rw [vY];exact r) hm p λap e f i=>?_
 rw [vY] at i;exact o ap e f i
def eK (h c:Int):Int:=ju .u64 h (c+1)
def lB (h:Int):Int:=ix .u64 (df .u64 h 8+1) 8
def fX (s:Int):Int:=ju .u64 (ix .u64 s 2) 2
def qR (n:Int):Int:=2 * n+1
theorem y2 (x:Int):cj (IntKind.u64.wrap x):=by unfold cj;simp only [IntKind.wrap,IntKind.bits,IntKind.signed];simp;omega
theorem D3 (h c:Int):cj (eK h c):=y2 _
theorem Na (h:Int):cj (lB h):=y2 _
theorem y6 (s:Int):cj (fX s):=y2 _
theorem OR (w:ak) (hu:l8 h=true) (b:0<=c/\c<6):bb 240 [.int .u64 h,.int .i64 c] w λv w'=>v=.tuple #[.int .u64 (eK h c),.int .i64 0]/\w'=w:=by
 refine bd Tryz.func240 ?_;rw [IJ];refine aD (J3 w c) ?_;rintro v w1 ⟨rfl,rfl⟩;refine ⟨_,rfl,ev (λa=>absurd (of_decide_eq_false a) (by omega)) (λ_=>?_)⟩
 refine aD (wq w1 h) ?_;rintro v d ⟨rfl,rfl⟩;refine ⟨_,rfl,ev (λa=>by rw [hu] at a;cases a) (λ_=>⟨?_,rfl⟩)⟩
 rw [bH (x:=c+1) (by omega) (by omega),kt (x:=c+1) (by omega) (by omega)];rfl
theorem zz (w:ak) {s:Int} (h:1<=s/\s<1073741824):bb 214 [.int .i64 s] w λv w'=>v=.tuple #[.int .u64 (fX s),.int .i64 0]/\w'=w:=by
 refine bd Tryz.func214 ?_;rw [A1];refine aD (s0 w s 1 1073741823) ?_;rintro v w1 ⟨rfl,rfl⟩;refine ⟨_,rfl,ev (λa=>absurd (of_decide_eq_false a) (by omega)) (λ_=>⟨?_,rfl⟩)⟩
 rw [kt (x:=s) (by omega) (by omega)];rfl
theorem Nb (w:ak) (hu:cj h) (b:kO h=true):bb 206 [.int .u64 h] w λv w'=>v=.tuple #[.int .u64 (lB h),.int .i64 0]/\w'=w:=by
 refine bd Tryz.func206 ?_;rw [HM];refine aD (DZ w h) ?_;rintro v w1 ⟨rfl,rfl⟩;refine ⟨_,_,rfl,?_⟩;refine aD (Br w1 _ 1 281474976710654) ?_;rintro v d ⟨rfl,rfl⟩;have c:=NM hu;unfold kO at b;refine ⟨_,rfl,ev (λa=>by rw [b] at a;cases a) (λ_=>⟨?_,rfl⟩)⟩
 rw [j3 (x:=df .u64 h 8+1) (by omega) (by omega)];rfl
theorem QO (w:ak) {n:Int} (a:0<=n) (b:n<16):bb 103 [.int .i64 n,.bool true] w λv w'=>v=.tuple #[.int .u64 (qR n),.int .i64 0]/\w'=w:=by refine bd Tryz.func103 ?_;rw [HV];refine aD (s0 w n 0 15) ?_;rintro v w1 ⟨rfl,rfl⟩;refine ⟨_,rfl,di (by simp;omega) (gB rfl ⟨?_,rfl⟩)⟩;rw [j3 (x:=n) (by omega) (by omega),j3 (x:=n * 2) (by omega) (by omega),j3 (by omega) (by omega)];unfold qR;rw [Int.mul_comm]
def e' (c:Int):Int:=48+120 * c
theorem Bj (w:ak) (a:0<=c/\c<6) (b:0<=i/\i<1000):bb 238 [.int .i64 c,.int .i64 i] w λv w'=>v=.int .i64 (e' c+i)/\w'=w:=by
 refine bd Tryz.func238 ?_;rw [WG];refine bc (λh=>absurd h (by omega)) (λ_=>bc (λh=>absurd h (by omega)) (λ_=>⟨?_,rfl⟩))
 unfold e';rw [bH (x:=c * 15) (by omega) (by omega),bH (x:=6+c * 15) (by omega) (by omega),bH (x:=(6+c * 15) * 8) (by omega) (by omega),bH (x:=(6+c * 15) * 8+i) (by omega) (by omega)];congr 1;omega
theorem D4 (w:ak) (a:0<=c/\c<6):bb 209 [.int .i64 c] w λv w'=>v=.int .i64 (e' c+8)/\w'=w:=by refine bd Tryz.func209 ?_;rw [Xj];refine aD (Bj w a (i:=8) (by omega)) ?_;rintro v w1 ⟨rfl,rfl⟩;exact ⟨_,rfl,rfl,rfl⟩
theorem y7 (w:ak) (a:0<=c/\c<6):bb 215 [.int .i64 c] w λv w'=>v=.int .i64 (e' c)/\w'=w:=by refine bd Tryz.func215 ?_;rw [Xk];refine aD (Bj w a (i:=0) (by omega)) ?_;rintro v w1 ⟨rfl,rfl⟩;exact ⟨_,rfl,by rw [Int.add_zero],rfl⟩
section
attribute [local irreducible] iA jk m0
theorem vZ (w:ak) (g:0<=i/\i<6):bb 225 [.int .i64 i] w λv w'=>v=.int .i64 (32+i)/\ai w w':=by
 refine bd Tryz.func225 ?_;rw [W6];refine aD (yw _ _ _) ?_;rintro v w1 ⟨cB,d,rfl,a,b,e⟩;have c:=yx;refine ⟨_,rfl,?_⟩;have f:(#[]++#[.int .i64 i]++#[ptr cB,ptr d]:Array a4)=#[.int .i64 i,ptr cB,ptr d]:=by simp
 refine q4 c f ?_;refine aD (yh w1 a b (by omega) (by omega) i) ?_;rintro v h ⟨rfl,rfl⟩;refine ⟨_,rfl,?_,e⟩;unfold m';rw [if_neg (by omega),show (4:Int) * 8+i=32+i by omega]
end
theorem yS (w:ak) (p:aK) (hu:l8 p.Head=true) (d:0<=c/\c<6):bb 211 [p.val,.int .i64 c] w λv w'=>v=.tuple #[.int .u64 (eK p.Head c),.int .i64 0]/\ai w w':=by refine bd Tryz.func211 ?_;rw [WV];rintro b1 w1 b a;obtain ⟨au,e⟩:=bl b a;have au:av w1 b1 p.cells eu:=au;clear a;refine ⟨_,au.cell (i:=1) rfl,?_⟩;refine aD (OR w1 hu d) ?_;rintro v f ⟨rfl,rfl⟩;exact ⟨_,_,rfl,rfl,e⟩
def hz (p:aK):a8:=[p.v3,p.CG,p.CH,p.CI,p.CJ,p.CK,p.CL]
def iJ (p:aK):a8:=lB p.Head::hz p
theorem Cj (w:ak) (p:aK) (z:cj p.Head) (B:kO p.Head=true):bb 244 [p.val] w λv w'=>∃ (a:an) (cap:Nat),v=.tuple #[.slice a 8 cap,.int .i64 0]/\ai w w'/\a1 w' 30 1 a 8 cap (us (iJ p))/\∀ k,aL a k->w.heap.size<=k:=by
 refine bd Tryz.func244 ?_;rw [WY];rintro b1 w1 n h;obtain ⟨au,g⟩:=bl n h;have au:av w1 b1 p.cells eu:=au;clear h;refine ⟨_,au.cell (i:=1) rfl,?_⟩;refine aD (Nb w1 z B) ?_;rintro v E ⟨rfl,rfl⟩;refine ⟨_,_,rfl,du (λe=>absurd rfl e) (λ_=>?_)⟩
 rintro aB x q j;obtain ⟨c,b⟩:=bl q j;have c:av x aB (us [lB p.Head]) 30:=c;clear j;have C:=g.size;have D:=b.size;have t:a1 x 30 1 (some ⟨aB,0,none⟩) 1 1 (us [lB p.Head]):=⟨rfl,.inr ⟨aB,_,rfl,c,by omega,by decide,rfl,rfl⟩⟩;refine tz t (l2:=hz p) (m:=7) (fu (ai.aj b au) rfl) rfl (by omega) λap d F y s l=>?_
 have u:w.heap.size<=aB:=by omega
 have f:∀ k,aL (some ⟨aB,0,none⟩) k->w.heap.size<=k:=λk r=>by obtain ⟨o,t⟩:=r;simp at t <;> omega
 refine ⟨ap,d,rfl,(g.new b).trans s λk A e=>by have:=f k e;omega,y,λk r=>?_⟩;rcases l k r with e | e
 ·exact f k e
 ·omega
def nP (seq:Int) (cl:List aK):a8:=seq::(cl.length:Int)::(cl.map λp=>p.bm::p.Head::hz p).flatten
def fo (seq:Int) (cl:List aK):a8:=nP seq cl++[sl (nP seq cl)]
theorem J_ (cl:List aK):(cl.map λp=>p.bm::p.Head::hz p).flatten.length=9 * cl.length:=by
 induction cl with
 |nil=>rfl
 |cons p cl a=>rw [gj,hg,dy,a];simp [hz];omega
theorem yT (seq:Int) (cl:List aK):(nP seq cl).length=2+9 * cl.length:=by unfold nP;simp only [hh,J_];omega
theorem pD (seq:Int) (cl:List aK):(fo seq cl).length=3+9 * cl.length:=by unfold fo;rw [dy,yT];simp;omega
def oN (seq:Int) (cl:List aK) (i:Nat):a8:=seq::(cl.length:Int)::((cl.take i).map λp=>p.bm::p.Head::hz p).flatten
theorem yU {r:b0} {W:List aK} (h:fm w r.eH r.dT W) (al:fH r.Seq W 256=0) (XS:1<=r.Seq/\r.Seq<1073741824) (eJ:W.length<=12) (XM:∀ p ∈ W,96<=p.bm/\p.bm<256) :
  bb 210 [r.val] w λv w'=>∃ (a:an) (cap:Nat),v=.slice a (3+9 * W.length) cap/\ai w w'/\a1 w' 30 1 a (3+9 * W.length) cap (us (fo r.Seq W))/\∀ k,aL a k->w.heap.size<=k:=by
 refine bd Tryz.func210 ?_;rw [Hv];rintro b1 w1 S M;obtain ⟨au,D⟩:=bl S M;have au:av w1 b1 r.cells 271:=au;clear M;refine b0.aT r ⟨bO au rfl,?_⟩;refine aD (yy (h.new D) 256) ?_;rintro v XU ⟨rfl,E⟩;rw [al];have hlen:=h.len;have y:=ai.aj E au;refine ⟨_,rfl,du (λe=>absurd rfl e) (λ_=>⟨_,y.cell (i:=0) rfl,_,_,_,y.cell (i:=1) rfl,?_⟩)⟩;dsimp only;rw [kt (x:=r.Seq) (by omega) (by omega),kt (x:=(r.dT:Int)) (by omega) (by omega)];rintro aB XG T N;obtain ⟨G,F⟩:=bl T N;have G:av XG aB (us (oN r.Seq W 0)) 30:=by simpa [oN,us,hlen] using G
 clear N;have K:=(D.new E).new F;have XO:=D.size;have XP:=E.size;have XQ:=F.size;refine ⟨_,_,_,(ai.aj F y).cell (i:=1) rfl,?_⟩;have Xv:a1 XG 30 1 (some ⟨aB,0,none⟩) 2 2 (us (oN r.Seq W 0)):=⟨rfl,.inr ⟨aB,_,rfl,G,by omega,by decide,rfl,rfl⟩⟩;have X:∀ k,aL (some ⟨aB,0,none⟩) k->w.heap.size<=k:=λk n=>by obtain ⟨o,Xv⟩:=n;simp at Xv <;> omega
 refine c8 mix (λm env u=>∃ (i:Nat) (a2:an) (pc:Nat) (XE:ax),m=W.length - i/\i<=W.length/\env=xK a2 (2+9 * i) pc r.eH r.dT r.hv r.dT i XE/\ai w u/\a1 u 30 1 a2 (2+9 * i) pc (us (oN r.Seq W i))/\∀ k,aL a2 k->w.heap.size<=k) W.length
  ⟨0,_,_,_,rfl,by omega,rfl,K,Xv,X⟩ ?_
 rintro m env u ⟨i,a2,pc,XE,rfl,XR,rfl,g,j,s⟩;rw [UY,hlen];refine bc (λC=>?_) (λXL=>?_)
 ·obtain ⟨p,Xw⟩:∃ p,W[i]?=some p:=⟨_,bE (by omega)⟩;have XN:=XM p (b5 Xw);refine eI (cells:=aK.cells) aK.len (by omega) (h.rd.new g) Xw rfl rfl λb o V _=>aK.aT p ⟨V,?_⟩
  refine ec (vs:=p.cells) rfl (aK.single _) λP XF J t d=>⟨_,t.cell (i:=0) rfl,_,t.cell (i:=1) rfl,?_⟩
  rw [kt (x:=p.bm) (by omega) (by omega)];rintro XH bq U l;obtain ⟨f,c⟩:=bl U l;have f:av bq XH (us [p.bm,p.Head]) 30:=f;clear l;have Xy:=d.size;have Xz:=c.size;have XA:=g.size;refine tz (a1.new (d.new c) j) (l2:=[p.bm,p.Head]) (m:=2) (fu f rfl) rfl (by omega) λap z XB Q q B=>?_
  have A:∀ k,aL ap k->w.heap.size<=k:=λk n=>by
   rcases B k n with e | e
   ·exact s k e
   ·omega
  have XD:=t.lt;have Xx:∀ k,aL a2 k->k≠P:=λk n e=>by have:=j.lt n;omega
  have O:av XB P p.cells eu:=q.aj (ai.aj c t) λe=>Xx _ e rfl
  have L:ai w XB:=((g.new d).new c).trans q λk C e=>by have:=s k e;omega
  refine tz Q (l2:=hz p) (m:=7) (fu O rfl) rfl (by omega) λR H XT XK Z I=>?_
  rw [bH (x:=(i:Int)+1) (by omega) (by omega)];have XC:2+9 * i+2+7=2+9 * (i+1):=by omega
  refine ⟨W.length - (i+1),by omega,i+1,R,H,_,rfl,by omega,by rw [<-XC,<-hlen];rfl,L.trans Z λk C e=>by have:=A k e;omega,?_,λk n=>?_⟩
  ·have e:oN r.Seq W i++[p.bm,p.Head]++hz p=oN r.Seq W (i+1):=by unfold oN;rw [ff,Xw];simp
   rw [<-e,<-XC];exact XK
  ·rcases I k n with e | e
   ·exact A k e
   ·have:=L.size;omega
 ·have Y:i=W.length:=by omega
  subst Y;have XJ:oN r.Seq W W.length=nP r.Seq W:=by unfold oN nP;rw [h0]
  rw [XJ] at j;rw [VZ];refine aD (J8 j.rd (by rw [yT]) (by omega)) ?_;rintro v bG ⟨rfl,d⟩;refine ⟨_,rfl,?_⟩;rintro P XF J l;obtain ⟨f,c⟩:=bl J l;have f:av XF P (us [sl (nP r.Seq W)]) 30:=f;clear l;have Xy:=d.size;have Xz:=c.size;have XA:=g.size;refine tz (a1.new (d.new c) j) (l2:=[sl (nP r.Seq W)]) (m:=1) (fu f rfl) rfl (by omega) λap z XB Q q B=>?_
  have XI:2+9 * W.length+1=3+9 * W.length:=by omega
  rw [XI] at Q ⊢;refine ⟨ap,z,rfl,((g.new d).new c).trans q λk C e=>by have:=s k e;omega,Q,λk n=>?_⟩;rcases B k n with e | e
  ·exact s k e
  ·omega
end
section
theorem kU {b i:Nat} {cs:ax} {T:TypeId} {v x:a4} {K:aF} (a:av u b cs T) (c:cs[i]?=some x) (d:∀ w',av w' b (cs.set i v) T->ao (λk=>k=b) u w'->K w') :
  (∃ y,u.cell? ⟨b,i,none⟩=some y)/\u.frozen? ⟨b,i,none⟩=false/\∀ w',w'=u.setCell ⟨b,i,none⟩ v->K w':=
 ⟨⟨x,a.cell c⟩,a.frozen,λw' e=>by subst e;exact d _ (a.setCell v) (eX _ _ _ _)⟩
def addr (num:Int) (m:a0) (x:aQ):aQ:={ x with node:=m.Node,ee:=m.cq,key:=qR num }
theorem BN (w:ak) {m:a0} (XE:0<=r.Number) (XF:r.Number<16) (X:d9 m.cq) (al:cL M w v x) :
  bb 241 [r.val,m.val,.bool true,v.val] w λy w'=>∃ bj:aG,y=bj.val/\cL (λk=>k<w.heap.size) w' bj (addr r.Number m x)/\ai w w':=by
 refine bd Tryz.func241 ?_;rw [W4];rintro b1 w1 T J;obtain ⟨q,H⟩:=bl T J;have q:av w1 b1 r.cells nu:=q;clear J;rintro aB XS U K;obtain ⟨s,D⟩:=bl U K;have s:av XS aB m.cells eG:=s;clear K;rintro R XT V L;obtain ⟨t,p⟩:=bl V L;have t:av XT R v.cells cF:=t;clear L;rintro S XC W N;obtain ⟨u,l⟩:=bl W N;have u:av XC S (aG.cells ⟨0,0,0,0,0,0,none,0,0,0,0⟩) cF:=u;clear N;rintro XU O;have c:ai XC XU:=by rw [O];exact cK _
 clear O;have XL:=H.size;have XM:=D.size;have XN:=p.size;have XO:=l.size;have XP:=c.size;have XH:=q.lt;have XI:=s.lt;have XJ:=t.lt;have XK:=u.lt;have G:=(((H.new D).new p).new l).new c;have XA:=ai.aj (((D.new p).new l).new c) q;have XD:=ai.aj ((p.new l).new c) s;have d:=ai.aj (l.new c) t;have Q:=ai.aj c u;refine ⟨λy=>av y aB m.cells eG,XD,_,λy Xw=>Xw.cell (i:=0) rfl,_,λy Xw=>Xw.cell (i:=1) rfl,kU d (i:=1) rfl λXY d E=>⟨E.aj XD (by omega),kU d (i:=8) rfl λXV d Z=>?_⟩⟩;have b:=E.trans Z λ_ _ e=>e
 have XA:=b.aj XA (by omega);refine ⟨_,XA.cell (i:=0) rfl,?_⟩;refine aD (QO XV XE XF) ?_;rintro z XZ ⟨rfl,rfl⟩;refine ⟨_,_,rfl,kU d (i:=7) rfl λXz d C=>⟨_,_,_,d.cell (i:=6) rfl,?_⟩⟩;have g:ai w Xz:=G.trans (b.trans C λ_ _ e=>e) λk F e=>by omega
 have P:v.cQ=x.words.length:=by rw [al.eq];rfl
 refine aD (A5 (xs:=us x.words) (by rw [hO,P]) (al.rd.new g) (pC _) (by have:=al.kV;omega) (λe=>by rw [P,al.nil e];rfl)) ?_;rintro z XR ⟨B,cap,rfl,j,o,Y,I⟩;have XQ:=g.size;have XB:=(b.trans C λ_ _ e=>e).size;refine ⟨_,_,_,rfl,kU (ai.aj j d) (i:=6) rfl λXx d f=>?_⟩;have Q:=f.aj (ai.aj j ((b.trans C λ_ _ e=>e).aj Q (by omega))) (show ¬ S=R by omega);have d:av Xx R (aG.cells { v with Node:=m.Node,cq:=m.cq,Key:=qR r.Number,Words:=B,cJ:=cap }) cF:=d;refine aG.aT _ ⟨bO d rfl,dQ Q rfl (aG.single _) λXy Q A=>?_⟩;refine aG.aT _ ⟨bO Q rfl,rfl,_,rfl,?_,((g.new j).trans f λk F e=>by omega).trans A λk F e=>by omega⟩;have n:us x.words=[]\/gA (λk=>k<Xz.heap.size) B:=hk o.rd λk XG e=>by have:=Y k XG;omega
 have Xv:bk Xy B (us x.words):=(o.rd.aA f (n.imp id λh=>by
  cases B with
  |none=>trivial
  |some a=>exact λe=>h (by have e:a.block=R:=e;omega))).aA A (n.imp id λh=>by
  cases B with
  |none=>trivial
  |some a=>exact λe=>h (by have e:a.block=S:=e;omega))
 refine ⟨?_,Xv,λe=>al.nil (I.1 e),?_,al.wf,al.new,al.old,?_,X,a1.le o,al.kV⟩
 ·show ({ v with Node:=m.Node,cq:=m.cq,Key:=qR r.Number,Words:=B,cJ:=cap }:aG)=_;have e:=al.eq;generalize v.Words=XW at e;generalize v.cJ=XX at e;subst e;rfl
 ·rcases n with h | h
  ·left;have:=congrArg List.length h;rw [hO] at this;exact fF this
  ·right;cases B with
   |none=>trivial
   |some a=>exact λe=>h (by have e:a.block<w.heap.size:=e;show a.block<Xz.heap.size;omega)
 ·show cj (qR r.Number);unfold qR cj;omega
theorem Ck (l:List a0):∀ r ∈ gw l,r.length=3:=by intro r a;obtain ⟨x,_,rfl⟩:=cZ.1 a;rfl
theorem IE (l:List a0):∀ u ∈ (gw l).flatten,single u=true:=by intro u hu;obtain ⟨r,a,b⟩:=o2.1 hu;obtain ⟨y,_,rfl⟩:=cZ.1 a;exact a0.single y u b
theorem Li {c:Nat} {vs:List a0} (h:vs.length=n) (r:bk w a (gw vs).flatten) (s:n<=1000000) (l:a=none->n=0) :
  bb 243 [.slice a n c] w λv w'=>∃ e cap,v=.slice e n cap/\tA w w' eG 3 a e n cap (gw vs).flatten:=by
 refine bd Tryz.func243 ?_;rw [RS];obtain ⟨i,p,au,d,g⟩:=fV (T:=eG) (z:=.agg #[.int .i64 0,.int .i64 0,.bool false]) (n:=3) (m:=24) (by kernel_rfl);cases a with
 |none=>
  refine gB rfl ⟨none,0,by rw [l rfl],ao.refl _ _,?_,?_,by simp⟩
  ·rw [l rfl] at h ⊢;rw [fF h];exact a1.nil _ _ _
  ·rintro k ⟨o,q⟩;cases q
 |some a=>refine di rfl ?_;rintro b1 w1 rfl rfl;obtain ⟨e,b,w',f,j⟩:=yb (t:=33) (ty:=33) (n:=n) (c:=c) (w:=w) (a:=a) (xs:=(gw vs).flatten) Tryz.underlying33 p au (by rw [d];rfl) (by omega) (by rw [mx (Ck vs),d,gw,fZ,h]) r (IE vs) (by omega) (by rw [g];omega);exact ⟨e,n,b,w',f,e,b,rfl,by rw [d] at j;exact j⟩
theorem Cl {v:jt} (h:gp M w r v) {m:a0} (hm:v.mem[0]?=some m):bb 125 [r.val] w λx w'=>x=.tuple #[m.val,.bool true]/\ai w w':=by
 refine bd Tryz.func125 ?_;rw [W1];rintro b1 w1 p l;obtain ⟨d,g⟩:=bl p l;have d:av w1 b1 r.cells nu:=d;clear l;rintro aB B q n;obtain ⟨f,j⟩:=bl q n;have f:av B aB (a0.cells jW) eG:=f;clear n;have c:=ai.aj j d;have a:=g.new j;have A:=g.size;have C:=b3 hm;have y:=h.len;refine ⟨_,_,_,c.cell (i:=1) rfl,d' (λe=>absurd e (by omega)) (λ_=>⟨_,_,_,c.cell (i:=1) rfl,?_⟩)⟩;refine eI (cells:=a0.cells) a0.len (by omega) (i:=0) (h.rd.new a) hm rfl y λb o s _=>a0.aT m ⟨s,dQ f rfl (a0.single _) λD u t=>?_⟩
 exact a0.aT m ⟨bO u rfl,rfl,rfl,a.trans t λk z e=>by omega⟩
theorem Cm {v:jt} (h:gp M w r v) (B:0<v.mem.length):bb 216 [r.val] w λy w'=>∃ (a:an) (cap:Nat),y=.slice a (v.mem.length - 1) cap/\ai w w'/\bk w' a (gw v.mem.tail).flatten:=by
 refine bd Tryz.func216 ?_;rw [W3];rintro b1 w1 l j;obtain ⟨c,f⟩:=bl l j;have c:av w1 b1 r.cells nu:=c;clear j;have hlen:=h.len;have t:=h.cap;have C:=h.small;refine ⟨_,_,_,c.cell (i:=1) rfl,d' (λe=>absurd e (by omega)) (λ_=>⟨_,_,_,c.cell (i:=1) rfl,?_⟩)⟩;have q:=h.rd.new f;have n:(gw v.mem).flatten.length=v.mem.length * 3:=by rw [mx (Ck _),gw,fZ]
 obtain ⟨b,o,k⟩:∃ b o,r.fh=some ⟨b,o,none⟩:=by
  rcases q with he | ⟨b,o,e,_⟩
  ·have:=congrArg List.length he;rw [n] at this;simp at this <;> omega
  ·exact ⟨b,o,e⟩
 rw [k] at q ⊢;rw [hlen];have s:(gw v.mem.tail).flatten=((gw v.mem).flatten).drop 3:=by
  cases D:v.mem with
  |nil=>rfl
  |cons x xs=>rfl
 refine kM (by omega) (by omega) (by omega) (by omega) (by omega) λa A=>?_
 have d:bk w1 a (gw v.mem.tail).flatten/\a≠none:=by
  rcases A with rfl | ⟨e,rfl⟩
  ·refine ⟨?_,by simp⟩;rw [s];exact q.drop 3
  ·refine ⟨?_,by simp⟩;have:v.mem.tail=[]:=fF (by rw [o1];omega);rw [this];exact .inl rfl
 have z:Int.toNat (v.mem.length:Int) - Int.toNat 1=v.mem.length - 1:=by omega
 rw [z];refine aD (Li (vs:=v.mem.tail) (by rw [o1]) d.1 (by omega) (λe=>absurd e d.2)) ?_;rintro y E ⟨u,cap,rfl,p,g,_⟩;exact ⟨_,_,_,rfl,u,cap,rfl,f.new p,g.rd⟩
structure bK (w0 u:ak) (a:an) (n cap:Nat) (vs:List aQ):Prop where
 ex:∃ cp:List aG,a1 u cF 9 a n cap (dP cp).flatten/\et (λk=>k<w0.heap.size\/aL a k) u cp vs
 len:n=vs.length
 gv:∀ k,aL a k->w0.heap.size<=k
theorem bK.nil (w0 u:ak):bK w0 u none 0 0 []:=⟨⟨[],a1.nil _ _ _,rfl,λi v x h=>by simp at h⟩,rfl,λk a=>absurd a nO⟩
theorem bK.new {w0 u bw:ak} {a:an} {n cap:Nat} {vs:List aQ} (h:bK w0 u a n cap vs) (b:ai u bw):bK w0 bw a n cap vs:=by obtain ⟨⟨cp,f,al⟩,d,c⟩:=h;exact ⟨⟨cp,a1.new b f,al.aA (ao.b9 b) λ_ _ e=>e⟩,d,c⟩
theorem bK.aA {w0 u bw:ak} {a:an} {n cap:Nat} {vs:List aQ} (h:bK w0 u a n cap vs) {M:a6} (b:ao M u bw) (c:∀ k,M k->k<w0.heap.size):bK w0 bw a n cap vs:=by obtain ⟨⟨cp,g,al⟩,f,d⟩:=h;refine ⟨⟨cp,g.aA b λk b e=>?_,al.aA (b.mono λk _ e=>.inl (c k e)) λ_ _ e=>e⟩,f,d⟩;have:=d k b;have:=c k e;omega
theorem bK.mono {w1:ak} (h:bK w1 u a n cap vs) (g:w0.heap.size<=w1.heap.size):bK w0 u a n cap vs:=by obtain ⟨⟨cp,f,al⟩,d,b⟩:=h;exact ⟨⟨cp,f,al.aA (ao.refl _ _) λk _ e=>e.imp (λe=>by omega) id⟩,d,λk c=>by have:=b k c;omega⟩
theorem et.app {r1 b:List aG} {v1 v2:List aQ} (e:et M w r1 v1) (f:et M w b v2):et M w (r1++b) (v1++v2):=by
 obtain ⟨c9,c⟩:=e;obtain ⟨l2,d⟩:=f;refine ⟨by simp [c9,l2],λi v x al a=>?_⟩;by_cases g:i<r1.length
 ·rw [h3 g] at al;rw [h3 (by omega)] at a;exact c i v x al a
 ·rw [h4 (by omega)] at al;rw [h4 (by omega)] at a;rw [<-c9] at a;exact d _ v x al a
theorem et.one (h:cL M w v x):et M w [v] [x]:=⟨rfl,λi bj gh a b=>by
 cases i with
 |zero=>simp at a b;subst a b;exact h
 |succ i=>simp at a⟩
theorem bK.oI (h:bK w0 u a n cap vs) (j:ai w0 u) (hu:ai u bG) (al:cL (λk=>k<u.heap.size) bG v x) (H:n<=100000) {K:Nat->an->Nat->Nat->aF}
  (s:∀ b ap f i,b=bG.heap.size->bK w0 i ap (n+1) f (vs++[x])->ao (aL a) bG i->ai w0 i->K b ap (n+1) f i) :
  ∀ b1 A,b1=bG.heap.size->A=bG.alloc (.cells v.cells.toArray cF)->∃ (ap:an) (d c:Nat),∃ i,(Builtin.append_ #[gI,gI] gI #[(.slice a n cap),(.slice (some ⟨b1,0,none⟩) 1 1)]).run prog A=.ok (.slice ap d c) i/\K b1 ap d c i:=by
 obtain ⟨⟨cp,z,y⟩,E,p⟩:=h;have B:=j.new hu;have F:=j.size;have G:=hu.size;refine M_ (a1.new hu z) (v:=v) (by omega) λb ap f i D C g l=>?_
 have o:∀ k,aL ap k->w0.heap.size<=k:=λk s=>by
  rcases l k s with e | e
  ·exact p k e
  ·omega
 refine s b ap f i D ⟨⟨cp++[v],by rw [HN];simpa [dP] using C,?_⟩,by rw [dy,E];rfl,o⟩ g (B.trans g λk q e=>by have:=p k e;omega);have r:∀ k,k<bG.heap.size->(k<w0.heap.size\/aL ap k)->(k<w0.heap.size\/aL a k):=λk q e=>e.imp id λe=>by
  rcases l k e with e | e
  ·exact e
  ·omega
 have t:=y.aA (M':=λk=>k<w0.heap.size\/aL a k) (ao.b9 hu) λ_ _ e=>e
 refine et.app (t.aA (g.mono λk _ e=>.inr e) r) (et.one ?_);have w:cL (λk=>k<w0.heap.size\/aL a k) bG v x:=al.aA (ao.refl _ _) λk q e=>by
  rcases e with e | e
  ·omega
  ·exact z.lt e
 exact w.aA (g.mono λk _ e=>.inr e) r
theorem bK.l3 (h:bK w0 u a n cap vs) (i:ai w0 u) (hu:ai u bG) (al:cL (λk=>k<u.heap.size) bG v x) (r:n<=100000) {b1:Nat} {j:ak} (q:b1=bG.heap.size) (hw:j=bG.alloc (.cells v.cells.toArray cF))
  (s:∀ ap f g,bK w0 g ap (n+1) f (vs++[x])->ao (aL a) bG g->ai w0 g->K ap (n+1) f g) :
  ∃ (ap:an) (e d:Nat),∃ g,(Builtin.append_ #[gI,gI] gI #[(.slice a n cap),(.slice (some ⟨b1,0,none⟩) 1 1)]).run prog j=.ok (.slice ap e d) g/\K ap e d g:=
 bK.oI h i hu al r (K:=λ_ ap n c w=>K ap n c w) (λb ap f g _ l o p=>s ap f g l o p) b1 j q hw
end
end Go.Proofs.YtmkljjbioomepaaGreat
