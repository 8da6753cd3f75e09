import Derived.Test.YtmkljjbioomepaaGreatProg
import Derived.Test.YtmkljjbioomepaaGreata03
import Derived.Test.YtmkljjbioomepaaGreata15
import Derived.Test.YtmkljjbioomepaaGreata16
set_option linter.all false
set_option maxHeartbeats 4000000
set_option maxRecDepth 100000
namespace Go.Proofs.YtmkljjbioomepaaGreat
open Go.Proofs.Tryz Go.b8
variable {K:ax->Nat->Nat->aV} {M:bB} {a s:ax} {c h i:Int} {cap m n sz:Nat} {r:e3} {u ct w w0:av} {v:a0} {vs:List bn} {x:bn}
section
open IntKind
variable (w:av) (R:dW) {s t:ax} {a b c d:Nat} {i k:Int} {j:aB}
def PK (dm:ax) (a b:Nat) (c:ax) (d f:Nat) (g h:Int) (j:aB):aB:=ag j 0 3 (ad dm a b::ag j 3 14 (ad c d f::I g::I h::ag j 17 21 []))
def afm (dm:ax) (a b:Nat) (j:aB):aB:=ag j 0 3 (ad dm a b::ag j 3 38 [])
theorem ut (k:c0):bS prog f210 [k.val] R w=(bb w k.cells.toArray 271 λe n=>nq n (ae e 0) λr=>dI 167 #[r.val,I 256] n λa j=>cond (a != 0) (R (bC) j) (cQ j (ae e 0) λb=>de j (ae e 1) λc d f=>bb j #[ah (u64.wrap b),ah (u64.wrap (d:Nat))] 30 λl m=>de m (ae e 1) λg h i=>dT prog (e0 f210 [1,1,1,0,1,0,0]) (PK (b7 l) 2 2 g h i (h:Nat) 0 (k.val::jp (ae e 0)::bC::bQ 2 (r.val::I a::U ((a:Int) != 0)::jp (ae e 0)::I b::ah (u64.wrap b)::jp (ae e 1)::ad c d f::eZ d::ah (u64.wrap (d:Nat))::ad (b7 l) 2 2::jp (ae e 1)::bQ 21 []))) (a8 0 (ba f210 [1,1,1,1] R)) m)):=by kernel_rfl
theorem axS (u:aB->aV):W prog (sb f210 [1,1,1,0,1,0,0]) (PK s a b t c d i k j) (bk u (a8 0 (ba f210 [1,1,1,1] R))) w=(cond (k<i) (cb t c k 9 λx=>mS w x λr=>bb w #[I 0,ah 0,ah 0,ah 0,ah 0,ah 0,ah 0,ah 0,ah 0] 73 λf z=>bJ z (ae f 0) 0 r.cells λq=>cQ q (ae f 0) λe=>fR q (ae f 1) λh=>bb q #[ah (u64.wrap e),ah h] 30 λv B=>fk 94 (ad s a b) (ad (b7 v) 2 2) B λg l m y=>fk 94 (ad g l m) (ad (some (ae f 2)) 7 7) y λn o p A=>u (PK n o p t c d i (i64.wrap (k+1)) (ag j 0 4 (jp (ae f 0)::ag j 5 12 (U (k<i)::jp x::r.val::ad s a b::jp (ae f 0)::I e::ah (u64.wrap e)::jp (ae f 1)::ah h::ad (b7 v) 2 2::ad g l m::ad g l m::jp (ae f 2)::ad (some (ae f 2)) 7 7::ad n o p::I (i64.wrap (k+1))::ag j 33 5 [])))) A) (W prog (sb f210 [1,1,1,1]) (afm s a b (ag j 0 17 (ad t c d::I i::I k::U (k<i)::ag j 18 20 []))) (c3 f210 R) w)):=by kernel_rfl
theorem ay2:W prog (sb f210 [1,1,1,1]) (afm s a b j) (c3 f210 R) w=(p5 239 #[ad s a b] w λc k=>bb k #[ah c] 30 λh g=>fk 94 (ad s a b) (ad (b7 h) 1 1) g λe d f i=>R (ad e d f) i):=by kernel_rfl
theorem aBQ (d:a6):bS prog f211 [d.val,I i] R w=(bb w d.cells.toArray 73 λf e=>fR e (ae f 1) λa=>mR 240 #[ah a,I i] e λb c g=>R (.tuple #[ah b,I c]) g):=by kernel_rfl
theorem azy (h:a6):bS prog f244 [h.val] R w=(bb w h.cells.toArray 73 λe i=>fR i (ae e 1) λa=>mR 206 #[ah a] i λb c g=>cond (c != 0) (R (.tuple #[bC,I c]) g) (bb g #[ah b] 30 λk m=>fk 94 (ad (b7 k) 1 1) (ad (some (ae e 2)) 7 7) m λj d f l=>R (.tuple #[ad j d f,I 0]) l)):=by kernel_rfl
end
section
open IntKind
variable (w:av) (R:dW) {a b c d:Nat} {s t:ax} {i k:Int} {A B:bh} {j:aB}
theorem avP (h:bp) (i:a0):bS prog f212 [bM a,h.val,i.val] R w=(bb w h.cells.toArray 116 λn q=>bb q i.cells.toArray 158 λj m=>bb m #[I 0,I 0,I 0,I 0,ah 0,ah 0,bC,ah 0,I 0] 158 λg o=>dP o λl f=>VI f (ae a 3) λd=>mu f (ae n 0) λr=>ae9 f (ae j 0) λk=>hX 241 #[d.val,r.val,U true,k.val] l λb p=>bJ p (ae g 0) 0 b.cells λe=>u_ e (ae g 0) λc=>e=e/\R c.val e):=by kernel_rfl
theorem axo:bS prog f213 [bM a,ad s b c,I i] R w=(bb w #[I 0,I 0] 171 λj u=>wN u (ae a 7) λt=>p7 116 #[.pointer t,ad s b c] u λn d f g r=>cond (!g) (bJ r (ae j 0) 0 [I 0,I 0] λo=>gT o (ae j 0) λe=>o=o/\R (.tuple #[bC,e.val,U false]) o) (dI 242 #[ad n d f] r λh q=>cond (h != 0) (bJ q (ae j 0) 0 [I h,I i] λp=>gT p (ae j 0) λk=>p=p/\R (.tuple #[bC,k.val,U false]) p) (bJ q (ae j 0) 0 [I 0,I 0] λm=>gT m (ae j 0) λl=>m=m/\R (.tuple #[ad n d f,l.val,U true]) m))):=by kernel_rfl
def NV (cJ dm:bh) (eV:ax) (a b:Nat) (c:ax) (d f:Nat) (g h:Int) (j:aB):aB:=.pointer (some cJ)::ag j 0 2 (.pointer (some dm)::ag j 2 1 (ad eV a b::ag j 3 8 (ad c d f::I g::I h::ag j 11 21 [])))
def aea (eV:ax) (a b:Nat) (j:aB):aB:=ag j 0 5 (ad eV a b::ag j 5 32 [])
theorem awO (e:bp):bS prog f217 [bM a,e.val] R w=(bb w e.cells.toArray 116 λg f=>de f (ae a 6) λd b c=>dT prog (e0 f217 [1,1,0,1,0,0]) (NV (ae a 0) (ae g 0) none 0 0 d b c (b:Nat) 0 (e.val::undef::bC::bQ 4 (jp (ae a 0)::jp (ae a 0)::jp (ae a 0)::jp (ae a 6)::bQ 21 []))) (a8 0 (ba f217 [1,1,1] R)) f):=by kernel_rfl
theorem auK (C:aB->aV):W prog (sb f217 [1,1,0,1,0,0]) (NV A B s a b t c d i k j) (bk C (a8 0 (ba f217 [1,1,1] R))) w=(cond (k<i) (cb t c k 9 λF=>mS w F λr=>bb w #[I 0,ah 0,ah 0,ah 0,ah 0,ah 0,ah 0,ah 0,ah 0] 73 λu K=>bJ K (ae u 0) 0 r.cells λz=>mS z (ae u 0) λD=>HB 244 #[D.val] z λf g l m L=>dP L λbG h=>mu h B λG=>eG h (ae u 0) λn=>dI 108 #[I n] bG λo H=>h H/\hX 212 #[.pointer (some A),G.val,.agg #[I 2,I 0,I o,I 0,ah 0,ah 0,ad f g l,ah 0,I 0]] H λe x=>h x/\bb x e.cells.toArray 158 λE bF=>h bF/\fk 125 (ad s a b) (ad (b7 E) 1 1) bF λv p q y=>h y/\C (NV A B v p q t c d i (i64.wrap (k+1)) (ag j 0 4 (jp (ae u 0)::ad f g l::I m::ag j 7 4 [U (k<i),jp F,r.val,.tuple #[ad f g l,I m],D.val,.tuple #[ad f g l,I m],ad f g l,I m,ad s a b,jp A,G.val,jp (ae u 0),I n,I o,ad f g l,.agg #[I 2,I 0,I o,I 0,ah 0,ah 0,ad f g l,ah 0,I 0],e.val,ad (b7 E) 1 1,ad v p q,I (i64.wrap (k+1)),aW j 31]))) y) (W prog (sb f217 [1,1,1]) (aea s a b (jp A::aW j 0::aW j 1::jp B::ag j 2 9 (ad t c d::I i::I k::U (k<i)::ag j 12 20 []))) (c3 f217 R) w)):=by kernel_rfl
theorem avt:W prog (sb f217 [1,1,1]) (aea s a b j) (c3 f217 R) w=(R (ad s a b) w):=by kernel_rfl
theorem awP (s:bp):bS prog f218 [bM a,s.val] R w=(bb w s.cells.toArray 116 λz A=>bb A #[I 0,I 0,I 0,I 0,ah 0,ah 0,bC,ah 0,I 0] 158 λm y=>dP y λu j=>mu j (ae z 0) λr=>eG j (ae a 0) λe=>eG j (ae a 1) λb=>(dI 225 #[I e] u λc q=>j q/\bb q #[ah (u64.wrap b)] 30 λB v=>j v/\hX 212 #[bM a,r.val,.agg #[I 2,I 0,I c,I 0,ah 0,ah 0,ad (b7 B) 1 1,ah 0,I 0]] v λf o=>j o/\bJ o (ae m 0) 0 f.cells λn=>u_ n (ae m 0) λg=>n=n/\R g.val n)/\bb u #[ah (u64.wrap b)] 30 λx p=>j p/\dI 225 #[I e] p λd t=>j t/\hX 212 #[bM a,r.val,.agg #[I 2,I 0,I d,I 0,ah 0,ah 0,ad (b7 x) 1 1,ah 0,I 0]] t λi h=>j h/\bJ h (ae m 0) 0 i.cells λk=>u_ k (ae m 0) λl=>k=k/\R l.val k):=by kernel_rfl
def NQ (cJ dm:bh) (eV:ax) (a b:Nat) (c:ax) (d f:Nat) (g h:Int) (j:aB):aB:=.pointer (some cJ)::ag j 0 2 (.pointer (some dm)::ag j 2 1 (ad eV a b::ag j 3 7 (ad c d f::I g::I h::ag j 10 12 [])))
def ad_ (eV:ax) (a b:Nat) (j:aB):aB:=ag j 0 5 (ad eV a b::ag j 5 22 [])
theorem axd (e:a0):bS prog f237 [bM a,e.val] R w=(bb w e.cells.toArray 158 λg f=>de f (ae a 4) λd b c=>dT prog (e0 f237 [1,1,0,1,0,0]) (NQ (ae a 0) (ae g 0) none 0 0 d b c (b:Nat) 0 (e.val::undef::bC::bQ 2 (jp (ae a 0)::jp (ae a 0)::jp (ae a 0)::jp (ae a 3)::jp (ae a 4)::bQ 12 []))) (a8 0 (ba f237 [1,1,1] R)) f):=by kernel_rfl
theorem avG (p:aB->aV):W prog (sb f237 [1,1,0,1,0,0]) (NQ A B s a b t c d i k j) (bk p (a8 0 (ba f237 [1,1,1] R))) w=(cond (k<i) (cb t c k 3 λq=>ot w q λr=>bb w #[I 0,I 0,U false] 116 λh z=>bJ z (ae h 0) 0 r.cells λm=>ot m (ae h 0) λn=>u_ m B λu=>hX 212 #[.pointer (some A),n.val,u.val] m λl x=>bb x l.cells.toArray 158 λo v=>fk 125 (ad s a b) (ad (b7 o) 1 1) v λf e g y=>p (NQ A B f e g t c d i (i64.wrap (k+1)) (ag j 0 4 (jp (ae h 0)::ag j 5 5 [U (k<i),jp q,r.val,ad s a b,jp A,n.val,u.val,l.val,ad (b7 o) 1 1,ad f e g,I (i64.wrap (k+1)),aW j 21]))) y) (W prog (sb f237 [1,1,1]) (ad_ s a b (jp A::aW j 0::aW j 1::jp B::ag j 2 8 (ad t c d::I i::I k::U (k<i)::ag j 11 11 []))) (c3 f237 R) w)):=by kernel_rfl
theorem avV:W prog (sb f237 [1,1,1]) (ad_ s a b j) (c3 f237 R) w=(R (ad s a b) w):=by kernel_rfl
end
section
theorem yP {k:Nat}:¬ a7 none k:=λh=>by obtain ⟨o,aq⟩:=h;cases aq
theorem Yr {α:Type} {cells:α->aH} (h:∀ x,(cells x).length=sz) (l:List α):(l.map cells).flatten.length=l.length * sz:=by rw [vP (sz:=sz),jS];intro r aA;obtain ⟨x,_,rfl⟩:=eQ.1 aA;exact h x
theorem Fp {α:Type} {cells:α->aH} {S e:TypeId} {inf:TypeInfo} {z:bx} (dG:∀ x,(cells x).length=sz) (atn:∀ x,∀ v ∈ cells x,single v=true)
  (aZ:prog.underlying S=some (.slice e)) (aD:prog.info? e=some inf) (aE:inf.zero=some z) (sv:z.cells.size=inf.size) (arG:inf.size=sz) (aN:0<sz) (gm:inf.bytes<=1000)
  {l:List α} (aq:bu u e sz a n cap (l.map cells).flatten) {c:Nat} {l2:List α} (aX:bW u s (l2.map cells).flatten) (hm:m=l2.length) (aj:n+m<=1000000)
  (J:∀ ap bU aY,bu aY e sz ap (n+m) bU ((l++l2).map cells).flatten->ay (a7 a) u aY->(∀ k,a7 ap k->a7 a k\/u.heap.size<=k)->K ap (n+m) bU aY) :
  ∃ (ap:ax) (h_ h9:Nat),∃ aY,(Builtin.append_ #[S,S] S #[(.slice a n cap),(.slice s m c)]).run prog u=.ok (.slice ap h_ h9) aY/\K ap h_ h9 aY:=by
 subst arG;have hI:(n+m) * inf.bytes<=1000000 * 1000:=CW aj gm;have ato:∀ x ∈ (l2.map cells).flatten,single x=true:=by intro x ao;obtain ⟨r,aA,ao⟩:=A4.1 ao;obtain ⟨y,_,rfl⟩:=eQ.1 aA;exact atn y x ao
 obtain ⟨ap,bU,cR,fV,cV,GV,fC⟩:=bu.append (P:=prog) (t:=S) (ty:=S) aZ aD aE sv aN aq (s:=s) (m:=m) (c:=c) (news:=(l2.map cells).flatten) (by rw [Yr dG,hm]) aX ato (by omega) (by omega);have bY:(l.map cells).flatten++(l2.map cells).flatten=((l++l2).map cells).flatten:=by simp
 rw [bY] at cV;refine ⟨ap,n+m,bU,cR,fV,J ap bU cR cV GV λk J=>?_⟩;rcases fC with e | e
 ·exact .inl (e▸J)
 ·obtain ⟨o,aq⟩:=J;rw [e] at aq;simp at aq;exact .inr (by omega)
def IQ (x:Int):aH:=[.int .u64 x]
theorem MG (l:bR):(l.map IQ).flatten=us l:=by
 induction l with
 |nil=>rfl
 |cons x l c5=>simp [IQ,us] at c5 ⊢;exact c5
theorem ID {l:bR} (aq:bu u 30 1 a n cap (us l)) {c:Nat} {l2:bR} (aX:bW u s (us l2)) (hm:m=l2.length) (aj:n+m<=1000000)
  (J:∀ ap bU aY,bu aY 30 1 ap (n+m) bU (us (l++l2))->ay (a7 a) u aY->(∀ k,a7 ap k->a7 a k\/u.heap.size<=k)->K ap (n+m) bU aY) :
  ∃ (ap:ax) (h_ h9:Nat),∃ aY,(Builtin.append_ #[94,94] 94 #[(.slice a n cap),(.slice s m c)]).run prog u=.ok (.slice ap h_ h9) aY/\K ap h_ h9 aY:=by
 obtain ⟨inf,aD,aE,cr,gm⟩:=j5 (T:=30) (z:=.int .u64 0) (n:=1) (m:=8) (by kernel_rfl);refine Fp (cells:=IQ) (sz:=1) (λ_=>rfl) (λx v aw=>by simp [IQ] at aw;subst aw;rfl) Tryz.underlying94 aD aE (by rw [cr];rfl) cr (by decide) (by rw [gm];decide) (l:=l) (by rw [MG];exact aq) (l2:=l2) (by rw [MG];exact aX) hm aj λap bU aY af=>?_
 rw [MG] at af;exact J ap bU aY af
def ii (h c:Int):Int:=pI .u64 h (c+1)
def t_ (h:Int):Int:=n8 .u64 (fr .u64 h 8+1) 8
def j7 (s:Int):Int:=pI .u64 (n8 .u64 s 2) 2
def EB (n:Int):Int:=2 * n+1
theorem Rh (x:Int):dp (IntKind.u64.wrap x):=by unfold dp;simp only [IntKind.wrap,IntKind.bits,IntKind.signed];simp;omega
theorem Zl (h c:Int):dp (ii h c):=Rh _
theorem alh (h:Int):dp (t_ h):=Rh _
theorem Rx (s:Int):dp (j7 s):=Rh _
theorem amS (w:av) (hu:vf h=true) (ab:0<=c/\c<6):bK 240 [.int .u64 h,.int .i64 c] w λv w'=>v=.tuple #[.int .u64 (ii h c),.int .i64 0]/\w'=w:=by
 refine bO Tryz.func240 ?_;rw [ag2];refine aR (ah7 w c) ?_;rintro v w1 ⟨rfl,rfl⟩;refine ⟨_,rfl,ht (λaJ=>absurd (of_decide_eq_false aJ) (by omega)) (λ_=>?_)⟩
 refine aR (Nb w1 h) ?_;rintro v aS ⟨rfl,rfl⟩;refine ⟨_,rfl,ht (λaJ=>by rw [hu] at aJ;cases aJ) (λ_=>⟨?_,rfl⟩)⟩
 rw [cn (x:=c+1) (by omega) (by omega),rJ (x:=c+1) (by omega) (by omega)];rfl
theorem RZ (w:av) {s:Int} (h:1<=s/\s<1073741824):bK 214 [.int .i64 s] w λv w'=>v=.tuple #[.int .u64 (j7 s),.int .i64 0]/\w'=w:=by
 refine bO Tryz.func214 ?_;rw [VS];refine aR (HP w s 1 1073741823) ?_;rintro v w1 ⟨rfl,rfl⟩;refine ⟨_,rfl,ht (λaJ=>absurd (of_decide_eq_false aJ) (by omega)) (λ_=>⟨?_,rfl⟩)⟩
 rw [rJ (x:=s) (by omega) (by omega)];rfl
theorem ali (w:av) (hu:dp h) (aj:sF h=true):bK 206 [.int .u64 h] w λv w'=>v=.tuple #[.int .u64 (t_ h),.int .i64 0]/\w'=w:=by
 refine bO Tryz.func206 ?_;rw [agq];refine aR (Zh w h) ?_;rintro v w1 ⟨rfl,rfl⟩;refine ⟨_,_,rfl,?_⟩;refine aR (WC w1 _ 1 281474976710654) ?_;rintro v aS ⟨rfl,rfl⟩;have ak:=alF hu;unfold sF at aj;refine ⟨_,rfl,ht (λaJ=>by rw [aj] at aJ;cases aJ) (λ_=>⟨?_,rfl⟩)⟩
 rw [qJ (x:=fr .u64 h 8+1) (by omega) (by omega)];rfl
theorem aoG (w:av) {n:Int} (aN:0<=n) (af:n<16):bK 103 [.int .i64 n,.bool true] w λv w'=>v=.tuple #[.int .u64 (EB n),.int .i64 0]/\w'=w:=by refine bO Tryz.func103 ?_;rw [agC];refine aR (HP w n 0 15) ?_;rintro v w1 ⟨rfl,rfl⟩;refine ⟨_,rfl,eX (by simp;omega) (g8 rfl ⟨?_,rfl⟩)⟩;rw [qJ (x:=n) (by omega) (by omega),qJ (x:=n * 2) (by omega) (by omega),qJ (by omega) (by omega)];unfold EB;rw [Int.mul_comm]
def iR (c:Int):Int:=48+120 * c
theorem WD (w:av) (ab:0<=c/\c<6) (aD:0<=i/\i<1000):bK 238 [.int .i64 c,.int .i64 i] w λv w'=>v=.int .i64 (iR c+i)/\w'=w:=by
 refine bO Tryz.func238 ?_;rw [azs];refine bL (λh=>absurd h (by omega)) (λ_=>bL (λh=>absurd h (by omega)) (λ_=>⟨?_,rfl⟩))
 unfold iR;rw [cn (x:=c * 15) (by omega) (by omega),cn (x:=6+c * 15) (by omega) (by omega),cn (x:=(6+c * 15) * 8) (by omega) (by omega),cn (x:=(6+c * 15) * 8+i) (by omega) (by omega)];congr 1;omega
theorem Y4 (w:av) (ab:0<=c/\c<6):bK 209 [.int .i64 c] w λv w'=>v=.int .i64 (iR c+8)/\w'=w:=by refine bO Tryz.func209 ?_;rw [aCK];refine aR (WD w ab (i:=8) (by omega)) ?_;rintro v w1 ⟨rfl,rfl⟩;exact ⟨_,rfl,rfl,rfl⟩
theorem Ry (w:av) (ab:0<=c/\c<6):bK 215 [.int .i64 c] w λv w'=>v=.int .i64 (iR c)/\w'=w:=by refine bO Tryz.func215 ?_;rw [aCL];refine aR (WD w ab (i:=0) (by omega)) ?_;rintro v w1 ⟨rfl,rfl⟩;exact ⟨_,rfl,by rw [Int.add_zero],rfl⟩
section
attribute [local irreducible] oq px xI
theorem MH (w:av) (aD:0<=i/\i<6):bK 225 [.int .i64 i] w λv w'=>v=.int .i64 (32+i)/\ai w w':=by
 refine bO Tryz.func225 ?_;rw [aCq];refine aR (QL _ _ _) ?_;rintro v w1 ⟨d9,ea,rfl,DV,bA,aj⟩;have b3:=QM;refine ⟨_,rfl,?_⟩;have ao:(#[]++#[.int .i64 i]++#[ptr d9,ptr ea]:Array bx)=#[.int .i64 i,ptr d9,ptr ea]:=by simp
 refine EW b3 ao ?_;refine aR (Qv w1 DV bA (by omega) (by omega) i) ?_;rintro v aS ⟨rfl,rfl⟩;refine ⟨_,rfl,?_,aj⟩;unfold za;rw [if_neg (by omega),show (4:Int) * 8+i=32+i by omega]
end
theorem Ri (w:av) (p:a6) (hu:vf p.Head=true) (ab:0<=c/\c<6):bK 211 [p.val,.int .i64 c] w λv w'=>v=.tuple #[.int .u64 (ii p.Head c),.int .i64 0]/\ai w w':=by refine bO Tryz.func211 ?_;rw [aBQ];rintro b1 w1 bA br;obtain ⟨aE,aj⟩:=b4 bA br;have aE:aF w1 b1 p.cells hs:=aE;clear br;refine ⟨_,aE.cell (i:=1) rfl,?_⟩;refine aR (amS w1 hu ab) ?_;rintro v aS ⟨rfl,rfl⟩;exact ⟨_,_,rfl,rfl,aj⟩
def mZ (p:a6):bR:=[p.MM,p.XX,p.XY,p.XZ,p.X0,p.X1,p.X2]
def oE (p:a6):bR:=t_ p.Head::mZ p
theorem XS (w:av) (p:a6) (ed:dp p.Head) (aj:sF p.Head=true):bK 244 [p.val] w λv w'=>∃ (a:ax) (cap:Nat),v=.tuple #[.slice a 8 cap,.int .i64 0]/\ai w w'/\bu w' 30 1 a 8 cap (us (oE p))/\∀ k,a7 a k->w.heap.size<=k:=by
 refine bO Tryz.func244 ?_;rw [azy];rintro b1 w1 bA br;obtain ⟨aE,a1⟩:=b4 bA br;have aE:aF w1 b1 p.cells hs:=aE;clear br;refine ⟨_,aE.cell (i:=1) rfl,?_⟩;refine aR (ali w1 ed aj) ?_;rintro v aS ⟨rfl,rfl⟩;refine ⟨_,_,rfl,fX (λe=>absurd rfl e) (λ_=>?_)⟩
 rintro aP aY cv dY;obtain ⟨cx,bf⟩:=b4 cv dY;have cx:aF aY aP (us [t_ p.Head]) 30:=cx;clear dY;have fI:=a1.size;have j2:=bf.size;have aq:bu aY 30 1 (some ⟨aP,0,none⟩) 1 1 (us [t_ p.Head]):=⟨rfl,.inr ⟨aP,_,rfl,cx,by omega,by decide,rfl,rfl⟩⟩;refine ID aq (l2:=mZ p) (m:=7) (jk (ai.an bf aE) rfl) rfl (by omega) λap bU bZ ca dv fC=>?_
 have aDB:w.heap.size<=aP:=by omega
 have fH:∀ k,a7 (some ⟨aP,0,none⟩) k->w.heap.size<=k:=λk J=>by obtain ⟨o,aq⟩:=J;simp at aq <;> omega
 refine ⟨ap,bU,rfl,(a1.new bf).trans dv λk aK e=>by have:=fH k e;omega,ca,λk J=>?_⟩;rcases fC k J with e | e
 ·exact fH k e
 ·omega
def yS (seq:Int) (dA:List a6):bR:=seq::(dA.length:Int)::(dA.map λp=>p.b5::p.Head::mZ p).flatten
def je (seq:Int) (dA:List a6):bR:=yS seq dA++[Gq (yS seq dA)]
theorem aic (dA:List a6):(dA.map λp=>p.b5::p.Head::mZ p).flatten.length=9 * dA.length:=by
 induction dA with
 |nil=>rfl
 |cons p dA c5=>rw [kQ,l7,gp,c5];simp [mZ];omega
theorem Rj (seq:Int) (dA:List a6):(yS seq dA).length=2+9 * dA.length:=by unfold yS;simp only [l8,aic];omega
theorem Cm (seq:Int) (dA:List a6):(je seq dA).length=3+9 * dA.length:=by unfold je;rw [gp,Rj];simp;omega
def AB (seq:Int) (dA:List a6) (i:Nat):bR:=seq::(dA.length:Int)::((dA.take i).map λp=>p.b5::p.Head::mZ p).flatten
theorem Rk {r:c0} {W:List a6} (h:jd w r.hO r.gO W) (aw:jD r.Seq W 256=0) (aX:1<=r.Seq/\r.Seq<1073741824) (ig:W.length<=12) (au:∀ p ∈ W,96<=p.b5/\p.b5<256) :
  bK 210 [r.val] w λv w'=>∃ (a:ax) (cap:Nat),v=.slice a (3+9 * W.length) cap/\ai w w'/\bu w' 30 1 a (3+9 * W.length) cap (us (je r.Seq W))/\∀ k,a7 a k->w.heap.size<=k:=by
 refine bO Tryz.func210 ?_;rw [ut];rintro b1 w1 bA br;obtain ⟨aE,a1⟩:=b4 bA br;have aE:aF w1 b1 r.cells 271:=aE;clear br;refine c0.bd r ⟨cD aE rfl,?_⟩;refine aR (QN (h.new a1) 256) ?_;rintro v aS ⟨rfl,a5⟩;rw [aw];have hlen:=h.len;have y:=ai.an a5 aE;refine ⟨_,rfl,fX (λe=>absurd rfl e) (λ_=>⟨_,y.cell (i:=0) rfl,_,_,_,y.cell (i:=1) rfl,?_⟩)⟩;dsimp only;rw [rJ (x:=r.Seq) (by omega) (by omega),rJ (x:=(r.gO:Int)) (by omega) (by omega)];rintro aP aY cv dY;obtain ⟨cx,bf⟩:=b4 cv dY;have cx:aF aY aP (us (AB r.Seq W 0)) 30:=by simpa [AB,us,hlen] using cx
 clear dY;have tr:=(a1.new a5).new bf;have fI:=a1.size;have jc:=a5.size;have j2:=bf.size;refine ⟨_,_,_,(ai.an bf y).cell (i:=1) rfl,?_⟩;have aq:bu aY 30 1 (some ⟨aP,0,none⟩) 2 2 (us (AB r.Seq W 0)):=⟨rfl,.inr ⟨aP,_,rfl,cx,by omega,by decide,rfl,rfl⟩⟩;have fH:∀ k,a7 (some ⟨aP,0,none⟩) k->w.heap.size<=k:=λk J=>by obtain ⟨o,aq⟩:=J;simp at aq <;> omega
 refine e2 mix (λm env u=>∃ (i:Nat) (pa:ax) (pc:Nat) (aT:aH),m=W.length - i/\i<=W.length/\env=PK pa (2+9 * i) pc r.hO r.gO r.mC r.gO i aT/\ai w u/\bu u 30 1 pa (2+9 * i) pc (us (AB r.Seq W i))/\∀ k,a7 pa k->w.heap.size<=k) W.length
  ⟨0,_,_,_,rfl,by omega,rfl,tr,aq,fH⟩ ?_
 rintro m env u ⟨i,pa,pc,aT,rfl,aD,rfl,dN,KD,iQ⟩;rw [axS,hlen];refine bL (λaK=>?_) (λhQ=>?_)
 ·obtain ⟨p,ar⟩:∃ p,W[i]?=some p:=⟨_,cp (by omega)⟩;have gw:=au p (dn ar);refine hq (cells:=a6.cells) a6.len (by omega) (h.rd.new dN) ar rfl rfl λb o gD _=>a6.bd p ⟨gD,?_⟩
  refine g0 (vs:=p.cells) rfl (a6.single _) λbT cS ej dk bz=>⟨_,dk.cell (i:=0) rfl,_,dk.cell (i:=1) rfl,?_⟩
  rw [rJ (x:=p.b5) (by omega) (by omega)];rintro ec b2 iO eO;obtain ⟨dL,bH⟩:=b4 iO eO;have dL:aF b2 ec (us [p.b5,p.Head]) 30:=dL;clear eO;have pq:=bz.size;have nQ:=bH.size;have G7:=dN.size;refine ID (bu.new (bz.new bH) KD) (l2:=[p.b5,p.Head]) (m:=2) (jk dL rfl) rfl (by omega) λap bU c6 e8 eu fC=>?_
  have BE:∀ k,a7 ap k->w.heap.size<=k:=λk J=>by
   rcases fC k J with e | e
   ·exact iQ k e
   ·omega
  have zW:=dk.lt;have KK:∀ k,a7 pa k->k≠bT:=λk J e=>by have:=KD.lt J;omega
  have at4:aF c6 bT p.cells hs:=eu.an (ai.an bH dk) λe=>KK _ e rfl
  have cg:ai w c6:=((dN.new bz).new bH).trans eu λk aK e=>by have:=iQ k e;omega
  refine ID e8 (l2:=mZ p) (m:=7) (jk at4 rfl) rfl (by omega) λDr mF ff i' eD aqn=>?_
  rw [cn (x:=(i:Int)+1) (by omega) (by omega)];have DE:2+9 * i+2+7=2+9 * (i+1):=by omega
  refine ⟨W.length - (i+1),by omega,i+1,Dr,mF,_,rfl,by omega,by rw [<-DE,<-hlen];rfl,cg.trans eD λk aK e=>by have:=BE k e;omega,?_,λk J=>?_⟩
  ·have e:AB r.Seq W i++[p.b5,p.Head]++mZ p=AB r.Seq W (i+1):=by unfold AB;rw [iW,ar];simp
   rw [<-e,<-DE];exact i'
  ·rcases aqn k J with e | e
   ·exact BE k e
   ·have:=cg.size;omega
 ·have g2:i=W.length:=by omega
  subst g2;have ta:AB r.Seq W W.length=yS r.Seq W:=by unfold AB yS;rw [nx]
  rw [ta] at KD;rw [ay2];refine aR (aia KD.rd (by rw [Rj]) (by omega)) ?_;rintro v ct ⟨rfl,bz⟩;refine ⟨_,rfl,?_⟩;rintro bT cS ej eO;obtain ⟨dL,bH⟩:=b4 ej eO;have dL:aF cS bT (us [Gq (yS r.Seq W)]) 30:=dL;clear eO;have pq:=bz.size;have nQ:=bH.size;have G7:=dN.size;refine ID (bu.new (bz.new bH) KD) (l2:=[Gq (yS r.Seq W)]) (m:=1) (jk dL rfl) rfl (by omega) λap bU c6 e8 eu fC=>?_
  have dF:2+9 * W.length+1=3+9 * W.length:=by omega
  rw [dF] at e8 ⊢;refine ⟨ap,bU,rfl,((dN.new bz).new bH).trans eu λk aK e=>by have:=iQ k e;omega,e8,λk J=>?_⟩;rcases fC k J with e | e
  ·exact iQ k e
  ·omega
end
section
theorem sQ {b i:Nat} {cs:aH} {T:TypeId} {v x:bx} {K:aV} (ak:aF u b cs T) (aD:cs[i]?=some x) (J:∀ w',aF w' b (cs.set i v) T->ay (λk=>k=b) u w'->K w') :
  (∃ y,u.cell? ⟨b,i,none⟩=some y)/\u.frozen? ⟨b,i,none⟩=false/\∀ w',w'=u.setCell ⟨b,i,none⟩ v->K w':=
 ⟨⟨x,ak.cell aD⟩,ak.frozen,λw' e=>by subst e;exact J _ (ak.setCell v) (iu _ _ _ _)⟩
def addr (num:Int) (m:bp) (x:bn):bn:={ x with node:=m.Node,hd:=m.dJ,key:=EB num }
theorem Xa (w:av) {m:bp} (aN:0<=r.Number) (af:r.Number<16) (fb:gF m.dJ) (aw:ei M w v x) :
  bK 241 [r.val,m.val,.bool true,v.val] w λy w'=>∃ bX:a0,y=bX.val/\ei (λk=>k<w.heap.size) w' bX (addr r.Number m x)/\ai w w':=by
 refine bO Tryz.func241 ?_;rw [aCz];rintro b1 w1 bA br;obtain ⟨bm,a1⟩:=b4 bA br;have bm:aF w1 b1 r.cells x2:=bm;clear br;rintro aP aS cv cG;obtain ⟨bP,a5⟩:=b4 cv cG;have bP:aF aS aP m.cells hN:=bP;clear cG;rintro bT aY ej dY;obtain ⟨cx,bf⟩:=b4 ej dY;have cx:aF aY bT v.cells d8:=cx;clear dY;rintro ec bZ iO eE;obtain ⟨dk,bz⟩:=b4 iO eE;have dk:aF bZ ec (a0.cells ⟨0,0,0,0,0,0,none,0,0,0,0⟩) d8:=dk;clear eE;rintro cK eO;have bH:ai bZ cK:=by rw [eO];exact eh _
 clear eO;have fI:=a1.size;have jc:=a5.size;have j2:=bf.size;have pq:=bz.size;have nQ:=bH.size;have g3:=bm.lt;have nM:=bP.lt;have z7:=cx.lt;have aDV:=dk.lt;have q':=(((a1.new a5).new bf).new bz).new bH;have qQ:=ai.an (((a5.new bf).new bz).new bH) bm;have AZ:=ai.an ((bf.new bz).new bH) bP;have n4:=ai.an (bz.new bH) cx;have ub:=ai.an bH dk;refine ⟨λy=>aF y aP m.cells hN,AZ,_,λy az=>az.cell (i:=0) rfl,_,λy az=>az.cell (i:=1) rfl,sQ n4 (i:=1) rfl λdh n4 eu=>⟨eu.an AZ (by omega),sQ n4 (i:=8) rfl λcR n4 eD=>?_⟩⟩;have z5:=eu.trans eD λ_ _ e=>e
 have qQ:=z5.an qQ (by omega);refine ⟨_,qQ.cell (i:=0) rfl,?_⟩;refine aR (aoG cR aN af) ?_;rintro z e6 ⟨rfl,rfl⟩;refine ⟨_,_,rfl,sQ n4 (i:=7) rfl λhD n4 fK=>⟨_,_,_,n4.cell (i:=6) rfl,?_⟩⟩;have Ub:ai w hD:=q'.trans (z5.trans fK λ_ _ e=>e) λk aK e=>by omega
 have ps:v.ey=x.words.length:=by rw [aw.eq];rfl
 refine aR (VY (xs:=us x.words) (by rw [m9,ps]) (aw.rd.new Ub) (Cl _) (by have:=aw.sU;omega) (λe=>by rw [ps,aw.nil e];rfl)) ?_;rintro z hZ ⟨cB,cap,rfl,lW,cV,fH,Uj⟩;have Pb:=Ub.size;have aEm:=(z5.trans fK λ_ _ e=>e).size;refine ⟨_,_,_,rfl,sQ (ai.an lW n4) (i:=6) rfl λkq n4 tn=>?_⟩;have ub:=tn.an (ai.an lW ((z5.trans fK λ_ _ e=>e).an ub (by omega))) (show ¬ ec=bT by omega);have n4:aF kq bT (a0.cells { v with Node:=m.Node,dJ:=m.dJ,Key:=EB r.Number,Words:=cB,eg:=cap }) d8:=n4;refine a0.bd _ ⟨cD n4 rfl,gL ub rfl (a0.single _) λmx ub pS=>?_⟩;refine a0.bd _ ⟨cD ub rfl,rfl,_,rfl,?_,((Ub.new lW).trans tn λk aK e=>by omega).trans pS λk aK e=>by omega⟩;have pU:us x.words=[]\/kR (λk=>k<hD.heap.size) cB:=mK cV.rd λk J e=>by have:=fH k J;omega
 have dw:bW mx cB (us x.words):=(cV.rd.aO tn (pU.imp id λh=>by
  cases cB with
  |none=>trivial
  |some a=>exact λe=>h (by have e:a.block=bT:=e;omega))).aO pS (pU.imp id λh=>by
  cases cB with
  |none=>trivial
  |some a=>exact λe=>h (by have e:a.block=ec:=e;omega))
 refine ⟨?_,dw,λe=>aw.nil (Uj.1 e),?_,aw.wf,aw.new,aw.old,?_,fb,bu.le cV,aw.sU⟩
 ·show ({ v with Node:=m.Node,dJ:=m.dJ,Key:=EB r.Number,Words:=cB,eg:=cap }:a0)=_;have e:=aw.eq;generalize v.Words=iU at e;generalize v.eg=lG at e;subst e;rfl
 ·rcases pU with h | h
  ·left;have:=congrArg List.length h;rw [m9] at this;exact jR this
  ·right;cases cB with
   |none=>trivial
   |some a=>exact λe=>h (by have e:a.block<w.heap.size:=e;show a.block<hD.heap.size;omega)
 ·show dp (EB r.Number);unfold EB dp;omega
theorem XT (l:List bp):∀ r ∈ kL l,r.length=3:=by intro r aA;obtain ⟨x,_,rfl⟩:=eQ.1 aA;rfl
theorem aho (l:List bp):∀ u ∈ (kL l).flatten,single u=true:=by intro u hu;obtain ⟨r,aA,ao⟩:=A4.1 hu;obtain ⟨y,_,rfl⟩:=eQ.1 aA;exact bp.single y u ao
theorem aj4 {c:Nat} {vs:List bp} (au:vs.length=n) (aA:bW w a (kL vs).flatten) (ak:n<=1000000) (aj:a=none->n=0) :
  bK 243 [.slice a n c] w λv w'=>∃ cB cap,v=.slice cB n cap/\Iv w w' hN 3 a cB n cap (kL vs).flatten:=by
 refine bO Tryz.func243 ?_;rw [auu];obtain ⟨i,aD,aE,cr,gm⟩:=j5 (T:=hN) (z:=.agg #[.int .i64 0,.int .i64 0,.bool false]) (n:=3) (m:=24) (by kernel_rfl);cases a with
 |none=>
  refine g8 rfl ⟨none,0,by rw [aj rfl],ay.refl _ _,?_,?_,by simp⟩
  ·rw [aj rfl] at au ⊢;rw [jR au];exact bu.nil _ _ _
  ·rintro k ⟨o,aq⟩;cases aq
 |some a=>refine eX rfl ?_;rintro b1 w1 rfl rfl;obtain ⟨cB,bU,w',fV,ab⟩:=Qn (t:=33) (ty:=33) (n:=n) (c:=c) (w:=w) (a:=a) (xs:=(kL vs).flatten) Tryz.underlying33 aD aE (by rw [cr];rfl) (by omega) (by rw [vP (XT vs),cr,kL,jS,au]) aA (aho vs) (by omega) (by rw [gm];omega);exact ⟨cB,n,bU,w',fV,cB,bU,rfl,by rw [cr] at ab;exact ab⟩
theorem XU {v:pH} (h:ky M w r v) {m:bp} (hm:v.mem[0]?=some m):bK 125 [r.val] w λx w'=>x=.tuple #[m.val,.bool true]/\ai w w':=by
 refine bO Tryz.func125 ?_;rw [aCw];rintro b1 w1 bA br;obtain ⟨bm,a1⟩:=b4 bA br;have bm:aF w1 b1 r.cells x2:=bm;clear br;rintro aP aS cv cG;obtain ⟨bP,a5⟩:=b4 cv cG;have bP:aF aS aP (bp.cells qD) hN:=bP;clear cG;have gM:=ai.an a5 bm;have gI:=a1.new a5;have fI:=a1.size;have au:=dy hm;have dF:=h.len;refine ⟨_,_,_,gM.cell (i:=1) rfl,gX (λe=>absurd e (by omega)) (λ_=>⟨_,_,_,gM.cell (i:=1) rfl,?_⟩)⟩;refine hq (cells:=bp.cells) bp.len (by omega) (i:=0) (h.rd.new gI) hm rfl dF λb o gD _=>bp.bd m ⟨gD,gL bP rfl (bp.single _) λbZ dk dv=>?_⟩
 exact bp.bd m ⟨cD dk rfl,rfl,rfl,gI.trans dv λk aK e=>by omega⟩
theorem XV {v:pH} (h:ky M w r v) (cj:0<v.mem.length):bK 216 [r.val] w λy w'=>∃ (a:ax) (cap:Nat),y=.slice a (v.mem.length - 1) cap/\ai w w'/\bW w' a (kL v.mem.tail).flatten:=by
 refine bO Tryz.func216 ?_;rw [aCy];rintro b1 w1 bA br;obtain ⟨bm,a1⟩:=b4 bA br;have bm:aF w1 b1 r.cells x2:=bm;clear br;have hlen:=h.len;have vV:=h.cap;have Pc:=h.small;refine ⟨_,_,_,bm.cell (i:=1) rfl,gX (λe=>absurd e (by omega)) (λ_=>⟨_,_,_,bm.cell (i:=1) rfl,?_⟩)⟩;have aA:=h.rd.new a1;have JZ:(kL v.mem).flatten.length=v.mem.length * 3:=by rw [vP (XT _),kL,jS]
 obtain ⟨b,o,zU⟩:∃ b o,r.h1=some ⟨b,o,none⟩:=by
  rcases aA with he | ⟨b,o,e,_⟩
  ·have:=congrArg List.length he;rw [JZ] at this;simp at this <;> omega
  ·exact ⟨b,o,e⟩
 rw [zU] at aA ⊢;rw [hlen];have lY:(kL v.mem.tail).flatten=((kL v.mem).flatten).drop 3:=by
  cases aED:v.mem with
  |nil=>rfl
  |cons x xs=>rfl
 refine sB (by omega) (by omega) (by omega) (by omega) (by omega) λa bc=>?_
 have JG:bW w1 a (kL v.mem.tail).flatten/\a≠none:=by
  rcases bc with rfl | ⟨e,rfl⟩
  ·refine ⟨?_,by simp⟩;rw [lY];exact aA.drop 3
  ·refine ⟨?_,by simp⟩;have:v.mem.tail=[]:=jR (by rw [FD];omega);rw [this];exact .inl rfl
 have bY:Int.toNat (v.mem.length:Int) - Int.toNat 1=v.mem.length - 1:=by omega
 rw [bY];refine aR (aj4 (vs:=v.mem.tail) (by rw [FD]) JG.1 (by omega) (λe=>absurd e JG.2)) ?_;rintro y aS ⟨cB,cap,rfl,a5,cV,_⟩;exact ⟨_,_,_,rfl,cB,cap,rfl,a1.new a5,cV.rd⟩
structure cy (w0 u:av) (a:ax) (n cap:Nat) (vs:List bn):Prop where
 ex:∃ dD:List a0,bu u d8 9 a n cap (gG dD).flatten/\hp (λk=>k<w0.heap.size\/a7 a k) u dD vs
 len:n=vs.length
 kD:∀ k,a7 a k->w0.heap.size<=k
theorem cy.nil (w0 u:av):cy w0 u none 0 0 []:=⟨⟨[],bu.nil _ _ _,rfl,λi v x h=>by simp at h⟩,rfl,λk J=>absurd J yP⟩
theorem cy.new {w0 u b_:av} {a:ax} {n cap:Nat} {vs:List bn} (h:cy w0 u a n cap vs) (aj:ai u b_):cy w0 b_ a n cap vs:=by obtain ⟨⟨dD,aq,aw⟩,au,aJ⟩:=h;exact ⟨⟨dD,bu.new aj aq,aw.aO (ay.db aj) λ_ _ e=>e⟩,au,aJ⟩
theorem cy.aO {w0 u b_:av} {a:ax} {n cap:Nat} {vs:List bn} (h:cy w0 u a n cap vs) {M:bB} (J:ay M u b_) (c1:∀ k,M k->k<w0.heap.size):cy w0 b_ a n cap vs:=by obtain ⟨⟨dD,aq,aw⟩,au,aJ⟩:=h;refine ⟨⟨dD,aq.aO J λk J e=>?_,aw.aO (J.mono λk _ e=>.inl (c1 k e)) λ_ _ e=>e⟩,au,aJ⟩;have:=aJ k J;have:=c1 k e;omega
theorem cy.mono {w1:av} (h:cy w1 u a n cap vs) (aX:w0.heap.size<=w1.heap.size):cy w0 u a n cap vs:=by obtain ⟨⟨dD,aq,aw⟩,au,aJ⟩:=h;exact ⟨⟨dD,aq,aw.aO (ay.refl _ _) λk _ e=>e.imp (λe=>by omega) id⟩,au,λk J=>by have:=aJ k J;omega⟩
theorem hp.app {r1 ko:List a0} {v1 v2:List bn} (af:hp M w r1 v1) (al:hp M w ko v2):hp M w (r1++ko) (v1++v2):=by
 obtain ⟨ft,bs⟩:=af;obtain ⟨l2,bI⟩:=al;refine ⟨by simp [ft,l2],λi v x aw ao=>?_⟩;by_cases aD:i<r1.length
 ·rw [nA aD] at aw;rw [nA (by omega)] at ao;exact bs i v x aw ao
 ·rw [nB (by omega)] at aw;rw [nB (by omega)] at ao;rw [<-ft] at ao;exact bI _ v x aw ao
theorem hp.one (h:ei M w v x):hp M w [v] [x]:=⟨rfl,λi bX k5 af al=>by
 cases i with
 |zero=>simp at af al;subst af al;exact h
 |succ i=>simp at af⟩
theorem cy.As (h:cy w0 u a n cap vs) (Oc:ai w0 u) (hu:ai u ct) (aw:ei (λk=>k<u.heap.size) ct v x) (aJ:n<=100000) {K:Nat->ax->Nat->Nat->aV}
  (J:∀ b ap bU aY,b=ct.heap.size->cy w0 aY ap (n+1) bU (vs++[x])->ay (a7 a) ct aY->ai w0 aY->K b ap (n+1) bU aY) :
  ∀ b1 aS,b1=ct.heap.size->aS=ct.alloc (.cells v.cells.toArray d8)->∃ (ap:ax) (h_ h9:Nat),∃ aY,(Builtin.append_ #[k7,k7] k7 #[(.slice a n cap),(.slice (some ⟨b1,0,none⟩) 1 1)]).run prog aS=.ok (.slice ap h_ h9) aY/\K b1 ap h_ h9 aY:=by
 obtain ⟨⟨dD,aq,eb⟩,au,fH⟩:=h;have aN:=Oc.new hu;have Pa:=Oc.size;have G7:=hu.size;refine alN (bu.new hu aq) (v:=v) (by omega) λb ap bU aY ak af ek fC=>?_
 have BE:∀ k,a7 ap k->w0.heap.size<=k:=λk J=>by
  rcases fC k J with e | e
  ·exact fH k e
  ·omega
 refine J b ap bU aY ak ⟨⟨dD++[v],by rw [agr];simpa [gG] using af,?_⟩,by rw [gp,au];rfl,BE⟩ ek (aN.trans ek λk aK e=>by have:=fH k e;omega);have cq:∀ k,k<ct.heap.size->(k<w0.heap.size\/a7 ap k)->(k<w0.heap.size\/a7 a k):=λk aK e=>e.imp id λe=>by
  rcases fC k e with e | e
  ·exact e
  ·omega
 have oj:=eb.aO (M':=λk=>k<w0.heap.size\/a7 a k) (ay.db hu) λ_ _ e=>e
 refine hp.app (oj.aO (ek.mono λk _ e=>.inr e) cq) (hp.one ?_);have oP:ei (λk=>k<w0.heap.size\/a7 a k) ct v x:=aw.aO (ay.refl _ _) λk aK e=>by
  rcases e with e | e
  ·omega
  ·exact aq.lt e
 exact oP.aO (ek.mono λk _ e=>.inr e) cq
theorem cy.u9 (h:cy w0 u a n cap vs) (Oc:ai w0 u) (hu:ai u ct) (aw:ei (λk=>k<u.heap.size) ct v x) (aJ:n<=100000) {b1:Nat} {aS:av} (ak:b1=ct.heap.size) (hw:aS=ct.alloc (.cells v.cells.toArray d8))
  (J:∀ ap bU aY,cy w0 aY ap (n+1) bU (vs++[x])->ay (a7 a) ct aY->ai w0 aY->K ap (n+1) bU aY) :
  ∃ (ap:ax) (h_ h9:Nat),∃ aY,(Builtin.append_ #[k7,k7] k7 #[(.slice a n cap),(.slice (some ⟨b1,0,none⟩) 1 1)]).run prog aS=.ok (.slice ap h_ h9) aY/\K ap h_ h9 aY:=
 cy.As h Oc hu aw aJ (K:=λ_ ap n c w=>K ap n c w) (λb ap bU aY _ af al aL=>J ap bU aY af al aL) b1 aS ak hw
end
end Go.Proofs.YtmkljjbioomepaaGreat
