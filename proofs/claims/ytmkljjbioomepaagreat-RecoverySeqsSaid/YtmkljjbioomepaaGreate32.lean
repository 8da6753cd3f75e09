import Derived.Test.YtmkljjbioomepaaGreate31
import Derived.Test.YtmkljjbioomepaaGreatProg
import Derived.Test.YtmkljjbioomepaaGreate03
set_option linter.all false
set_option maxHeartbeats 4000000
set_option maxRecDepth 100000
namespace Go.Proofs.YtmkljjbioomepaaGreat
open Go.Proofs.Tryz Go.bn
variable {A:a2} {L:a4} {lines:Int} {o:Int×Int} {aI tb:Nat} {u w0:al}
section
theorem zG (h:fx L lines=true):1<=(cI L lines).1/\(cI L lines).1<1073741824:=by
 have hw:=h;unfold fx at hw;simp only [eH,decide_eq_true_eq,beq_iff_eq] at hw;unfold cI d';rw [if_pos h,if_pos hw.2];have a:=hw.2;unfold d8 at a;split at a
 ·omega
 split at a
 ·omega
 split at a
 ·omega
 split at a
 ·omega
 rename_i _ _ _ b;have b:ff ((L.drop 8).getD 0 0) (hv (L.drop 8) ((L.drop 8).getD 1 0).toNat) lines=0:=by omega
 obtain ⟨_,c,_⟩:=jD b;exact ⟨c.1,c.2.1⟩
theorem MR (x:Int):0<=(g9 x).1/\(g9 x).1<1073741824:=by
 unfold g9;split
 ·rename_i h;exact ⟨by show 0<=c5 .u64 x 2;omega,h.2.1⟩
 ·exact ⟨by decide,by decide⟩
def j_ (a b:Int):Int:=if a<b then b else a
def fP (lines g:Int) (L:a4):Int:=
 let a:=if (g9 (L.getD 0 0)).2=true then j_ g (g9 (L.getD 0 0)).1 else g
 if fx L lines=true then j_ a (cI L lines).1 else a
def ir (clock:Int):Int:=if 1073741823<clock then 1073741823 else clock
def iv (lines clock:Int) (Ls:List a4):Int:=Ls.foldl (fP lines) (ir clock)+1
theorem C2 {a b:Int} (c:0<=a/\a<1073741824) (d:0<=b/\b<1073741824):0<=j_ a b/\j_ a b<1073741824:=by unfold j_;split<;>omega
theorem Jg {g:Int} (h:0<=g/\g<1073741824):0<=fP lines g L/\fP lines g L<1073741824:=by
 unfold fP;have a:0<=(if (g9 (L.getD 0 0)).2=true then j_ g (g9 (L.getD 0 0)).1 else g)/\(if (g9 (L.getD 0 0)).2=true then j_ g (g9 (L.getD 0 0)).1 else g)<1073741824:=by
  split
  ·exact C2 h (MR _)
  ·exact h
 simp only;split
 ·rename_i hw;have:=zG hw;exact C2 a ⟨by omega,this.2⟩
 ·exact a
theorem Jh {r:cN} {m:aO} {j:bz} {V:ej} (G:c6 w0 u aI tb r m j V o) {Ls:List a4} (Up:kx w0 u aI tb V Ls) (Z:Ls.length<=100) (P:∀ L ∈ Ls,L.length=120) (K:b3 V.clock) :
  ba 184 [ptr aI] u λv bo=>v=.int .i64 (iv j.lines V.clock Ls)/\ai u bo:=by
 refine bc Tryz.func184 ?_;rw [ptr,PJ];obtain ⟨⟨W,R,Q,Ur,E⟩,Ui⟩:=Up;have f:=G.bs.lines;have e:0<=ir V.clock/\ir V.clock<1073741824:=by have:=K.1;unfold ir;split<;>omega
 refine ⟨_,G.ak.cell (i:=14) rfl,_,_,_,G.ak.cell (i:=13) rfl,?_⟩;rw [show IntKind.i64.wrap (if (1073741823:Int)<V.clock then (1073741823:Int) else V.clock)=ir V.clock from bA (by unfold ir at e;omega) (by unfold ir at e;omega)];refine c1 mix (λq env z=>∃ (i:Nat) (A:aw),q=Ls.length - i/\i<=Ls.length/\env=ny ⟨aI,0,none⟩ ((Ls.take i).foldl (fP j.lines) (ir V.clock)) V.fs V.jG V.lc V.jG i A/\ai u z/\0<=(Ls.take i).foldl (fP j.lines) (ir V.clock)/\(Ls.take i).foldl (fP j.lines) (ir V.clock)<1073741824) Ls.length
  ⟨0,_,by omega,by omega,rfl,ao.refl _ _,e.1,e.2⟩ ?_
 rintro q env z ⟨i,A,rfl,Ut,rfl,h,p⟩;rw [OS];have B:=G.bw h;refine a9 (λUq=>?_) (λUo=>?_)
 ·have F:i<Ls.length:=by omega
  obtain ⟨s,Ul⟩:∃ s,W[i]?=some s:=⟨_,bM (by omega)⟩;obtain ⟨L,I⟩:∃ L,Ls[i]?=some L:=⟨_,bM F⟩;have D:=E i s L Ul I;have w:=D.new B.new;have Y:=P L (cj I);have k:(Ls.take (i+1)).foldl (fP j.lines) (ir V.clock)=fP j.lines ((Ls.take i).foldl (fP j.lines) (ir V.clock)) L:=by rw [eT,I,wW];rfl
  generalize (Ls.take i).foldl (fP j.lines) (ir V.clock)=g at p k;have more:∀ {t:Int} {X:al} (A:aw),t=fP j.lines g L->ai u X->∃ Um,Um<Ls.length - i/\∃ (y:Nat) (U:aw),Um=Ls.length - y/\y<=Ls.length/\ny ⟨aI,0,none⟩ t V.fs V.jG V.lc V.jG (IntKind.i64.wrap (i+1)) A=ny ⟨aI,0,none⟩ ((Ls.take y).foldl (fP j.lines) (ir V.clock)) V.fs V.jG V.lc V.jG y U/\ai u X/\0<=(Ls.take y).foldl (fP j.lines) (ir V.clock)/\(Ls.take y).foldl (fP j.lines) (ir V.clock)<1073741824:=by intro t X A Us H;rw [bA (x:=(i:Int)+1) (by omega) (by omega)];have C:=Jg (lines:=j.lines) (L:=L) p;exact ⟨Ls.length - (i+1),by omega,i+1,A,rfl,by omega,by rw [Us,k];rfl,H,by rw [k];exact C.1,by rw [k];exact C.2⟩
  refine ew (cells:=lU) (sz:=1) (λ_=>rfl) (by decide) (R.new h) Ul rfl Q λb' Uu _ J=>⟨s.a,s.n,s.c,J 0 _ rfl,?_⟩
  refine m8 w.rd (i:=0) (by omega) w.len rfl λaK Uv hw=>⟨_,hw _ (ao.refl _ _),?_⟩
  have S:b3 (L.getD 0 0):=by
   cases L with
   |nil=>exact gQ
   |cons a l=>exact D.u64 a (by simp)
  refine aD (Hh z S) ?_;rintro v Uw ⟨rfl,rfl⟩;refine ⟨_,_,rfl,fy (λb=>?_) (λb=>?_)⟩
  all_goals
   refine ⟨r.gS,B.ak.cell (i:=2) rfl,?_⟩;rw [f];refine aD (ub j.lines w) ?_;rintro v Ux ⟨pb,aT,rfl,N,Uk,Uj⟩;refine bN.aS ⟨(cI L j.lines).1,pb,(cI L j.lines).2.length,aT⟩ ⟨_,rfl,?_⟩;refine dU (vs:=bN.cells ⟨(cI L j.lines).1,pb,(cI L j.lines).2.length,aT⟩) rfl (bN.single _) λaz Uy Un T O=>?_
   have H:=h.new (N.new O);refine fy (λd=>⟨_,T.cell (i:=0) rfl,more _ ?_ H⟩) (λd=>more _ ?_ H)
  ·unfold fP;simp only [b,d,if_true];rfl
  ·unfold fP;simp only [b,d,if_true];rfl
  ·unfold fP;simp only [b,d,if_true];rfl
  ·unfold fP;simp only [b,d];rfl
 ·have M:i=Ls.length:=by omega
  subst M;rw [hq] at p ⊢;rw [O5];rw [bA (by omega) (by omega)];exact ⟨rfl,h⟩
end
section
open IntKind
variable (w:al) (R:cp) {a b c d e f:Nat} {A B:aV} {s t u:an} {i k l m:Int} {j:aq}
def sF (e:aV) (l:an) (a b:Nat) (n s8:Int) (o:an) (c d:Nat) (f:an) (g h:Nat) (i k:Int) (j:aq):aq:=.pointer (some e)::ag j 0 4 (ae l a b::ag j 4 1 (ab n::ah s8::ae o c d::ag j 5 31 (ae f g h::ab i::ab k::ag j 36 51 [])))
def yD (a:aV) (e:an) (b c:Nat) (g s8:Int) (h:an) (d f:Nat) (j:aq):aq:=.pointer (some a)::ag j 0 4 (ae e b c::ag j 4 1 (ab g::ah s8::ae h d f::ag j 5 85 []))
theorem Qf (q:bN):bd prog f227 [a' a,q.val] R w=(aQ w q.cells.toArray 271 λj u=>hn u (af j 0) λr=>dm 247 #[a' a,r.val] u λe s=>cond (!e) (R (ad false) s) (hn s (af j 0) λv=>iX 248 #[a' a,v.val] s λb c d f t=>cond (!f) (R (ad false) t) (cond ((c:Int) == 0) (R (ad true) t) (cu t λx o=>cP o (af a 5) λg=>cP o (af j 0) λh=>cm 225 #[ab g] x λi p=>o p/\lo p (af a 3) λn=>eF 216 #[n.val] p λk l m y=>cx prog (cY f227 [1,1,1,1,1,1,1,0,1,0,0]) (sF (af a 0) b c d i (u64.wrap h) none 0 0 k l m (l:Nat) 0 (q.val::undef::jp (af j 0)::ad false::ad f::bx 2 (jp (af a 0)::r.val::ad e::ad (!e)::.tuple #[ae b c d,ad f]::jp (af a 0)::v.val::.tuple #[ae b c d,ad f]::ae b c d::ad f::ad f::ad (!f)::ae b c d::du c::ad ((c:Int) == 0)::jp (af a 0)::jp (af a 0)::jp (af a 0)::jp (af a 5)::ab g::ab i::jp (af j 0)::ab h::ah (u64.wrap h)::jp (af a 0)::jp (af a 0)::jp (af a 0)::jp (af a 3)::n.val::bx 51 []))) (aW 0 (aZ f227 [1,1,1,1,1,1,1,1] R)) y)))):=by kernel_rfl
theorem OP (E:aq->aE):W prog (sb f227 [1,1,1,1,1,1,1,0,1,0,0]) (sF A s a b i k t c d u e f l m j) (a1 E (aW 0 (aZ f227 [1,1,1,1,1,1,1,1] R))) w=(cond (m<l) (bB u e m 3 λa5=>hX w a5 λr=>aQ w #[ab 0,ab 0,ad false] 116 λB M=>a_ M (af B 0) 0 r.cells λH=>hX H (af B 0) λa8=>eF 249 #[.pointer (some A),a8.val,ae s a b] H λx y n P=>cZ 125 (ae t c d) (ae x y n) P λz o p C=>hX C (af B 0) λG=>aQ C #[ah k] 30 λF L=>eh 250 #[.pointer (some A),G.val,ab i,ae (bj F) 1 1] L λv O=>aQ O v.cells.toArray 158 λD N=>cZ 125 (ae z o p) (ae (bj D) 1 1) N λq g h K=>E (sF A s a b i k q g h u e f l (i64.wrap (m+1)) (ag j 0 6 (jp (af B 0)::ag j 7 29 (ad (m<l)::jp a5::r.val::ae t c d::jp A::a8.val::ae s a b::ae x y n::ae z o p::ae z o p::jp A::G.val::ab i::ah k::ae (bj F) 1 1::v.val::ae (bj D) 1 1::ae q g h::ab (i64.wrap (m+1))::ag j 55 32 [])))) K) (W prog (sb f227 [1,1,1,1,1,1,1,1]) (yD A s a b i k t c d (ag j 0 36 (ae u e f::ab l::ab m::ad (m<l)::ag j 37 50 []))) (bW f227 R) w)):=by kernel_rfl
theorem PF:W prog (sb f227 [1,1,1,1,1,1,1,1]) (yD A s a b i k t c d j) (bW f227 R) w=(iX 221 #[.pointer (some A),ae t c d] w λg h u D P=>cond (!D) (R (ad false) P) (cu P λQ B=>gO B (bS A 9) λT=>gO B (bS A 9) λL=>aQ Q #[ah k] 30 λS a8=>B a8/\eh 250 #[.pointer (some A),T.val,ab i,ae (bj S) 1 1] a8 λM E=>B E/\(aQ E M.cells.toArray 158 λX F=>B F/\eF 249 #[.pointer (some A),L.val,ae s a b] F λl m n a5=>B a5/\cZ 125 (ae (bj X) 1 1) (ae l m n) a5 λJ o p G=>B G/\iX 221 #[.pointer (some A),ae J o p] G λq r e f N=>B N/\R (ad f) N)/\eF 249 #[.pointer (some A),L.val,ae s a b] E λv x y H=>B H/\aQ H M.cells.toArray 158 λI O=>B O/\cZ 125 (ae (bj I) 1 1) (ae v x y) O λz V Z K=>B K/\iX 221 #[.pointer (some A),ae z V Z] K λUj Ui U Y C=>B C/\R (ad Y) C)):=by kernel_rfl
def sK (e:aV) (i:an) (a b:Nat) (c:an) (d f:Nat) (g h:Int) (j:aq):aq:=.pointer (some e)::ag j 0 4 (ae i a b::ag j 4 7 (ae c d f::ab g::ab h::ag j 11 38 []))
def D4 (a:aV) (d:an) (b c:Nat) (j:aq):aq:=.pointer (some a)::ag j 0 4 (ae d b c::ag j 4 48 [])
theorem QF (f:bN):bd prog f229 [a' a,f.val] R w=(aQ w f.cells.toArray 271 λe g=>b0 g (af e 1) λd b c=>cx prog (cY f229 [1,1,0,1,0,0]) (sK (af a 0) none 0 0 d b c (b:Nat) 0 (f.val::undef::jp (af e 0)::ad false::bx 6 (jp (af e 1)::bx 38 []))) (aW 0 (aZ f229 [1,1,1] R)) g):=by kernel_rfl
theorem O6 (B:aq->aE):W prog (sb f229 [1,1,0,1,0,0]) (sK A s a b t c d i k j) (a1 B (aW 0 (aZ f229 [1,1,1] R))) w=(cond (k<i) (bB t c k 9 λC=>hG w C λr=>aQ w #[ab 0,ah 0,ah 0,ah 0,ah 0,ah 0,ah 0,ah 0,ah 0] 73 λv K=>a_ K (af v 0) 0 r.cells λL=>cu L λM u=>ta u (af v 0) λz=>cP u (bS A 5) λf=>g6 211 #[z.val,ab f] M λh l E=>cond (l == 0) (cu E λa8 x=>gO x (bS A 9) λe=>cP x (af v 0) λm=>js x (af v 1) λn=>cm 108 #[ab m] a8 λo a5=>x a5/\eh 223 #[.pointer (some A),e.val,ab o,ah h,ah n] a5 λg F=>x F/\aQ F g.cells.toArray 158 λH D=>x D/\cZ 125 (ae s a b) (ae (bj H) 1 1) D λy p q G=>x G/\B (sK A y p q t c d i (i64.wrap (k+1)) (ag j 0 5 (jp (af v 0)::ah h::ab l::aN j 8::aN j 9::aN j 10::ad (k<i)::jp C::r.val::.tuple #[ah h,ab l]::z.val::jp A::jp A::jp A::bE A 5::ab f::.tuple #[ah h,ab l]::ah h::ab l::ab l::ad ((l:Int) == 0)::ae s a b::jp A::jp A::jp A::bE A 9::e.val::jp (af v 0)::ab m::ab o::ah h::jp (af v 1)::ah n::g.val::ae (bj H) 1 1::ae y p q::ab (i64.wrap (k+1))::ag j 42 7 []))) G) (B (sK A s a b t c d i (i64.wrap (k+1)) (ag j 0 5 (jp (af v 0)::ah h::ab l::aN j 8::aN j 9::aN j 10::ad (k<i)::jp C::r.val::.tuple #[ah h,ab l]::z.val::jp A::jp A::jp A::bE A 5::ab f::.tuple #[ah h,ab l]::ah h::ab l::ab l::ad ((l:Int) == 0)::ag j 26 15 (ab (i64.wrap (k+1))::ag j 42 7 [])))) E)) (W prog (sb f229 [1,1,1]) (D4 A s a b (ag j 0 11 (ae t c d::ab i::ab k::ad (k<i)::ag j 12 37 []))) (bW f229 R) w)):=by kernel_rfl
theorem Qa:W prog (sb f229 [1,1,1]) (D4 A s a b j) (bW f229 R) w=(iX 221 #[.pointer (some A),ae s a b] w λd f g h c=>R (ad h) c):=by kernel_rfl
def vb (e i:aV) (k:an) (a b:Nat) (c:an) (d f:Nat) (g h:Int) (j:aq):aq:=.pointer (some e)::ag j 0 3 (.pointer (some i)::ag j 3 2 (ae k a b::ag j 5 4 (ae c d f::ab g::ab h::ag j 9 20 [])))
def D3 (c:an) (a b:Nat) (j:aq):aq:=ag j 0 7 (ae c a b::ag j 7 27 [])
theorem QL (d:aO):bd prog f249 [a' a,d.val,ae s b c] R w=(aQ w d.cells.toArray 116 λe f=>cx prog (cY f249 [1,1,0,1,0,0]) (vb (af a 0) (af e 0) none 0 0 s b c (b:Nat) 0 (d.val::ae s b c::bx 2 (a3::bx 24 []))) (aW 0 (aZ f249 [1,1,1] R)) f):=by kernel_rfl
theorem Pe (C:aq->aE):W prog (sb f249 [1,1,0,1,0,0]) (vb A B s a b t c d i k j) (a1 C (aW 0 (aZ f249 [1,1,1] R))) w=(cond (k<i) (bB t c k 9 λH=>hG w H λr=>aQ w #[ab 0,ah 0,ah 0,ah 0,ah 0,ah 0,ah 0,ah 0,ah 0] 73 λu K=>a_ K (af u 0) 0 r.cells λF=>hG F (af u 0) λa5=>s_ 244 #[a5.val] F λf g l m L=>cu L λa8 h=>gO h B λD=>cP h (af u 0) λn=>cm 108 #[ab n] a8 λo y=>h y/\eh 250 #[.pointer (some A),D.val,ab o,ae f g l] y λe G=>h G/\aQ G e.cells.toArray 158 λE z=>h z/\cZ 125 (ae s a b) (ae (bj E) 1 1) z λv p q x=>h x/\C (vb A B v p q t c d i (i64.wrap (k+1)) (ag j 0 6 [jp (af u 0),ae f g l,ab m,ad (k<i),jp H,r.val,.tuple #[ae f g l,ab m],a5.val,.tuple #[ae f g l,ab m],ae f g l,ab m,ae s a b,jp A,D.val,jp (af u 0),ab n,ab o,ae f g l,e.val,ae (bj E) 1 1,ae v p q,ab (i64.wrap (k+1)),aN j 28])) x) (W prog (sb f249 [1,1,1]) (D3 s a b (jp A::aN j 0::aN j 1::aN j 2::jp B::ag j 3 6 (ae t c d::ab i::ab k::ad (k<i)::ag j 10 19 []))) (bW f249 R) w)):=by kernel_rfl
theorem Pw:W prog (sb f249 [1,1,1]) (D3 s a b j) (bW f249 R) w=(R (ae s a b) w):=by kernel_rfl
end
section
def tB (j:bz) (m:aO) (p:aR):aG:=qs j m (p.bm * 8) (eP p.Head j.dead) p.Head
def qu (j:bz) (m:aO) (W:List aR) (G:List (List aC)):b2:=bR G (W.map (tB j m))
structure qF (W:List aR):Prop where
 dM:W.length<=12
 ok:∀ p ∈ W,l9 p.Head=true/\jI p.Head=true/\96<=p.bm/\p.bm<256/\b3 p.Head
theorem MS {r:cN} {m:aO} {j:bz} {V:ej} {T:ee} {G:List (List aC)} (D:c6 w0 u aI tb r m j V (0,0)) (Y:ek A w0 u tb T G) (Ul:fz T) {q:bN} {W:List aR} (N:eY u q.ef q.dF W) (cB:qF W) :
  ba 229 [ptr aI,q.val] u (kQ A w0 u aI tb r m j V (qu j m W G)):=by
 refine bc Tryz.func229 ?_;rw [ptr,QF];have UA:=D.ak.lt;have UB:=Y.ak.lt;have Un:=D.ca.dead;have aA:=D.bs.dead;have hlen:=N.len;have Uz:=cB.dM;rintro b1 w1 Z O;obtain ⟨C,a⟩:=bk Z O;have C:av w1 b1 q.cells dW:=C;clear O;have Us:=a.size;refine ⟨_,_,_,C.cell (i:=1) rfl,?_⟩;refine c1 mix (λk env z=>∃ (i:Nat) (aX:an) (pc:Nat) (UC:aw),k=W.length - i/\i<=W.length/\env=sK ⟨aI,0,none⟩ aX i pc q.ef q.dF q.gT q.dF i UC/\ai w1 z/\bD w1 z aX i pc ((W.take i).map (tB j m))) W.length
  ⟨0,none,0,_,by omega,by omega,rfl,ao.refl _ _,bD.nil _ _⟩ ?_
 rintro k env z ⟨i,aX,pc,UC,rfl,UZ,rfl,d,l⟩;rw [O6,hlen];have I:=D.bw (a.new d);refine a9 (λUN=>?_) (λUL=>?_)
 ·obtain ⟨p,Uq⟩:∃ p,W[i]?=some p:=⟨_,bM (by omega)⟩;obtain ⟨UP,U0,UQ,UR,US⟩:=cB.ok p (cj Uq);refine ew (cells:=aR.cells) aR.len (by omega) ((N.new a).new d).rd Uq rfl rfl λb UO Uk _=>aR.aS p ⟨Uk,?_⟩
  refine dU (vs:=p.cells) rfl (aR.single _) λUG UU UK Uu K=>?_
  rintro Uw P;have s:ai UU Uw:=by rw [P];exact cL _
  clear P;have F:=I.bw (K.new s);have S:=ai.ak s Uu;refine ⟨λy=>ai Uw y,ao.refl _ _,aR.aS p ⟨λy f=>bI (ai.ak f S) rfl,r.ez,λy f=>(ai.ak f F.ak).cell (i:=5) rfl,?_⟩⟩;rw [aA];refine aD (w9 Uw p UP Un) ?_;rintro v UV ⟨rfl,t⟩;have Uj:=F.bw t;have Uv:=ai.ak t S;refine ⟨_,_,rfl,dJ (λ_=>?_) (λe=>absurd rfl e)⟩;rintro Ux Q;have w:ai UV Ux:=by rw [Q];exact cL _
  clear Q;have H:=Uj.bw w;have U:=ai.ak w Uv;refine ⟨λy=>av y UG p.cells eN/\ih r tb m j aI y,⟨U,_,_,H.ak⟩,aO.aS m ⟨λy f=>by obtain ⟨_,UX,UO,f⟩:=f;exact bI f rfl,p.bm,λy f=>f.1.cell (i:=0) rfl,p.Head,λy f=>f.1.cell (i:=1) rfl,?_⟩⟩;refine aD (p2 Ux UQ UR) ?_;rintro v UE ⟨rfl,Uy⟩;have B:ai Ux UE:=by rw [Uy];exact ao.refl _ _
  clear Uy;have o:=H.bw B;have X:=ai.ak B U;refine ⟨_,rfl,⟨X,_,_,o.ak⟩,?_⟩;refine aD (uc o D.dQ (p.bm * 8) (Cc p.Head j.dead) US) ?_;rintro v UF ⟨UT,rfl,Ut,h⟩;have g:=o.bw h;have n:=ai.ak h X;refine aF.aS UT ⟨rfl,⟨n,_,_,g.ak⟩,?_⟩;rintro UY UW Ui R;have L:ai UF UW:=by rw [R];exact gY _ _
  have c:ai z UE:=(((K.new s).new t).new w).new B;refine ⟨⟨ai.ak L n,_,_,(g.bw L).ak⟩,bD.lk (l.new c) (d.new c) h Ut (by omega) Ui R λap E U2 UI J Up=>?_⟩;obtain ⟨UD,M,_⟩:=(l.new (c.new h)).ex;have off:∀ {b:Nat} {cs:aw} {T:TypeId},T≠cr->av UF b cs T->¬ aL aX b:=λY UJ UM=>by obtain ⟨UH,Um⟩:=fm M UM;exact Um.ne UJ (λe=>Y e.symm) rfl
  refine ⟨⟨J.ak n (off (by decide) n),_,_,J.ak g.ak (off (by decide) g.ak)⟩,?_⟩;rw [bA (x:=(i:Int)+1) (by omega) (by omega)];refine ⟨W.length - (i+1),by omega,i+1,ap,E,_,rfl,by omega,by rw [<-hlen];rfl,Up,?_⟩;have e:(W.take i).map (tB j m)++[tB j m p]=(W.take (i+1)).map (tB j m):=by rw [eT,Uq];simp
  rw [<-e];exact UI
 ·have Uo:i=W.length:=by omega
  subst Uo;rw [hq] at l;rw [Qa];refine aD (mJ I (Y.new (a.new d)) Ul (D.bw a).new (by omega) (by omega) l (by rw [fc];omega)) ?_;rintro v U1 ⟨dk,dc,raw,rfl,Ur,_⟩;exact ⟨_,_,_,_,rfl,rfl,Ur.of (a.new d) Us⟩
end
section
def mL (j:bz) (bb:aO) (p:aR):aG:=lh j bb (p.bm * 8) (hc p)
theorem Ap {r:cN} {m:aO} {j:bz} {V:ej} (UJ:c6 w0 u aI tb r m j V o) {bb:aO} (Uq:dO bb.ch) {a:an} {n c:Nat} {W:List aR} (L:eY u a n W) (cB:qF W) (F:∀ p ∈ W,∀ x ∈ gZ p,b3 x) :
  ba 249 [ptr aI,bb.val,.slice a n c] u λv bo=>∃ aX pc,v=.slice aX W.length pc/\ai u bo/\bD u bo aX W.length pc (W.map (mL j bb)):=by
 refine bc Tryz.func249 ?_;rw [ptr,QL];have hlen:=L.len;have Uz:=cB.dM;rintro b1 w1 Ui M;obtain ⟨D,H⟩:=bk Ui M;have D:av w1 b1 bb.cells ed:=D;clear M;have UN:=H.size;refine c1 mix (λk env z=>∃ (i:Nat) (aX:an) (pc:Nat) (UA:aw),k=W.length - i/\i<=W.length/\env=vb ⟨aI,0,none⟩ ⟨b1,0,none⟩ aX i pc a n c n i UA/\ai u z/\av z b1 bb.cells ed/\bD u z aX i pc ((W.take i).map (mL j bb))) W.length
  ⟨0,none,0,_,by omega,by omega,rfl,H,D,bD.nil _ _⟩ ?_
 rintro k env z ⟨i,aX,pc,UA,rfl,UX,rfl,q,R,s⟩;rw [Pe,hlen];have Uo:=UJ.bw q;refine a9 (λUM=>?_) (λUK=>?_)
 ·obtain ⟨p,Z⟩:∃ p,W[i]?=some p:=⟨_,bM (by omega)⟩;obtain ⟨UZ,UO,UP,UQ,UR⟩:=cB.ok p (cj Z);refine ew (cells:=aR.cells) aR.len (by omega) (L.new q).rd Z rfl rfl λb UY Um _=>aR.aS p ⟨Um,?_⟩
  refine dU (vs:=p.cells) rfl (aR.single _) λUD UT UI S Us=>aR.aS p ⟨bI S rfl,?_⟩
  refine aD (Ac UT p UR UO) ?_;rintro v UU ⟨c0,dY,rfl,Ur,P,_⟩;refine ⟨_,_,_,_,rfl,?_⟩;rintro Uw N;have I:ai UU Uw:=by rw [N];exact cL _
  clear N;have w:=Ur.new I;have g:=Us.new w;have Uk:=Uo.bw g;have U:=ai.ak w S;have A:=ai.ak g R;refine ⟨λy=>av y UD p.cells eN/\av y b1 bb.cells ed,⟨U,A⟩,aO.aS bb ⟨λy Uv=>bI Uv.2 rfl,p.bm,λy Uv=>Uv.1.cell (i:=0) rfl,?_⟩⟩;refine aD (p2 Uw UP UQ) ?_;rintro v Ux ⟨rfl,Uy⟩;have h:ai Uw Ux:=by rw [Uy];exact ao.refl _ _
  clear Uy;have Ul:=Uk.bw h;have X:=ai.ak h U;have B:=ai.ak h A;refine ⟨_,rfl,⟨X,B⟩,?_⟩;have Q:bg Ux c0 (us (hc p)):=(aY.new (I.new h) P).rd;refine aD (we Ul Uq (p.bm * 8) Q rfl (aY.le P) (λe=>?_) (CR (F p (cj Z))) (by show 8<=1000000;omega)) ?_
  ·rcases Q with Y | ⟨c9,U0,Y,_⟩
   ·have:=congrArg List.length Y;rw [hg,nZ] at this;exact fb this
   ·rw [e] at Y;cases Y
  rintro v UC ⟨US,rfl,Uu,l⟩;have t:=ai.ak l X;have d:=ai.ak l B;refine aF.aS US ⟨rfl,⟨t,d⟩,?_⟩;rintro UW UV Uj O;have J:ai UC UV:=by rw [O];exact gY _ _
  have f:ai z Ux:=g.new h;refine ⟨⟨ai.ak J t,ai.ak J d⟩,bD.lk (s.new f) (q.new f) l Uu (by omega) Uj O λap E U1 UF G Ut=>?_⟩;obtain ⟨UB,K,_⟩:=(s.new (f.new l)).ex;have off:∀ {b:Nat} {cs:aw} {T:TypeId},T≠cr->av UC b cs T->¬ aL aX b:=λUG UH UL=>by obtain ⟨UE,Un⟩:=fm K UL;exact Un.ne UH (λe=>UG e.symm) rfl
  have C:=G.ak d (off (by decide) d);refine ⟨⟨G.ak t (off (by decide) t),C⟩,?_⟩;rw [bA (x:=(i:Int)+1) (by omega) (by omega)];refine ⟨W.length - (i+1),by omega,i+1,ap,E,_,rfl,by omega,by rw [<-hlen];rfl,Ut,C,?_⟩;have e:(W.take i).map (mL j bb)++[mL j bb p]=(W.take (i+1)).map (mL j bb):=by rw [eT,Z];simp
  rw [<-e];exact UF
 ·have Up:i=W.length:=by omega
  subst Up;rw [hq] at s;rw [Pw];exact ⟨aX,pc,rfl,q,s⟩
end
section
noncomputable abbrev vp:Func:=f248
def o' (j:bz) (m:aO) (p:aR):aG:=l7 j m (p.bm * 8) 1
def qk (j:bz) (W:List aR) (ds:List aC) (i:Nat):List aR:=if dv ds i=eP (W.getD i hB).Head j.dead then [W.getD i hB] else []
def fY (j:bz) (W:List aR) (ds:List aC) (n:Nat):List aR:=((List.range n).map (qk j W ds)).flatten
theorem zu (j:bz) (W:List aR) (ds:List aC) (n:Nat):fY j W ds (n+1)=fY j W ds n++qk j W ds n:=by unfold fY;rw [k0];simp
theorem zH (j:bz) (W:List aR) (ds:List aC) (n:Nat):(fY j W ds n).length<=n:=by
 induction n with
 |zero=>simp [fY]
 |succ n a=>
  rw [zu,c8];unfold qk;split
  ·simp;omega
  ·simp;omega
def A_ (A:a2) (w0 u:al) (aI tb:Nat) (r:cN) (m:aO) (j:bz) (V:ej) (W:List aR) (R:b2) (v:a0) (bo:al):Prop:=
 ∃ aX pc,v=.tuple #[.slice aX (fY j W R.done R.done.length).length pc,.bool R.ok]/\ec A w0 u aI tb u.heap.size r m j V R bo/\bg bo aX (hz (fY j W R.done R.done.length)).flatten/\∀ k,aL aX k->u.heap.size<=k
theorem Ji {r:cN} {m:aO} {j:bz} {V:ej} (Ul:c6 w0 u aI tb r m j V o) {b1:Nat} {q:bN} (UC:av u b1 q.cells dW) {W:List aR} (P:eY u q.ef q.dF W) (cB:qF W) {ds:List aC} {raw:List bF} {dk:an} {dc:Nat} (Uz:bg w0 dk (fq raw).flatten) (K:gi A w0 raw ds) (UO:ds.length<=W.length) (ok:Bool) (Ui:aw) {R:cp}
  (Us:∀ bo aX pc,ai u bo->bg bo aX (hz (fY j W ds ds.length)).flatten->(∀ k,aL aX k->u.heap.size<=k)->R (.tuple #[.slice aX (fY j W ds ds.length).length pc,.bool ok]) bo) :
  cx prog (.loop (sub (bh vp) [1,1,1,1,0,1,0,0])) (pt ⟨aI,0,none⟩ ⟨b1,0,none⟩ none 0 0 ok dk ds.length dc ds.length 0 Ui)
   (aW 2 (a1 (λenv w=>Go.bn.W prog (sub (bh vp) [1,1,1,1,1]) env (dh prog vp R) w) (dh prog vp R))) u:=by
 have UA:raw.length=ds.length:=K.1;have UH:=cB.dM;have Up:=Ul.ca.dead;have aA:=Ul.bs.dead;have hlen:=P.len;refine c1 mix (λk env z=>∃ (i:Nat) (aX:an) (pc:Nat) (Ui:aw),k=ds.length - i/\i<=ds.length/\env=pt ⟨aI,0,none⟩ ⟨b1,0,none⟩ aX (fY j W ds i).length pc ok dk ds.length dc ds.length i Ui/\ai u z/\aY z eN 9 aX (fY j W ds i).length pc (hz (fY j W ds i)).flatten/\∀ k,aL aX k->u.heap.size<=k) ds.length
  ⟨0,none,0,_,by omega,by omega,rfl,ao.refl _ _,aY.nil _ _ _,λk Us=>absurd Us mM⟩ ?_
 rintro k env z ⟨i,aX,pc,Ui,rfl,U1,rfl,f,l,t⟩;rw [OR];have I:=Ul.bw f;have UQ:=zH j W ds i;refine a9 (λUu=>?_) (λUP=>?_)
 ·have M:i<ds.length:=by omega
  obtain ⟨d,J⟩:∃ d,raw[i]?=some d:=⟨_,bM (by omega)⟩;obtain ⟨x,UI⟩:∃ x,ds[i]?=some x:=⟨_,bM M⟩;obtain ⟨p,Z⟩:∃ p,W[i]?=some p:=⟨_,bM (by omega)⟩;have O:W.getD i hB=p:=nL Z;have Uo:=K.2 i d x J UI;have L:dv ds i=e5 x:=by unfold dv;rw [cK,UI];rfl
  obtain ⟨UT,U3,U4,U5,U6⟩:=cB.ok p (cj Z);refine ew (cells:=bF.cells) bF.len (by omega) (Uz.new I.new) J rfl UA.symm λb U2 Un _=>bF.aS d ⟨Un,?_⟩
  refine dU (vs:=d.cells) rfl (bF.single _) λUY UV UN UE Uv=>?_
  rintro UG U;have N:ai UV UG:=by rw [U];exact cL _
  clear U;have g:=Uv.new N;have UD:=ai.ak N UE;have Q:=ai.ak (f.new g) UC;have F:=I.bw g;have B:=P.new (f.new g);refine ⟨λy=>ai UG y,ao.refl _ _,_,_,_,λy Y=>(ai.ak Y Q).cell (i:=1) rfl,?_⟩;refine j8 (cells:=aR.cells) aR.len (by omega) B.rd Z rfl hlen λUZ UU Um=>aR.aS p ⟨λy Y=>kD (i:=0) λq v aj=>by simpa using Um y Y q v aj,r.ez,λy Y=>(ai.ak Y F.ak).cell (i:=5) rfl,?_⟩
  rw [aA];refine aD (w9 UG p UT Up) ?_;rintro v U8 ⟨rfl,s⟩;have G:=F.bw s;have UF:=ai.ak s UD;refine ⟨_,_,rfl,s,dJ (λ_=>bF.aS d ⟨bI UF rfl,?_⟩) (λe=>absurd rfl e)⟩;refine aD (ul (Uo.ax (ao.bZ G.new) λ_ _ e=>e)) ?_;rintro v U9 ⟨rfl,Uw⟩;have h:=s.new Uw;have c:=g.new h;have Uy:=ai.ak h Q;refine ⟨_,rfl,dJ (λhe=>⟨_,_,_,Uy.cell (i:=1) rfl,?_⟩) (λhe=>?_)⟩
  ·have a:fY j W ds (i+1)=fY j W ds i++[p]:=by rw [zu];unfold qk;rw [O,if_pos (by rw [L];exact he)]
   refine ew (cells:=aR.cells) aR.len (by omega) (B.new h).rd Z rfl hlen λU0 U7 H _=>aR.aS p ⟨H,?_⟩
   rintro UJ UW Uj X;obtain ⟨D,C⟩:=bk Uj X;have D:av UW UJ p.cells eN:=D;clear X;obtain ⟨inf,Uq,UB,S,Uk⟩:=fp (T:=eN) (z:=hB.val) (n:=9) (m:=72) (by kernel_rfl);refine p4 (cells:=aR.cells) (sz:=9) aR.len aR.single Tryz.underlying37 Uq UB (by rw [S];rfl) S (by decide) (by rw [Uk];decide) (aY.new (c.new C) l) (l2:=[p]) (m:=1) (e9 D rfl) rfl (by omega) λap E UX UK UL UM=>?_
   rw [bA (x:=(i:Int)+1) (by omega) (by omega)];have Ux:ai u UX:=(f.new (c.new C)).trans UL λk Uu e=>by have:=t k e;omega
   have US:=(f.new c).size;have UR:=C.size;refine ⟨ds.length - (i+1),by omega,i+1,ap,E,_,rfl,by omega,by rw [a,c8];rfl,Ux,?_,λk Ut=>?_⟩
   ·rw [a,c8];exact UK
   ·rcases UM k Ut with e | e
    ·exact t k e
    ·omega
  ·have a:fY j W ds (i+1)=fY j W ds i:=by rw [zu];unfold qk;rw [O,if_neg (by rw [L];exact he),g_]
   rw [bA (x:=(i:Int)+1) (by omega) (by omega)];exact ⟨ds.length - (i+1),by omega,i+1,aX,pc,_,rfl,by omega,by rw [a];rfl,f.new c,by rw [a];exact aY.new c l,t⟩
 ·have Ur:i=ds.length:=by omega
  subst Ur;rw [O4];exact Us z aX pc f l.rd t
end
section
def e' (j:bz) (m:aO) (W:List aR) (G:List (List aC)):b2:=bR G (W.map (o' j m))
theorem Hi {r:cN} {m:aO} {j:bz} {V:ej} {T:ee} {G:List (List aC)} (Uo:c6 w0 u aI tb r m j V (0,0)) (Un:ek A w0 u tb T G) (Uv:fz T) {q:bN} {W:List aR} (J:eY u q.ef q.dF W) (Uy:∀ k,aL q.ef k->k≠tb/\k≠aI) (cB:qF W) :
  ba 248 [ptr aI,q.val] u (A_ A w0 u aI tb r m j V W (e' j m W G)):=by
 refine bc Tryz.func248 ?_;rw [ptr,PI];have UP:=Uo.ak.lt;have UR:=Un.ak.lt;have hlen:=J.len;have UO:=cB.dM;rintro b1 w1 Us Ui;obtain ⟨B,c⟩:=bk Us Ui;have B:av w1 b1 q.cells dW:=B;clear Ui;have UG:=c.size;refine ⟨_,_,_,B.cell (i:=1) rfl,?_⟩;refine c1 mix (λk env z=>∃ (i:Nat) (aX:an) (pc:Nat) (US:aw),k=W.length - i/\i<=W.length/\env=u6 ⟨aI,0,none⟩ ⟨b1,0,none⟩ none 0 0 aX i pc q.ef q.dF q.gT q.dF i US/\ai w1 z/\bD w1 z aX i pc ((W.take i).map (o' j m))) W.length
  ⟨0,none,0,_,by omega,by omega,rfl,ao.refl _ _,bD.nil _ _⟩ ?_
 rintro k env z ⟨i,aX,pc,US,rfl,Vd,rfl,d,w⟩;rw [OQ,hlen];have N:=Uo.bw (c.new d);refine a9 (λU5=>?_) (λU4=>?_)
 ·obtain ⟨p,UE⟩:∃ p,W[i]?=some p:=⟨_,bM (by omega)⟩;obtain ⟨Ve,Vf,U7,U8,Vg⟩:=cB.ok p (cj UE);refine ew (cells:=aR.cells) aR.len (by omega) ((J.new c).new d).rd UE rfl rfl λb U6 Uu _=>aR.aS p ⟨Uu,?_⟩
  refine dU (vs:=p.cells) rfl (aR.single _) λUX U' U3 UJ UC=>?_
  rintro UL Uj;have S:ai U' UL:=by rw [Uj];exact cL _
  clear Uj;have E:=UC.new S;have M:=N.bw E;have C:=ai.ak S UJ;refine ⟨λy=>av y UX p.cells eN/\ih r tb m j aI y,⟨C,_,_,M.ak⟩,aO.aS m ⟨λy Ul=>by obtain ⟨_,Vb,U6,Ul⟩:=Ul;exact bI Ul rfl,p.bm,λy Ul=>Ul.1.cell (i:=0) rfl,?_⟩⟩;refine aD (p2 UL U7 U8) ?_;rintro v UU ⟨rfl,UM⟩;have I:ai UL UU:=by rw [UM];exact ao.refl _ _
  clear UM;have H:=M.bw I;have Um:=ai.ak I C;refine ⟨_,rfl,⟨Um,_,_,H.ak⟩,?_⟩;refine aD (tq H Uo.dQ (p.bm * 8) 1) ?_;rintro v UV ⟨U9,rfl,UH,s⟩;have n:=H.bw s;have D:=ai.ak s Um;refine aF.aS U9 ⟨rfl,⟨D,_,_,n.ak⟩,?_⟩;rintro Vc Va Ut Uk;have U:ai UV Va:=by rw [Uk];exact gY _ _
  have g:ai z UU:=E.new I;refine ⟨⟨ai.ak U D,_,_,(n.bw U).ak⟩,bD.lk (w.new g) (d.new g) s UH (by omega) Ut Uk λap L Vh U1 Q UD=>?_⟩;obtain ⟨UT,X,_⟩:=(w.new (g.new s)).ex;have off:∀ {b:Nat} {cs:aw} {T:TypeId},T≠cr->av UV b cs T->¬ aL aX b:=λUn U2 UA=>by obtain ⟨UY,Uw⟩:=fm X UA;exact Uw.ne U2 (λe=>Un e.symm) rfl
  refine ⟨⟨Q.ak D (off (by decide) D),_,_,Q.ak n.ak (off (by decide) n.ak)⟩,?_⟩;rw [bA (x:=(i:Int)+1) (by omega) (by omega)];refine ⟨W.length - (i+1),by omega,i+1,ap,L,_,rfl,by omega,by rw [<-hlen];rfl,UD,?_⟩;have e:(W.take i).map (o' j m)++[o' j m p]=(W.take (i+1)).map (o' j m):=by rw [eT,UE];simp
  rw [<-e];exact U1
 ·have Uz:i=W.length:=by omega
  subst Uz;rw [hq] at w;rw [O3];have F:=c.new d;refine aD (mJ N (Un.new F) Uv (Uo.bw c).new (by omega) (by omega) w (by rw [fc];omega)) ?_;rintro v UK ⟨dk,dc,raw,rfl,a,UF,f,K⟩;have P:=a.ax;have a:ec A w0 u aI tb u.heap.size r m j V (e' j m W G) UK:=ec.of a F UG;have f:gi A w0 raw (e' j m W G).done:=f;have K:(e' j m W G).ok=true->raw.length=(W.map (o' j m)).length:=K;have Ux:(e' j m W G).done.length<=W.length:=by
   cases t:(e' j m W G).ok with
   |true=>rw [<-f.1,K t,fc];omega
   |false=>
    have:(e' j m W G).done=[]:=by
     unfold e' bR cd at t ⊢;split
     ·rfl
     split
     ·rfl
     ·rename_i Up Uq;rw [if_neg Up,if_neg Uq] at t;cases t
    rw [this];simp
  refine ⟨_,_,_,_,rfl,?_⟩;show cx prog _ _ _ _;rw [f.1];have C:av UK b1 q.cells dW:=P.ak (ai.ak d B) (by omega);have h:=(J.new c).new d;have Y:eY UK q.ef q.dF W:=⟨h.rd.ax P (g0 h.rd λk UB e=>by have:=Uy k UB;rcases e with e | e;exact this.1 e;exact this.2 e),h.len,h.dM,h.u64⟩;have UQ:=a.ax.size;refine Ji a.eb C Y cB UF f Ux _ _ (R:=A_ A w0 u aI tb r m j V W (e' j m W G)) λbo aX pc o Z O=>?_
  obtain ⟨UW,Ur,UI,l⟩:=a.hp;refine ⟨aX,pc,rfl,⟨a.ax.new o,a.eb.bw o,UW,Ur.new o,UI,?_⟩,Z,λk UA=>by have:=O k UA;omega⟩;cases UN:(e' j m W G).ask with
  |none=>rw [UN] at l;exact l
  |some vs=>rw [UN] at l;obtain ⟨UZ,U_,Up,Uq,U0⟩:=l;exact ⟨UZ,U_,Up,Uq,U0.new o⟩
end
section
theorem MT (h:∀ x ∈ L,b3 x) (i:Nat):b3 (L.getD i 0):=by
 rw [cK];cases a:L[i]? with
 |none=>exact gQ
 |some x=>exact h x (cj a)
theorem Kr (h:fx L lines=true) (hu:∀ x ∈ L,b3 x):ff (cI L lines).1 (cI L lines).2 lines=0/\qF (cI L lines).2/\∀ p ∈ (cI L lines).2,∀ x ∈ gZ p,b3 x:=by
 have hw:=h;unfold fx at hw;simp only [eH,decide_eq_true_eq,beq_iff_eq] at hw;have j:cI L lines=((L.drop 8).getD 0 0,hv (L.drop 8) ((L.drop 8).getD 1 0).toNat):=by unfold cI d';rw [if_pos h,if_pos hw.2]
 have c:=hw.2;unfold d8 at c;split at c
 ·omega
 split at c
 ·omega
 split at c
 ·omega
 split at c
 ·omega
 rename_i _ _ _ d;have d:ff ((L.drop 8).getD 0 0) (hv (L.drop 8) ((L.drop 8).getD 1 0).toNat) lines=0:=by omega
 rw [j];have aA:∀ x ∈ L.drop 8,b3 x:=λx b=>hu x (n1 b)
 obtain ⟨o,l,f,e,_⟩:=jD d;refine ⟨d,⟨l.2.2.2,λp a=>⟨(e p a).1,(e p a).2,(f p a).1,by have:=(f p a).2;omega,B8 aA _ p a⟩⟩,λp a x b=>?_⟩;obtain ⟨i,_,rfl⟩:=cD.1 a;have k:∀ y ∈ ((L.drop 8).drop (2+9 * i)).take 9,b3 y:=λy n=>aA y (n1 (r3 n))
 have g:=MT k;have b:x ∈ [(((L.drop 8).drop (2+9 * i)).take 9).getD 2 0,(((L.drop 8).drop (2+9 * i)).take 9).getD 3 0,(((L.drop 8).drop (2+9 * i)).take 9).getD 4 0,(((L.drop 8).drop (2+9 * i)).take 9).getD 5 0,(((L.drop 8).drop (2+9 * i)).take 9).getD 6 0,(((L.drop 8).drop (2+9 * i)).take 9).getD 7 0,(((L.drop 8).drop (2+9 * i)).take 9).getD 8 0]:=b;simp only [dy,kt,or_false] at b;rcases b with rfl | rfl | rfl | rfl | rfl | rfl | rfl<;>exact g _
theorem bD.three {bH bY br q:al} {v1 v2 g:aF} {r s x:aG} {b:Nat} (j:ai u bH) (l:cA (λk=>k<u.heap.size) bH v1 r) (f:ai bH bY) (n:cA (λk=>k<bH.heap.size) bY v2 s) (c:ai bY br) (p:cA (λk=>k<bY.heap.size) br g x) (B:b=br.heap.size) (au:av q b (v1.cells++v2.cells++g.cells) cr) (i:ai br q):bD u q (some ⟨b,0,none⟩) 3 3 [r,s,x]:=by
 have y:=j.size;have z:=f.size;have A:=c.size;have a:∀ k,aL (some ⟨b,0,none⟩) k->k=b:=λk h=>by obtain ⟨o,w⟩:=h;simp at w;exact w.1.symm
 have t:(v1.cells++v2.cells++g.cells).length=27:=by rw [c8,c8,aF.len,aF.len,aF.len]
 refine ⟨⟨[v1,v2,g],⟨by simp [dz];rfl,.inr ⟨b,v1.cells++v2.cells++g.cells,rfl,au,dd 3,by decide,t,?_⟩⟩,dX.app (r1:=[v1]) (v1:=[r]) (dX.one ?_) (dX.app (r1:=[v2]) (v1:=[s]) (dX.one ?_) (dX.one ?_))⟩,rfl,λk h=>by rw [a k h];omega⟩
 ·rw [gb (by rw [t];decide)];simp [dz]
 ·exact l.ax (ao.bZ ((f.new c).new i)) λk d e=>by
   rcases e with e | e
   ·exact e
   ·have:=a k e;omega
 ·exact n.ax (ao.bZ (c.new i)) λk d e=>by
   rcases e with e | e
   ·omega
   ·have:=a k e;omega
 ·exact p.ax (ao.bZ i) λk d e=>by
   rcases e with e | e
   ·omega
   ·have:=a k e;omega
end
end Go.Proofs.YtmkljjbioomepaaGreat
