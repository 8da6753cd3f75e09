import Derived.Test.YtmkljjbioomepaaGreatd29
import Derived.Test.YtmkljjbioomepaaGreatProg
import Derived.Test.YtmkljjbioomepaaGreatd03
set_option linter.all false
set_option maxHeartbeats 4000000
set_option maxRecDepth 100000
namespace Go.Proofs.YtmkljjbioomepaaGreat
open Go.Proofs.Tryz Go.bs
variable {A:a6} {G:List (List aM)} {L:a8} {T:gn} {V:gl} {j:ca} {lines:Int} {m:a0} {o:Int×Int} {q:b0} {r:dE} {aI tb:Nat} {u w0:ak}
section
theorem Ce (h:fU L lines=true):1<=(c1 L lines).1/\(c1 L lines).1<1073741824:=by
 have hw:=h;unfold fU at hw;simp only [ep,decide_eq_true_eq,beq_iff_eq] at hw;unfold c1 ew;rw [if_pos h,if_pos hw.2];have a:=hw.2;unfold ek at a;split at a
 ·omega
 split at a
 ·omega
 split at a
 ·omega
 split at a
 ·omega
 rename_i _ _ _ b;have b:fH ((L.drop 8).getD 0 0) (hA (L.drop 8) ((L.drop 8).getD 1 0).toNat) lines=0:=by omega
 obtain ⟨_,c,_⟩:=jy b;exact ⟨c.1,c.2.1⟩
theorem OG (x:Int):0<=(ik x).1/\(ik x).1<1073741824:=by
 unfold ik;split
 ·rename_i h;exact ⟨by show 0<=df .u64 x 2;omega,h.2.1⟩
 ·exact ⟨by decide,by decide⟩
def mG (a b:Int):Int:=if a<b then b else a
def hP (lines g:Int) (L:a8):Int:=
 let a:=if (ik (L.getD 0 0)).2=true then mG g (ik (L.getD 0 0)).1 else g
 if fU L lines=true then mG a (c1 L lines).1 else a
def jh (clock:Int):Int:=if 1073741823<clock then 1073741823 else clock
def jT (lines clock:Int) (aV:List a8):Int:=aV.foldl (hP lines) (jh clock)+1
theorem EK {a b:Int} (c:0<=a/\a<1073741824) (d:0<=b/\b<1073741824):0<=mG a b/\mG a b<1073741824:=by unfold mG;split<;>omega
theorem KW {g:Int} (h:0<=g/\g<1073741824):0<=hP lines g L/\hP lines g L<1073741824:=by
 unfold hP;have a:0<=(if (ik (L.getD 0 0)).2=true then mG g (ik (L.getD 0 0)).1 else g)/\(if (ik (L.getD 0 0)).2=true then mG g (ik (L.getD 0 0)).1 else g)<1073741824:=by
  split
  ·exact EK h (OG _)
  ·exact h
 simp only;split
 ·rename_i hw;have:=Ce hw;exact EK a ⟨by omega,this.2⟩
 ·exact a
theorem KX (G:dg w0 u aI tb r m j V o) {aV:List a8} (XB:k1 w0 u aI tb V aV) (Z:aV.length<=100) (P:∀ L ∈ aV,L.length=120) (K:cj V.clock) :
  bb 184 [ptr aI] u λv bw=>v=.int .i64 (jT j.lines V.clock aV)/\ai u bw:=by
 refine bd Tryz.func184 ?_;rw [ptr,Tp];obtain ⟨⟨W,R,Q,XD,E⟩,Xv⟩:=XB;have f:=G.bQ.lines;have e:0<=jh V.clock/\jh V.clock<1073741824:=by have:=K.1;unfold jh;split<;>omega
 refine ⟨_,G.aj.cell (i:=14) rfl,_,_,_,G.aj.cell (i:=13) rfl,?_⟩;rw [show IntKind.i64.wrap (if (1073741823:Int)<V.clock then (1073741823:Int) else V.clock)=jh V.clock from bH (by unfold jh at e;omega) (by unfold jh at e;omega)];refine c8 mix (λq env z=>∃ (i:Nat) (A:ax),q=aV.length - i/\i<=aV.length/\env=ov ⟨aI,0,none⟩ ((aV.take i).foldl (hP j.lines) (jh V.clock)) V.fz V.ke V.lc V.ke i A/\ai u z/\0<=(aV.take i).foldl (hP j.lines) (jh V.clock)/\(aV.take i).foldl (hP j.lines) (jh V.clock)<1073741824) aV.length
  ⟨0,_,by omega,by omega,rfl,ao.refl _ _,e.1,e.2⟩ ?_
 rintro q env z ⟨i,A,rfl,XF,rfl,h,p⟩;rw [RP];have B:=G.bB h;refine bc (λXC=>?_) (λXA=>?_)
 ·have F:i<aV.length:=by omega
  obtain ⟨s,Xy⟩:∃ s,W[i]?=some s:=⟨_,bE (by omega)⟩;obtain ⟨L,I⟩:∃ L,aV[i]?=some L:=⟨_,bE F⟩;have D:=E i s L Xy I;have w:=D.new B.new;have Y:=P L (b5 I);have k:(aV.take (i+1)).foldl (hP j.lines) (jh V.clock)=hP j.lines ((aV.take i).foldl (hP j.lines) (jh V.clock)) L:=by rw [ff,I,yM];rfl
  generalize (aV.take i).foldl (hP j.lines) (jh V.clock)=g at p k;have more:∀ {t:Int} {X:ak} (A:ax),t=hP j.lines g L->ai u X->∃ b4,b4<aV.length - i/\∃ (y:Nat) (U:ax),b4=aV.length - y/\y<=aV.length/\ov ⟨aI,0,none⟩ t V.fz V.ke V.lc V.ke (IntKind.i64.wrap (i+1)) A=ov ⟨aI,0,none⟩ ((aV.take y).foldl (hP j.lines) (jh V.clock)) V.fz V.ke V.lc V.ke y U/\ai u X/\0<=(aV.take y).foldl (hP j.lines) (jh V.clock)/\(aV.take y).foldl (hP j.lines) (jh V.clock)<1073741824:=by intro t X A XE H;rw [bH (x:=(i:Int)+1) (by omega) (by omega)];have C:=KW (lines:=j.lines) (L:=L) p;exact ⟨aV.length - (i+1),by omega,i+1,A,rfl,by omega,by rw [XE,k];rfl,H,by rw [k];exact C.1,by rw [k];exact C.2⟩
  refine eI (cells:=mK) (sz:=1) (λ_=>rfl) (by decide) (R.new h) Xy rfl Q λb' XG _ J=>⟨s.a,s.n,s.c,J 0 _ rfl,?_⟩
  refine nj w.rd (i:=0) (by omega) w.len rfl λaH XH hw=>⟨_,hw _ (ao.refl _ _),?_⟩
  have S:cj (L.getD 0 0):=by
   cases L with
   |nil=>exact hq
   |cons a l=>exact D.u64 a (by simp)
  refine aD (Jm z S) ?_;rintro v XI ⟨rfl,rfl⟩;refine ⟨_,_,rfl,f' (λb=>?_) (λb=>?_)⟩
  all_goals
   refine ⟨r.hs,B.aj.cell (i:=2) rfl,?_⟩;rw [f];refine aD (vL j.lines w) ?_;rintro v XJ ⟨pb,aY,rfl,N,Xx,Xw⟩;refine b0.aT ⟨(c1 L j.lines).1,pb,(c1 L j.lines).2.length,aY⟩ ⟨_,rfl,?_⟩;refine ec (vs:=b0.cells ⟨(c1 L j.lines).1,pb,(c1 L j.lines).2.length,aY⟩) rfl (b0.single _) λaB XK Xz T O=>?_
   have H:=h.new (N.new O);refine f' (λd=>⟨_,T.cell (i:=0) rfl,more _ ?_ H⟩) (λd=>more _ ?_ H)
  ·unfold hP;simp only [b,d,if_true];rfl
  ·unfold hP;simp only [b,d,if_true];rfl
  ·unfold hP;simp only [b,d,if_true];rfl
  ·unfold hP;simp only [b,d];rfl
 ·have M:i=aV.length:=by omega
  subst M;rw [h0] at p ⊢;rw [R0];rw [bH (by omega) (by omega)];exact ⟨rfl,h⟩
end
section
open IntKind
variable (w:ak) (R:cz) {a b c d e f:Nat} {A B:aX} {s t u:an} {i k l m:Int} {j:ar}
def um (e:aX) (l:an) (a b:Nat) (n s8:Int) (o:an) (c d:Nat) (f:an) (g h:Nat) (i k:Int) (j:ar):ar:=.pointer (some e)::ag j 0 4 (ae l a b::ag j 4 1 (ab n::ah s8::ae o c d::ag j 5 31 (ae f g h::ab i::ab k::ag j 36 51 [])))
def Ag (a:aX) (e:an) (b c:Nat) (g s8:Int) (h:an) (d f:Nat) (j:ar):ar:=.pointer (some a)::ag j 0 4 (ae e b c::ag j 4 1 (ab g::ah s8::ae h d f::ag j 5 85 []))
theorem Tb (t:b0):bf prog f227 [ba a,t.val] R w=(aS w t.cells.toArray 271 λj v=>hW v (af j 0) λr=>dn 247 #[ba a,r.val] v λe o=>cond (!e) (R (ad false) o) (hW o (af j 0) λu=>jD 248 #[ba a,u.val] o λb c d f s=>cond (!f) (R (ad false) s) (cond ((c:Int) == 0) (R (ad true) s) (cw s λx q=>cV q (af a 5) λg=>cV q (af j 0) λh=>ct 225 #[ab g] x λi p=>q p/\l5 p (af a 3) λn=>eZ 216 #[n.val] p λk l m y=>cG prog (c7 f227 [1,1,1,1,1,1,1,0,1,0,0]) (um (af a 0) b c d i (u64.wrap h) none 0 0 k l m (l:Nat) 0 (t.val::undef::jp (af j 0)::ad false::ad f::bD 2 (jp (af a 0)::r.val::ad e::ad (!e)::.tuple #[ae b c d,ad f]::jp (af a 0)::u.val::.tuple #[ae b c d,ad f]::ae b c d::ad f::ad f::ad (!f)::ae b c d::eo c::ad ((c:Int) == 0)::jp (af a 0)::jp (af a 0)::jp (af a 0)::jp (af a 5)::ab g::ab i::jp (af j 0)::ab h::ah (u64.wrap h)::jp (af a 0)::jp (af a 0)::jp (af a 0)::jp (af a 3)::n.val::bD 51 []))) (aP 0 (aU f227 [1,1,1,1,1,1,1,1] R)) y)))):=by kernel_rfl
theorem R3 (H:ar->aF):W prog (sb f227 [1,1,1,1,1,1,1,0,1,0,0]) (um A s a b i k t c d u e f l m j) (aZ H (aP 0 (aU f227 [1,1,1,1,1,1,1,1] R))) w=(cond (m<l) (bA u e m 3 λF=>iC w F λr=>aS w #[ab 0,ab 0,ad false] 116 λB K=>a_ K (af B 0) 0 r.cells λD=>iC D (af B 0) λC=>eZ 249 #[.pointer (some A),C.val,ae s a b] D λx z n O=>db 125 (ae t c d) (ae x z n) O λy o p E=>iC E (af B 0) λa'=>aS E #[ah k] 30 λa9 L=>eM 250 #[.pointer (some A),a'.val,ab i,ae (bo a9) 1 1] L λv N=>aS N v.cells.toArray 158 λG P=>db 125 (ae y o p) (ae (bo G) 1 1) P λq g h M=>H (um A s a b i k q g h u e f l (i64.wrap (m+1)) (ag j 0 6 (jp (af B 0)::ag j 7 29 (ad (m<l)::jp F::r.val::ae t c d::jp A::C.val::ae s a b::ae x z n::ae y o p::ae y o p::jp A::a'.val::ab i::ah k::ae (bo a9) 1 1::v.val::ae (bo G) 1 1::ae q g h::ab (i64.wrap (m+1))::ag j 55 32 [])))) M) (W prog (sb f227 [1,1,1,1,1,1,1,1]) (Ag A s a b i k t c d (ag j 0 36 (ae u e f::ab l::ab m::ad (m<l)::ag j 37 50 []))) (b7 f227 R) w)):=by kernel_rfl
theorem Sj:W prog (sb f227 [1,1,1,1,1,1,1,1]) (Ag A s a b i k t c d j) (b7 f227 R) w=(jD 221 #[.pointer (some A),ae t c d] w λg h B D M=>cond (!D) (R (ad false) M) (cw M λQ u=>hp u (bY A 9) λJ=>hp u (bY A 9) λF=>aS Q #[ah k] 30 λY a9=>u a9/\eM 250 #[.pointer (some A),J.val,ab i,ae (bo Y) 1 1] a9 λa' E=>u E/\(aS E a'.cells.toArray 158 λV G=>u G/\eZ 249 #[.pointer (some A),F.val,ae s a b] G λl m n P=>u P/\db 125 (ae (bo V) 1 1) (ae l m n) P λS o p N=>u N/\jD 221 #[.pointer (some A),ae S o p] N λq r e f H=>u H/\R (ad f) H)/\eZ 249 #[.pointer (some A),F.val,ae s a b] E λv x y K=>u K/\aS K a'.cells.toArray 158 λT O=>u O/\db 125 (ae (bo T) 1 1) (ae v x y) O λz Z I L=>u L/\jD 221 #[.pointer (some A),ae z Z I] L λXw Xv U X C=>u C/\R (ad X) C)):=by kernel_rfl
def uv (e:aX) (i:an) (a b:Nat) (c:an) (d f:Nat) (g h:Int) (j:ar):ar:=.pointer (some e)::ag j 0 4 (ae i a b::ag j 4 7 (ae c d f::ab g::ab h::ag j 11 38 []))
def F3 (a:aX) (d:an) (b c:Nat) (j:ar):ar:=.pointer (some a)::ag j 0 4 (ae d b c::ag j 4 48 [])
theorem TD (f:b0):bf prog f229 [ba a,f.val] R w=(aS w f.cells.toArray 271 λe g=>b_ g (af e 1) λd b c=>cG prog (c7 f229 [1,1,0,1,0,0]) (uv (af a 0) none 0 0 d b c (b:Nat) 0 (f.val::undef::jp (af e 0)::ad false::bD 6 (jp (af e 1)::bD 38 []))) (aP 0 (aU f229 [1,1,1] R)) g):=by kernel_rfl
theorem R1 (C:ar->aF):W prog (sb f229 [1,1,0,1,0,0]) (uv A s a b t c d i k j) (aZ C (aP 0 (aU f229 [1,1,1] R))) w=(cond (k<i) (bA t c k 9 λB=>hI w B λr=>aS w #[ab 0,ah 0,ah 0,ah 0,ah 0,ah 0,ah 0,ah 0,ah 0] 73 λv K=>a_ K (af v 0) 0 r.cells λa9=>cw a9 λM u=>uV u (af v 0) λz=>cV u (bY A 5) λf=>hH 211 #[z.val,ab f] M λh l D=>cond (l == 0) (cw D λL x=>hp x (bY A 9) λe=>cV x (af v 0) λm=>j1 x (af v 1) λn=>ct 108 #[ab m] L λo a'=>x a'/\eM 223 #[.pointer (some A),e.val,ab o,ah h,ah n] a' λg H=>x H/\aS H g.cells.toArray 158 λF E=>x E/\db 125 (ae s a b) (ae (bo F) 1 1) E λy p q G=>x G/\C (uv A y p q t c d i (i64.wrap (k+1)) (ag j 0 5 (jp (af v 0)::ah h::ab l::aO j 8::aO j 9::aO j 10::ad (k<i)::jp B::r.val::.tuple #[ah h,ab l]::z.val::jp A::jp A::jp A::bL A 5::ab f::.tuple #[ah h,ab l]::ah h::ab l::ab l::ad ((l:Int) == 0)::ae s a b::jp A::jp A::jp A::bL A 9::e.val::jp (af v 0)::ab m::ab o::ah h::jp (af v 1)::ah n::g.val::ae (bo F) 1 1::ae y p q::ab (i64.wrap (k+1))::ag j 42 7 []))) G) (C (uv A s a b t c d i (i64.wrap (k+1)) (ag j 0 5 (jp (af v 0)::ah h::ab l::aO j 8::aO j 9::aO j 10::ad (k<i)::jp B::r.val::.tuple #[ah h,ab l]::z.val::jp A::jp A::jp A::bL A 5::ab f::.tuple #[ah h,ab l]::ah h::ab l::ab l::ad ((l:Int) == 0)::ag j 26 15 (ab (i64.wrap (k+1))::ag j 42 7 [])))) D)) (W prog (sb f229 [1,1,1]) (F3 A s a b (ag j 0 11 (ae t c d::ab i::ab k::ad (k<i)::ag j 12 37 []))) (b7 f229 R) w)):=by kernel_rfl
theorem SP:W prog (sb f229 [1,1,1]) (F3 A s a b j) (b7 f229 R) w=(jD 221 #[.pointer (some A),ae s a b] w λd f g h c=>R (ad h) c):=by kernel_rfl
def w6 (e i:aX) (k:an) (a b:Nat) (c:an) (d f:Nat) (g h:Int) (j:ar):ar:=.pointer (some e)::ag j 0 3 (.pointer (some i)::ag j 3 2 (ae k a b::ag j 5 4 (ae c d f::ab g::ab h::ag j 9 20 [])))
def F2 (c:an) (a b:Nat) (j:ar):ar:=ag j 0 7 (ae c a b::ag j 7 27 [])
theorem Ts (d:a0):bf prog f249 [ba a,d.val,ae s b c] R w=(aS w d.cells.toArray 116 λf e=>cG prog (c7 f249 [1,1,0,1,0,0]) (w6 (af a 0) (af f 0) none 0 0 s b c (b:Nat) 0 (d.val::ae s b c::bD 2 (a5::bD 24 []))) (aP 0 (aU f249 [1,1,1] R)) e):=by kernel_rfl
theorem Sf (F:ar->aF):W prog (sb f249 [1,1,0,1,0,0]) (w6 A B s a b t c d i k j) (aZ F (aP 0 (aU f249 [1,1,1] R))) w=(cond (k<i) (bA t c k 9 λE=>hI w E λr=>aS w #[ab 0,ah 0,ah 0,ah 0,ah 0,ah 0,ah 0,ah 0,ah 0] 73 λu a9=>a_ a9 (af u 0) 0 r.cells λy=>hI y (af u 0) λx=>sM 244 #[x.val] y λf g l m L=>cw L λK h=>hp h B λG=>cV h (af u 0) λn=>ct 108 #[ab n] K λo z=>h z/\eM 250 #[.pointer (some A),G.val,ab o,ae f g l] z λe a'=>h a'/\aS a' e.cells.toArray 158 λC H=>h H/\db 125 (ae s a b) (ae (bo C) 1 1) H λv p q D=>h D/\F (w6 A B v p q t c d i (i64.wrap (k+1)) (ag j 0 6 [jp (af u 0),ae f g l,ab m,ad (k<i),jp E,r.val,.tuple #[ae f g l,ab m],x.val,.tuple #[ae f g l,ab m],ae f g l,ab m,ae s a b,jp A,G.val,jp (af u 0),ab n,ab o,ae f g l,e.val,ae (bo C) 1 1,ae v p q,ab (i64.wrap (k+1)),aO j 28])) D) (W prog (sb f249 [1,1,1]) (F2 s a b (jp A::aO j 0::aO j 1::aO j 2::jp B::ag j 3 6 (ae t c d::ab i::ab k::ad (k<i)::ag j 10 19 []))) (b7 f249 R) w)):=by kernel_rfl
theorem Sh:W prog (sb f249 [1,1,1]) (F2 s a b j) (b7 f249 R) w=(R (ae s a b) w):=by kernel_rfl
end
section
def vH (j:ca) (m:a0) (p:aK):aQ:=r3 j m (p.bm * 8) (eK p.Head j.dead) p.Head
def tV (j:ca) (m:a0) (W:List aK) (G:List (List aM)):cr:=bP G (W.map (vH j m))
structure sf (W:List aK):Prop where
 eB:W.length<=12
 ok:∀ p ∈ W,l8 p.Head=true/\kO p.Head=true/\96<=p.bm/\p.bm<256/\cj p.Head
theorem OH (D:dg w0 u aI tb r m j V (0,0)) (Y:eP A w0 u tb T G) (Xy:ga T) {W:List aK} (N:fm u q.eH q.dT W) (eJ:sf W) :
  bb 229 [ptr aI,q.val] u (lq A w0 u aI tb r m j V (tV j m W G)):=by
 refine bd Tryz.func229 ?_;rw [ptr,TD];have XN:=D.aj.lt;have XO:=Y.aj.lt;have XA:=D.b8.dead;have aq:=D.bQ.dead;have hlen:=N.len;have XM:=eJ.eB;rintro b1 w1 Z O;obtain ⟨C,a⟩:=bl Z O;have C:av w1 b1 q.cells er:=C;clear O;have XF:=a.size;refine ⟨_,_,_,C.cell (i:=1) rfl,?_⟩;refine c8 mix (λk env z=>∃ (i:Nat) (a2:an) (pc:Nat) (XP:ax),k=W.length - i/\i<=W.length/\env=uv ⟨aI,0,none⟩ a2 i pc q.eH q.dT q.hv q.dT i XP/\ai w1 z/\bK w1 z a2 i pc ((W.take i).map (vH j m))) W.length
  ⟨0,none,0,_,by omega,by omega,rfl,ao.refl _ _,bK.nil _ _⟩ ?_
 rintro k env z ⟨i,a2,pc,XP,rfl,X_,rfl,d,l⟩;rw [R1,hlen];have I:=D.bB (a.new d);refine bc (λXZ=>?_) (λXX=>?_)
 ·obtain ⟨p,XD⟩:∃ p,W[i]?=some p:=⟨_,bE (by omega)⟩;obtain ⟨X1,X',X2,X3,X4⟩:=eJ.ok p (b5 XD);refine eI (cells:=aK.cells) aK.len (by omega) ((N.new a).new d).rd XD rfl rfl λb X0 Xx _=>aK.aT p ⟨Xx,?_⟩
  refine ec (vs:=p.cells) rfl (aK.single _) λXS X5 XW XH K=>?_
  rintro XJ P;have s:ai X5 XJ:=by rw [P];exact cK _
  clear P;have F:=I.bB (K.new s);have S:=ai.aj s XH;refine ⟨λy=>ai XJ y,ao.refl _ _,aK.aT p ⟨λy f=>bO (ai.aj f S) rfl,r.eV,λy f=>(ai.aj f F.aj).cell (i:=5) rfl,?_⟩⟩;rw [aq];refine aD (yS XJ p X1 XA) ?_;rintro v X6 ⟨rfl,t⟩;have Xw:=F.bB t;have XI:=ai.aj t S;refine ⟨_,_,rfl,d' (λ_=>?_) (λe=>absurd rfl e)⟩;rintro XK Q;have w:ai X6 XK:=by rw [Q];exact cK _
  clear Q;have H:=Xw.bB w;have U:=ai.aj w XI;refine ⟨λy=>av y XS p.cells eu/\jc r tb m j aI y,⟨U,_,_,H.aj⟩,a0.aT m ⟨λy f=>by obtain ⟨_,X8,X0,f⟩:=f;exact bO f rfl,p.bm,λy f=>f.1.cell (i:=0) rfl,p.Head,λy f=>f.1.cell (i:=1) rfl,?_⟩⟩;refine aD (rj XK X2 X3) ?_;rintro v XQ ⟨rfl,XL⟩;have B:ai XK XQ:=by rw [XL];exact ao.refl _ _
  clear XL;have o:=H.bB B;have X:=ai.aj B U;refine ⟨_,rfl,⟨X,_,_,o.aj⟩,?_⟩;refine aD (vM o D.ee (p.bm * 8) (D3 p.Head j.dead) X4) ?_;rintro v XR ⟨bj,rfl,XG,h⟩;have g:=o.bB h;have n:=ai.aj h X;refine aG.aT bj ⟨rfl,⟨n,_,_,g.aj⟩,?_⟩;rintro X9 X7 Xv R;have L:ai XR X7:=by rw [R];exact hy _ _
  have c:ai z XQ:=(((K.new s).new t).new w).new B;refine ⟨⟨ai.aj L n,_,_,(g.bB L).aj⟩,bK.l3 (l.new c) (d.new c) h XG (by omega) Xv R λap E Yb XU J XC=>?_⟩;obtain ⟨cp,M,_⟩:=(l.new (c.new h)).ex;have off:∀ {b:Nat} {cs:ax} {T:TypeId},T≠cF->av XR b cs T->¬ aL a2 b:=λY XV XY=>by obtain ⟨XT,Xz⟩:=fT M XY;exact Xz.ne XV (λe=>Y e.symm) rfl
  refine ⟨⟨J.aj n (off (by decide) n),_,_,J.aj g.aj (off (by decide) g.aj)⟩,?_⟩;rw [bH (x:=(i:Int)+1) (by omega) (by omega)];refine ⟨W.length - (i+1),by omega,i+1,ap,E,_,rfl,by omega,by rw [<-hlen];rfl,XC,?_⟩;have e:(W.take i).map (vH j m)++[vH j m p]=(W.take (i+1)).map (vH j m):=by rw [ff,XD];simp
  rw [<-e];exact XU
 ·have XB:i=W.length:=by omega
  subst XB;rw [h0] at l;rw [SP];refine aD (nM I (Y.new (a.new d)) Xy (D.bB a).new (by omega) (by omega) l (by rw [fZ];omega)) ?_;rintro v Ya ⟨dB,dc,raw,rfl,XE,_⟩;exact ⟨_,_,_,_,rfl,rfl,XE.of (a.new d) XF⟩
end
section
def nN (j:ca) (bg:a0) (p:aK):aQ:=lZ j bg (p.bm * 8) (iJ p)
theorem CF (XV:dg w0 u aI tb r m j V o) {bg:a0} (XD:d9 bg.cq) {a:an} {n c:Nat} {W:List aK} (L:fm u a n W) (eJ:sf W) (F:∀ p ∈ W,∀ x ∈ hz p,cj x) :
  bb 249 [ptr aI,bg.val,.slice a n c] u λv bw=>∃ a2 pc,v=.slice a2 W.length pc/\ai u bw/\bK u bw a2 W.length pc (W.map (nN j bg)):=by
 refine bd Tryz.func249 ?_;rw [ptr,Ts];have hlen:=L.len;have XM:=eJ.eB;rintro b1 w1 Xv M;obtain ⟨D,H⟩:=bl Xv M;have D:av w1 b1 bg.cells eG:=D;clear M;have XZ:=H.size;refine c8 mix (λk env z=>∃ (i:Nat) (a2:an) (pc:Nat) (XN:ax),k=W.length - i/\i<=W.length/\env=w6 ⟨aI,0,none⟩ ⟨b1,0,none⟩ a2 i pc a n c n i XN/\ai u z/\av z b1 bg.cells eG/\bK u z a2 i pc ((W.take i).map (nN j bg))) W.length
  ⟨0,none,0,_,by omega,by omega,rfl,H,D,bK.nil _ _⟩ ?_
 rintro k env z ⟨i,a2,pc,XN,rfl,X8,rfl,q,R,s⟩;rw [Sf,hlen];have XB:=XV.bB q;refine bc (λXY=>?_) (λXW=>?_)
 ·obtain ⟨p,Z⟩:∃ p,W[i]?=some p:=⟨_,bE (by omega)⟩;obtain ⟨X_,X0,X1,X2,X3⟩:=eJ.ok p (b5 Z);refine eI (cells:=aK.cells) aK.len (by omega) (L.new q).rd Z rfl rfl λb X9 Xz _=>aK.aT p ⟨Xz,?_⟩
  refine ec (vs:=p.cells) rfl (aK.single _) λXP X4 XU S XF=>aK.aT p ⟨bO S rfl,?_⟩
  refine aD (Cj X4 p X3 X0) ?_;rintro v X5 ⟨c6,eg,rfl,XE,P,_⟩;refine ⟨_,_,_,_,rfl,?_⟩;rintro XJ N;have I:ai X5 XJ:=by rw [N];exact cK _
  clear N;have w:=XE.new I;have g:=XF.new w;have Xx:=XB.bB g;have U:=ai.aj w S;have A:=ai.aj g R;refine ⟨λy=>av y XP p.cells eu/\av y b1 bg.cells eG,⟨U,A⟩,a0.aT bg ⟨λy XI=>bO XI.2 rfl,p.bm,λy XI=>XI.1.cell (i:=0) rfl,?_⟩⟩;refine aD (rj XJ X1 X2) ?_;rintro v XK ⟨rfl,XL⟩;have h:ai XJ XK:=by rw [XL];exact ao.refl _ _
  clear XL;have Xy:=Xx.bB h;have X:=ai.aj h U;have B:=ai.aj h A;refine ⟨_,rfl,⟨X,B⟩,?_⟩;have Q:bk XK c6 (us (iJ p)):=(a1.new (I.new h) P).rd;refine aD (wn Xy XD (p.bm * 8) Q rfl (a1.le P) (λe=>?_) (EB (F p (b5 Z))) (by show 8<=1000000;omega)) ?_
  ·rcases Q with Y | ⟨dm,X',Y,_⟩
   ·have:=congrArg List.length Y;rw [hO,qd] at this;exact fF this
   ·rw [e] at Y;cases Y
  rintro v XO ⟨bj,rfl,XH,l⟩;have t:=ai.aj l X;have d:=ai.aj l B;refine aG.aT bj ⟨rfl,⟨t,d⟩,?_⟩;rintro X7 X6 Xw O;have J:ai XO X6:=by rw [O];exact hy _ _
  have f:ai z XK:=g.new h;refine ⟨⟨ai.aj J t,ai.aj J d⟩,bK.l3 (s.new f) (q.new f) l XH (by omega) Xw O λap E Ya XR G XG=>?_⟩;obtain ⟨cp,K,_⟩:=(s.new (f.new l)).ex;have off:∀ {b:Nat} {cs:ax} {T:TypeId},T≠cF->av XO b cs T->¬ aL a2 b:=λXS XT XX=>by obtain ⟨XQ,XA⟩:=fT K XX;exact XA.ne XT (λe=>XS e.symm) rfl
  have C:=G.aj d (off (by decide) d);refine ⟨⟨G.aj t (off (by decide) t),C⟩,?_⟩;rw [bH (x:=(i:Int)+1) (by omega) (by omega)];refine ⟨W.length - (i+1),by omega,i+1,ap,E,_,rfl,by omega,by rw [<-hlen];rfl,XG,C,?_⟩;have e:(W.take i).map (nN j bg)++[nN j bg p]=(W.take (i+1)).map (nN j bg):=by rw [ff,Z];simp
  rw [<-e];exact XR
 ·have XC:i=W.length:=by omega
  subst XC;rw [h0] at s;rw [Sh];exact ⟨a2,pc,rfl,q,s⟩
end
section
noncomputable abbrev xj:Func:=f248
def qm (j:ca) (m:a0) (p:aK):aQ:=mU j m (p.bm * 8) 1
def p5 (j:ca) (W:List aK) (ds:List aM) (i:Nat):List aK:=if dv ds i=eK (W.getD i hR).Head j.dead then [W.getD i hR] else []
def gD (j:ca) (W:List aK) (ds:List aM) (n:Nat):List aK:=((List.range n).map (p5 j W ds)).flatten
theorem Bf (j:ca) (W:List aK) (ds:List aM) (n:Nat):gD j W ds (n+1)=gD j W ds n++p5 j W ds n:=by unfold gD;rw [ku];simp
theorem BM (j:ca) (W:List aK) (ds:List aM) (n:Nat):(gD j W ds n).length<=n:=by
 induction n with
 |zero=>simp [gD]
 |succ n a=>
  rw [Bf,dy];unfold p5;split
  ·simp;omega
  ·simp;omega
def DB (A:a6) (w0 u:ak) (aI tb:Nat) (r:dE) (m:a0) (j:ca) (V:gl) (W:List aK) (R:cr) (v:a4) (bw:ak):Prop:=
 ∃ a2 pc,v=.tuple #[.slice a2 (gD j W R.done R.done.length).length pc,.bool R.ok]/\eF A w0 u aI tb u.heap.size r m j V R bw/\bk bw a2 (ia (gD j W R.done R.done.length)).flatten/\∀ k,aL a2 k->u.heap.size<=k
theorem KY (Xy:dg w0 u aI tb r m j V o) {b1:Nat} (XP:av u b1 q.cells er) {W:List aK} (P:fm u q.eH q.dT W) (eJ:sf W) {ds:List aM} {raw:List bT} {dB:an} {dc:Nat} (XM:bk w0 dB (fW raw).flatten) (K:g6 A w0 raw ds) (X1:ds.length<=W.length) (ok:Bool) (Xv:ax) {R:cz}
  (XF:∀ bw a2 pc,ai u bw->bk bw a2 (ia (gD j W ds ds.length)).flatten->(∀ k,aL a2 k->u.heap.size<=k)->R (.tuple #[.slice a2 (gD j W ds ds.length).length pc,.bool ok]) bw) :
  cG prog (.loop (sub (bn xj) [1,1,1,1,0,1,0,0])) (qB ⟨aI,0,none⟩ ⟨b1,0,none⟩ none 0 0 ok dB ds.length dc ds.length 0 Xv)
   (aP 2 (aZ (λenv w=>Go.bs.W prog (sub (bn xj) [1,1,1,1,1]) env (dC prog xj R) w) (dC prog xj R))) u:=by
 have XN:raw.length=ds.length:=K.1;have XU:=eJ.eB;have XC:=Xy.b8.dead;have aq:=Xy.bQ.dead;have hlen:=P.len;refine c8 mix (λk env z=>∃ (i:Nat) (a2:an) (pc:Nat) (Xv:ax),k=ds.length - i/\i<=ds.length/\env=qB ⟨aI,0,none⟩ ⟨b1,0,none⟩ a2 (gD j W ds i).length pc ok dB ds.length dc ds.length i Xv/\ai u z/\a1 z eu 9 a2 (gD j W ds i).length pc (ia (gD j W ds i)).flatten/\∀ k,aL a2 k->u.heap.size<=k) ds.length
  ⟨0,none,0,_,by omega,by omega,rfl,ao.refl _ _,a1.nil _ _ _,λk XF=>absurd XF nO⟩ ?_
 rintro k env z ⟨i,a2,pc,Xv,rfl,Yc,rfl,f,l,t⟩;rw [RO];have I:=Xy.bB f;have X3:=BM j W ds i;refine bc (λXH=>?_) (λX2=>?_)
 ·have M:i<ds.length:=by omega
  obtain ⟨d,J⟩:∃ d,raw[i]?=some d:=⟨_,bE (by omega)⟩;obtain ⟨x,XV⟩:∃ x,ds[i]?=some x:=⟨_,bE M⟩;obtain ⟨p,Z⟩:∃ p,W[i]?=some p:=⟨_,bE (by omega)⟩;have O:W.getD i hR=p:=oL Z;have XB:=K.2 i d x J XV;have L:dv ds i=eb x:=by unfold dv;rw [dq,XV];rfl
  obtain ⟨X6,Ye,Yf,Yg,Yh⟩:=eJ.ok p (b5 Z);refine eI (cells:=bT.cells) bT.len (by omega) (XM.new I.new) J rfl XN.symm λb Yd XA _=>bT.aT d ⟨XA,?_⟩
  refine ec (vs:=d.cells) rfl (bT.single _) λX' X8 X0 XR XI=>?_
  rintro XT U;have N:ai X8 XT:=by rw [U];exact cK _
  clear U;have g:=XI.new N;have XQ:=ai.aj N XR;have Q:=ai.aj (f.new g) XP;have F:=I.bB g;have B:=P.new (f.new g);refine ⟨λy=>ai XT y,ao.refl _ _,_,_,_,λy Y=>(ai.aj Y Q).cell (i:=1) rfl,?_⟩;refine jj (cells:=aK.cells) aK.len (by omega) B.rd Z rfl hlen λYa X7 Xz=>aK.aT p ⟨λy Y=>k8 (i:=0) λq v al=>by simpa using Xz y Y q v al,r.eV,λy Y=>(ai.aj Y F.aj).cell (i:=5) rfl,?_⟩
  rw [aq];refine aD (yS XT p X6 XC) ?_;rintro v Yj ⟨rfl,s⟩;have G:=F.bB s;have XS:=ai.aj s XQ;refine ⟨_,_,rfl,s,d' (λ_=>bT.aT d ⟨bO XS rfl,?_⟩) (λe=>absurd rfl e)⟩;refine aD (rb (XB.aA (ao.b9 G.new) λ_ _ e=>e)) ?_;rintro v Yk ⟨rfl,XJ⟩;have h:=s.new XJ;have c:=g.new h;have XL:=ai.aj h Q;refine ⟨_,rfl,d' (λhe=>⟨_,_,_,XL.cell (i:=1) rfl,?_⟩) (λhe=>?_)⟩
  ·have a:gD j W ds (i+1)=gD j W ds i++[p]:=by rw [Bf];unfold p5;rw [O,if_pos (by rw [L];exact he)]
   refine eI (cells:=aK.cells) aK.len (by omega) (B.new h).rd Z rfl hlen λYb Yi H _=>aK.aT p ⟨H,?_⟩
   rintro XW X9 Xw X;obtain ⟨D,C⟩:=bl Xw X;have D:av X9 XW p.cells eu:=D;clear X;obtain ⟨inf,XD,XO,S,Xx⟩:=fV (T:=eu) (z:=hR.val) (n:=9) (m:=72) (by kernel_rfl);refine rh (cells:=aK.cells) (sz:=9) aK.len aK.single Tryz.underlying37 XD XO (by rw [S];rfl) S (by decide) (by rw [Xx];decide) (a1.new (c.new C) l) (l2:=[p]) (m:=1) (fu D rfl) rfl (by omega) λap E X_ XX XY XZ=>?_
   rw [bH (x:=(i:Int)+1) (by omega) (by omega)];have XK:ai u X_:=(f.new (c.new C)).trans XY λk XH e=>by have:=t k e;omega
   have X5:=(f.new c).size;have X4:=C.size;refine ⟨ds.length - (i+1),by omega,i+1,ap,E,_,rfl,by omega,by rw [a,dy];rfl,XK,?_,λk XG=>?_⟩
   ·rw [a,dy];exact XX
   ·rcases XZ k XG with e | e
    ·exact t k e
    ·omega
  ·have a:gD j W ds (i+1)=gD j W ds i:=by rw [Bf];unfold p5;rw [O,if_neg (by rw [L];exact he),jJ]
   rw [bH (x:=(i:Int)+1) (by omega) (by omega)];exact ⟨ds.length - (i+1),by omega,i+1,a2,pc,_,rfl,by omega,by rw [a];rfl,f.new c,by rw [a];exact a1.new c l,t⟩
 ·have XE:i=ds.length:=by omega
  subst XE;rw [RZ];exact XF z a2 pc f l.rd t
end
section
def fy (j:ca) (m:a0) (W:List aK) (G:List (List aM)):cr:=bP G (W.map (qm j m))
theorem Jn (XB:dg w0 u aI tb r m j V (0,0)) (XA:eP A w0 u tb T G) (XI:ga T) {W:List aK} (J:fm u q.eH q.dT W) (XL:∀ k,aL q.eH k->k≠tb/\k≠aI) (eJ:sf W) :
  bb 248 [ptr aI,q.val] u (DB A w0 u aI tb r m j V W (fy j m W G)):=by
 refine bd Tryz.func248 ?_;rw [ptr,To];have X2:=XB.aj.lt;have X4:=XA.aj.lt;have hlen:=J.len;have X1:=eJ.eB;rintro b1 w1 XF Xv;obtain ⟨B,c⟩:=bl XF Xv;have B:av w1 b1 q.cells er:=B;clear Xv;have XT:=c.size;refine ⟨_,_,_,B.cell (i:=1) rfl,?_⟩;refine c8 mix (λk env z=>∃ (i:Nat) (a2:an) (pc:Nat) (X5:ax),k=W.length - i/\i<=W.length/\env=wY ⟨aI,0,none⟩ ⟨b1,0,none⟩ none 0 0 a2 i pc q.eH q.dT q.hv q.dT i X5/\ai w1 z/\bK w1 z a2 i pc ((W.take i).map (qm j m))) W.length
  ⟨0,none,0,_,by omega,by omega,rfl,ao.refl _ _,bK.nil _ _⟩ ?_
 rintro k env z ⟨i,a2,pc,X5,rfl,Yo,rfl,d,w⟩;rw [RN,hlen];have N:=XB.bB (c.new d);refine bc (λYf=>?_) (λYe=>?_)
 ·obtain ⟨p,XR⟩:∃ p,W[i]?=some p:=⟨_,bE (by omega)⟩;obtain ⟨Yp,Yq,Yh,Yi,Yr⟩:=eJ.ok p (b5 XR);refine eI (cells:=aK.cells) aK.len (by omega) ((J.new c).new d).rd XR rfl rfl λb Yg XH _=>aK.aT p ⟨XH,?_⟩
  refine ec (vs:=p.cells) rfl (aK.single _) λX9 Yk Yd XW XP=>?_
  rintro XY Xw;have S:ai Yk XY:=by rw [Xw];exact cK _
  clear Xw;have E:=XP.new S;have M:=N.bB E;have C:=ai.aj S XW;refine ⟨λy=>av y X9 p.cells eu/\jc r tb m j aI y,⟨C,_,_,M.aj⟩,a0.aT m ⟨λy Xy=>by obtain ⟨_,Ym,Yg,Xy⟩:=Xy;exact bO Xy rfl,p.bm,λy Xy=>Xy.1.cell (i:=0) rfl,?_⟩⟩;refine aD (rj XY Yh Yi) ?_;rintro v X6 ⟨rfl,XZ⟩;have I:ai XY X6:=by rw [XZ];exact ao.refl _ _
  clear XZ;have H:=M.bB I;have Xz:=ai.aj I C;refine ⟨_,rfl,⟨Xz,_,_,H.aj⟩,?_⟩;refine aD (va H XB.ee (p.bm * 8) 1) ?_;rintro v X7 ⟨bj,rfl,XU,s⟩;have n:=H.bB s;have D:=ai.aj s Xz;refine aG.aT bj ⟨rfl,⟨D,_,_,n.aj⟩,?_⟩;rintro Yn Yl XG Xx;have U:ai X7 Yl:=by rw [Xx];exact hy _ _
  have g:ai z X6:=E.new I;refine ⟨⟨ai.aj U D,_,_,(n.bB U).aj⟩,bK.l3 (w.new g) (d.new g) s XU (by omega) XG Xx λap L Ys Yb Q XQ=>?_⟩;obtain ⟨cp,X,_⟩:=(w.new (g.new s)).ex;have off:∀ {b:Nat} {cs:ax} {T:TypeId},T≠cF->av X7 b cs T->¬ aL a2 b:=λXA Yc XN=>by obtain ⟨X_,XJ⟩:=fT X XN;exact XJ.ne Yc (λe=>XA e.symm) rfl
  refine ⟨⟨Q.aj D (off (by decide) D),_,_,Q.aj n.aj (off (by decide) n.aj)⟩,?_⟩;rw [bH (x:=(i:Int)+1) (by omega) (by omega)];refine ⟨W.length - (i+1),by omega,i+1,ap,L,_,rfl,by omega,by rw [<-hlen];rfl,XQ,?_⟩;have e:(W.take i).map (qm j m)++[qm j m p]=(W.take (i+1)).map (qm j m):=by rw [ff,XR];simp
  rw [<-e];exact Yb
 ·have XM:i=W.length:=by omega
  subst XM;rw [h0] at w;rw [RY];have F:=c.new d;refine aD (nM N (XA.new F) XI (XB.bB c).new (by omega) (by omega) w (by rw [fZ];omega)) ?_;rintro v XX ⟨dB,dc,raw,rfl,a,XS,f,K⟩;have P:=a.aA;have a:eF A w0 u aI tb u.heap.size r m j V (fy j m W G) XX:=eF.of a F XT;have f:g6 A w0 raw (fy j m W G).done:=f;have K:(fy j m W G).ok=true->raw.length=(W.map (qm j m)).length:=K;have XK:(fy j m W G).done.length<=W.length:=by
   cases t:(fy j m W G).ok with
   |true=>rw [<-f.1,K t,fZ];omega
   |false=>
    have:(fy j m W G).done=[]:=by
     unfold fy bP cm at t ⊢;split
     ·rfl
     split
     ·rfl
     ·rename_i XC XD;rw [if_neg XC,if_neg XD] at t;cases t
    rw [this];simp
  refine ⟨_,_,_,_,rfl,?_⟩;show cG prog _ _ _ _;rw [f.1];have C:av XX b1 q.cells er:=P.aj (ai.aj d B) (by omega);have h:=(J.new c).new d;have Y:fm XX q.eH q.dT W:=⟨h.rd.aA P (hk h.rd λk XO e=>by have:=XL k XO;rcases e with e | e;exact this.1 e;exact this.2 e),h.len,h.eB,h.u64⟩;have X3:=a.aA.size;refine KY a.eD C Y eJ XS f XK _ _ (R:=DB A w0 u aI tb r m j V W (fy j m W G)) λbw a2 pc o Z O=>?_
  obtain ⟨X8,XE,XV,l⟩:=a.fY;refine ⟨a2,pc,rfl,⟨a.aA.new o,a.eD.bB o,X8,XE.new o,XV,?_⟩,Z,λk XN=>by have:=O k XN;omega⟩;cases X0:(fy j m W G).ask with
  |none=>rw [X0] at l;exact l
  |some vs=>rw [X0] at l;obtain ⟨X',Yj,XC,XD,Ya⟩:=l;exact ⟨X',Yj,XC,XD,Ya.new o⟩
end
section
theorem OI (h:∀ x ∈ L,cj x) (i:Nat):cj (L.getD i 0):=by
 rw [dq];cases a:L[i]? with
 |none=>exact hq
 |some x=>exact h x (b5 a)
theorem MQ (h:fU L lines=true) (hu:∀ x ∈ L,cj x):fH (c1 L lines).1 (c1 L lines).2 lines=0/\sf (c1 L lines).2/\∀ p ∈ (c1 L lines).2,∀ x ∈ hz p,cj x:=by
 have hw:=h;unfold fU at hw;simp only [ep,decide_eq_true_eq,beq_iff_eq] at hw;have j:c1 L lines=((L.drop 8).getD 0 0,hA (L.drop 8) ((L.drop 8).getD 1 0).toNat):=by unfold c1 ew;rw [if_pos h,if_pos hw.2]
 have c:=hw.2;unfold ek at c;split at c
 ·omega
 split at c
 ·omega
 split at c
 ·omega
 split at c
 ·omega
 rename_i _ _ _ d;have d:fH ((L.drop 8).getD 0 0) (hA (L.drop 8) ((L.drop 8).getD 1 0).toNat) lines=0:=by omega
 rw [j];have aq:∀ x ∈ L.drop 8,cj x:=λx b=>hu x (o3 b)
 obtain ⟨o,l,f,e,_⟩:=jy d;refine ⟨d,⟨l.2.2.2,λp a=>⟨(e p a).1,(e p a).2,(f p a).1,by have:=(f p a).2;omega,El aq _ p a⟩⟩,λp a x b=>?_⟩;obtain ⟨i,_,rfl⟩:=cZ.1 a;have k:∀ y ∈ ((L.drop 8).drop (2+9 * i)).take 9,cj y:=λy n=>aq y (o3 (tq n))
 have g:=OI k;have b:x ∈ [(((L.drop 8).drop (2+9 * i)).take 9).getD 2 0,(((L.drop 8).drop (2+9 * i)).take 9).getD 3 0,(((L.drop 8).drop (2+9 * i)).take 9).getD 4 0,(((L.drop 8).drop (2+9 * i)).take 9).getD 5 0,(((L.drop 8).drop (2+9 * i)).take 9).getD 6 0,(((L.drop 8).drop (2+9 * i)).take 9).getD 7 0,(((L.drop 8).drop (2+9 * i)).take 9).getD 8 0]:=b;simp only [eU,lD,or_false] at b;rcases b with rfl | rfl | rfl | rfl | rfl | rfl | rfl<;>exact g _
theorem bK.three {bG h bq r:ak} {v1 v2 g:aG} {s t y:aQ} {b:Nat} (l:ai u bG) (n:cL (λk=>k<u.heap.size) bG v1 s) (f:ai bG h) (p:cL (λk=>k<bG.heap.size) h v2 t) (c:ai h bq) (q:cL (λk=>k<h.heap.size) bq g y) (C:b=bq.heap.size) (au:av r b (v1.cells++v2.cells++g.cells) cF) (j:ai bq r):bK u r (some ⟨b,0,none⟩) 3 3 [s,t,y]:=by
 have z:=l.size;have A:=f.size;have B:=c.size;have a:∀ k,aL (some ⟨b,0,none⟩) k->k=b:=λk i=>by obtain ⟨o,x⟩:=i;simp at x;exact x.1.symm
 have w:(v1.cells++v2.cells++g.cells).length=27:=by rw [dy,dy,aG.len,aG.len,aG.len]
 refine ⟨⟨[v1,v2,g],⟨by simp [dP];rfl,.inr ⟨b,v1.cells++v2.cells++g.cells,rfl,au,cY 3,by decide,w,?_⟩⟩,et.app (r1:=[v1]) (v1:=[s]) (et.one ?_) (et.app (r1:=[v2]) (v1:=[t]) (et.one ?_) (et.one ?_))⟩,rfl,λk i=>by rw [a k i];omega⟩
 ·rw [h1 (by rw [w];decide)];simp [dP]
 ·exact n.aA (ao.b9 ((f.new c).new j)) λk d e=>by
   rcases e with e | e
   ·exact e
   ·have:=a k e;omega
 ·exact p.aA (ao.b9 (c.new j)) λk d e=>by
   rcases e with e | e
   ·omega
   ·have:=a k e;omega
 ·exact q.aA (ao.b9 j) λk d e=>by
   rcases e with e | e
   ·omega
   ·have:=a k e;omega
end
end Go.Proofs.YtmkljjbioomepaaGreat
