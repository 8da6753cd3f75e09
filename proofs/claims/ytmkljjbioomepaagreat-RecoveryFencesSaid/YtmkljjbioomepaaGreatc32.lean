import Derived.Test.YtmkljjbioomepaaGreatc31
import Derived.Test.YtmkljjbioomepaaGreatProg
import Derived.Test.YtmkljjbioomepaaGreatc03
set_option linter.all false
set_option maxHeartbeats 4000000
set_option maxRecDepth 100000
namespace Go.Proofs.YtmkljjbioomepaaGreat
open Go.Proofs.Tryz Go.br
variable {A:a5} {G:List (List aL)} {L:bb} {T:gg} {V:fZ} {j:b2} {lines:Int} {m:aZ} {o:Int×Int} {q:bX} {r:dr} {aH tb:Nat} {u w0:ak}
section
theorem Bz (h:fJ L lines=true):1<=(cT L lines).1/\(cT L lines).1<1073741824:=by
 have hw:=h;unfold fJ at hw;simp only [eY,decide_eq_true_eq,beq_iff_eq] at hw;unfold cT et;rw [if_pos h,if_pos hw.2];have a:=hw.2;unfold ef at a;split at a
 ·omega
 split at a
 ·omega
 split at a
 ·omega
 split at a
 ·omega
 rename_i _ _ _ b;have b:fr ((L.drop 8).getD 0 0) (hn (L.drop 8) ((L.drop 8).getD 1 0).toNat) lines=0:=by omega
 obtain ⟨_,c,_⟩:=ji b;exact ⟨c.1,c.2.1⟩
theorem NF (x:Int):0<=(h3 x).1/\(h3 x).1<1073741824:=by
 unfold h3;split
 ·rename_i h;exact ⟨by show 0<=db .u64 x 2;omega,h.2.1⟩
 ·exact ⟨by decide,by decide⟩
def mu (a b:Int):Int:=if a<b then b else a
def hD (lines g:Int) (L:bb):Int:=
 let a:=if (h3 (L.getD 0 0)).2=true then mu g (h3 (L.getD 0 0)).1 else g
 if fJ L lines=true then mu a (cT L lines).1 else a
def iP (clock:Int):Int:=if 1073741823<clock then 1073741823 else clock
def jA (lines clock:Int) (aT:List bb):Int:=aT.foldl (hD lines) (iP clock)+1
theorem DZ {a b:Int} (c:0<=a/\a<1073741824) (d:0<=b/\b<1073741824):0<=mu a b/\mu a b<1073741824:=by unfold mu;split<;>omega
theorem JQ {g:Int} (h:0<=g/\g<1073741824):0<=hD lines g L/\hD lines g L<1073741824:=by
 unfold hD;have a:0<=(if (h3 (L.getD 0 0)).2=true then mu g (h3 (L.getD 0 0)).1 else g)/\(if (h3 (L.getD 0 0)).2=true then mu g (h3 (L.getD 0 0)).1 else g)<1073741824:=by
  split
  ·exact DZ h (NF _)
  ·exact h
 simp only;split
 ·rename_i hw;have:=Bz hw;exact DZ a ⟨by omega,this.2⟩
 ·exact a
theorem Jz (G:df w0 u aH tb r m j V o) {aT:List bb} (Vx:kM w0 u aH tb V aT) (Z:aT.length<=100) (P:∀ L ∈ aT,L.length=120) (K:b8 V.clock) :
  a_ 184 [ptr aH] u λv bq=>v=.int .i64 (jA j.lines V.clock aT)/\ai u bq:=by
 refine bc Tryz.func184 ?_;rw [ptr,QD];obtain ⟨⟨W,R,Q,Vz,E⟩,Vr⟩:=Vx;have f:=G.bN.lines;have e:0<=iP V.clock/\iP V.clock<1073741824:=by have:=K.1;unfold iP;split<;>omega
 refine ⟨_,G.aj.cell (i:=14) rfl,_,_,_,G.aj.cell (i:=13) rfl,?_⟩;rw [show IntKind.i64.wrap (if (1073741823:Int)<V.clock then (1073741823:Int) else V.clock)=iP V.clock from bC (by unfold iP at e;omega) (by unfold iP at e;omega)];refine c2 mix (λq env z=>∃ (i:Nat) (A:ax),q=aT.length - i/\i<=aT.length/\env=oa ⟨aH,0,none⟩ ((aT.take i).foldl (hD j.lines) (iP V.clock)) V.fm V.jU V.lc V.jU i A/\ai u z/\0<=(aT.take i).foldl (hD j.lines) (iP V.clock)/\(aT.take i).foldl (hD j.lines) (iP V.clock)<1073741824) aT.length
  ⟨0,_,by omega,by omega,rfl,ao.refl _ _,e.1,e.2⟩ ?_
 rintro q env z ⟨i,A,rfl,VB,rfl,h,p⟩;rw [PM];have B:=G.bx h;refine a' (λVy=>?_) (λVw=>?_)
 ·have F:i<aT.length:=by omega
  obtain ⟨s,Vu⟩:∃ s,W[i]?=some s:=⟨_,bF (by omega)⟩;obtain ⟨L,I⟩:∃ L,aT[i]?=some L:=⟨_,bF F⟩;have D:=E i s L Vu I;have w:=D.new B.new;have Y:=P L (cg I);have k:(aT.take (i+1)).foldl (hD j.lines) (iP V.clock)=hD j.lines ((aT.take i).foldl (hD j.lines) (iP V.clock)) L:=by rw [e7,I,x'];rfl
  generalize (aT.take i).foldl (hD j.lines) (iP V.clock)=g at p k;have more:∀ {t:Int} {X:ak} (A:ax),t=hD j.lines g L->ai u X->∃ bY,bY<aT.length - i/\∃ (y:Nat) (U:ax),bY=aT.length - y/\y<=aT.length/\oa ⟨aH,0,none⟩ t V.fm V.jU V.lc V.jU (IntKind.i64.wrap (i+1)) A=oa ⟨aH,0,none⟩ ((aT.take y).foldl (hD j.lines) (iP V.clock)) V.fm V.jU V.lc V.jU y U/\ai u X/\0<=(aT.take y).foldl (hD j.lines) (iP V.clock)/\(aT.take y).foldl (hD j.lines) (iP V.clock)<1073741824:=by intro t X A VA H;rw [bC (x:=(i:Int)+1) (by omega) (by omega)];have C:=JQ (lines:=j.lines) (L:=L) p;exact ⟨aT.length - (i+1),by omega,i+1,A,rfl,by omega,by rw [VA,k];rfl,H,by rw [k];exact C.1,by rw [k];exact C.2⟩
  refine eo (cells:=mv) (sz:=1) (λ_=>rfl) (by decide) (R.new h) Vu rfl Q λb' VC _ J=>⟨s.a,s.n,s.c,J 0 _ rfl,?_⟩
  refine nL w.rd (i:=0) (by omega) w.len rfl λaI VD hw=>⟨_,hw _ (ao.refl _ _),?_⟩
  have S:b8 (L.getD 0 0):=by
   cases L with
   |nil=>exact hd
   |cons a l=>exact D.u64 a (by simp)
  refine aC (HW z S) ?_;rintro v VE ⟨rfl,rfl⟩;refine ⟨_,_,rfl,fS (λb=>?_) (λb=>?_)⟩
  all_goals
   refine ⟨r.fF,B.aj.cell (i:=2) rfl,?_⟩;rw [f];refine aC (vh j.lines w) ?_;rintro v VF ⟨pb,aY,rfl,N,Vt,Vs⟩;refine bX.aS ⟨(cT L j.lines).1,pb,(cT L j.lines).2.length,aY⟩ ⟨_,rfl,?_⟩;refine ea (vs:=bX.cells ⟨(cT L j.lines).1,pb,(cT L j.lines).2.length,aY⟩) rfl (bX.single _) λaA VG Vv T O=>?_
   have H:=h.new (N.new O);refine fS (λd=>⟨_,T.cell (i:=0) rfl,more _ ?_ H⟩) (λd=>more _ ?_ H)
  ·unfold hD;simp only [b,d,if_true];rfl
  ·unfold hD;simp only [b,d,if_true];rfl
  ·unfold hD;simp only [b,d,if_true];rfl
  ·unfold hD;simp only [b,d];rfl
 ·have M:i=aT.length:=by omega
  subst M;rw [hv] at p ⊢;rw [PY];rw [bC (by omega) (by omega)];exact ⟨rfl,h⟩
end
section
open IntKind
variable (w:ak) (R:cA) {a b c d e f:Nat} {A B:aU} {s t u:al} {i k l m:Int} {j:aq}
def tM (e:aU) (l:al) (a b:Nat) (n s8:Int) (o:al) (c d:Nat) (f:al) (g h:Nat) (i k:Int) (j:aq):aq:=.pointer (some e)::ag j 0 4 (ae l a b::ag j 4 1 (ab n::ah s8::ae o c d::ag j 5 31 (ae f g h::ab i::ab k::ag j 36 51 [])))
def zD (a:aU) (e:al) (b c:Nat) (g s8:Int) (h:al) (d f:Nat) (j:aq):aq:=.pointer (some a)::ag j 0 4 (ae e b c::ag j 4 1 (ab g::ah s8::ae h d f::ag j 5 85 []))
theorem Q' (p:bX):bf prog f227 [a9 a,p.val] R w=(aR w p.cells.toArray 271 λj u=>hK u (af j 0) λr=>du 247 #[a9 a,r.val] u λe q=>cond (!e) (R (ad false) q) (hK q (af j 0) λv=>jq 248 #[a9 a,v.val] q λb c d f o=>cond (!f) (R (ad false) o) (cond ((c:Int) == 0) (R (ad true) o) (cq o λx t=>cL t (af a 5) λg=>cL t (af j 0) λh=>cm 225 #[ab g] x λi s=>t s/\lP s (af a 3) λn=>eg 216 #[n.val] s λk l m y=>cu prog (c0 f227 [1,1,1,1,1,1,1,0,1,0,0]) (tM (af a 0) b c d i (u64.wrap h) none 0 0 k l m (l:Nat) 0 (p.val::undef::jp (af j 0)::ad false::ad f::bd 2 (jp (af a 0)::r.val::ad e::ad (!e)::.tuple #[ae b c d,ad f]::jp (af a 0)::v.val::.tuple #[ae b c d,ad f]::ae b c d::ad f::ad f::ad (!f)::ae b c d::c9 c::ad ((c:Int) == 0)::jp (af a 0)::jp (af a 0)::jp (af a 0)::jp (af a 5)::ab g::ab i::jp (af j 0)::ab h::ah (u64.wrap h)::jp (af a 0)::jp (af a 0)::jp (af a 0)::jp (af a 3)::n.val::bd 51 []))) (aO 0 (aQ f227 [1,1,1,1,1,1,1,1] R)) y)))):=by kernel_rfl
theorem PJ (E:aq->aE):W prog (sb f227 [1,1,1,1,1,1,1,0,1,0,0]) (tM A s a b i k t c d u e f l m j) (aV E (aO 0 (aQ f227 [1,1,1,1,1,1,1,1] R))) w=(cond (m<l) (bk u e m 3 λH=>ig w H λr=>aR w #[ab 0,ab 0,ad false] 116 λB L=>a8 L (af B 0) 0 r.cells λG=>ig G (af B 0) λa1=>eg 249 #[.pointer (some A),a1.val,ae s a b] G λx z n K=>c6 125 (ae t c d) (ae x z n) K λy o p C=>ig C (af B 0) λaW=>aR C #[ah k] 30 λF M=>eL 250 #[.pointer (some A),aW.val,ab i,ae (bm F) 1 1] M λv N=>aR N v.cells.toArray 158 λD O=>c6 125 (ae y o p) (ae (bm D) 1 1) O λq g h P=>E (tM A s a b i k q g h u e f l (i64.wrap (m+1)) (ag j 0 6 (jp (af B 0)::ag j 7 29 (ad (m<l)::jp H::r.val::ae t c d::jp A::a1.val::ae s a b::ae x z n::ae y o p::ae y o p::jp A::aW.val::ab i::ah k::ae (bm F) 1 1::v.val::ae (bm D) 1 1::ae q g h::ab (i64.wrap (m+1))::ag j 55 32 [])))) P) (W prog (sb f227 [1,1,1,1,1,1,1,1]) (zD A s a b i k t c d (ag j 0 36 (ae u e f::ab l::ab m::ad (m<l)::ag j 37 50 []))) (b0 f227 R) w)):=by kernel_rfl
theorem Qw:W prog (sb f227 [1,1,1,1,1,1,1,1]) (zD A s a b i k t c d j) (b0 f227 R) w=(jq 221 #[.pointer (some A),ae t c d] w λg h B D F=>cond (!D) (R (ad false) F) (cq F λI u=>hb u (bM A 9) λX=>hb u (bM A 9) λN=>aR I #[ah k] 30 λZ K=>u K/\eL 250 #[.pointer (some A),X.val,ab i,ae (bm Z) 1 1] K λa1 E=>u E/\(aR E a1.cells.toArray 158 λJ G=>u G/\eg 249 #[.pointer (some A),N.val,ae s a b] G λl m n H=>u H/\c6 125 (ae (bm J) 1 1) (ae l m n) H λV o p aW=>u aW/\jq 221 #[.pointer (some A),ae V o p] aW λq r e f P=>u P/\R (ad f) P)/\eg 249 #[.pointer (some A),N.val,ae s a b] E λv x y L=>u L/\aR L a1.cells.toArray 158 λS O=>u O/\c6 125 (ae (bm S) 1 1) (ae v x y) O λz Y T M=>u M/\jq 221 #[.pointer (some A),ae z Y T] M λU Vr Vs Q C=>u C/\R (ad Q) C)):=by kernel_rfl
def tR (e:aU) (i:al) (a b:Nat) (c:al) (d f:Nat) (g h:Int) (j:aq):aq:=.pointer (some e)::ag j 0 4 (ae i a b::ag j 4 7 (ae c d f::ab g::ab h::ag j 11 38 []))
def E5 (a:aU) (d:al) (b c:Nat) (j:aq):aq:=.pointer (some a)::ag j 0 4 (ae d b c::ag j 4 48 [])
theorem Rx (f:bX):bf prog f229 [a9 a,f.val] R w=(aR w f.cells.toArray 271 λe g=>b4 g (af e 1) λd b c=>cu prog (c0 f229 [1,1,0,1,0,0]) (tR (af a 0) none 0 0 d b c (b:Nat) 0 (f.val::undef::jp (af e 0)::ad false::bd 6 (jp (af e 1)::bd 38 []))) (aO 0 (aQ f229 [1,1,1] R)) g):=by kernel_rfl
theorem PZ (z:aq->aE):W prog (sb f229 [1,1,0,1,0,0]) (tR A s a b t c d i k j) (aV z (aO 0 (aQ f229 [1,1,1] R))) w=(cond (k<i) (bk t c k 9 λB=>ht w B λr=>aR w #[ab 0,ah 0,ah 0,ah 0,ah 0,ah 0,ah 0,ah 0,ah 0] 73 λv K=>a8 K (af v 0) 0 r.cells λL=>cq L λa1 u=>uu u (af v 0) λC=>cL u (bM A 5) λf=>hs 211 #[C.val,ab f] a1 λh l E=>cond (l == 0) (cq E λM x=>hb x (bM A 9) λe=>cL x (af v 0) λm=>jF x (af v 1) λn=>cm 108 #[ab m] M λo G=>x G/\eL 223 #[.pointer (some A),e.val,ab o,ah h,ah n] G λg H=>x H/\aR H g.cells.toArray 158 λF aW=>x aW/\c6 125 (ae s a b) (ae (bm F) 1 1) aW λy p q D=>x D/\z (tR A y p q t c d i (i64.wrap (k+1)) (ag j 0 5 (jp (af v 0)::ah h::ab l::aF j 8::aF j 9::aF j 10::ad (k<i)::jp B::r.val::.tuple #[ah h,ab l]::C.val::jp A::jp A::jp A::bI A 5::ab f::.tuple #[ah h,ab l]::ah h::ab l::ab l::ad ((l:Int) == 0)::ae s a b::jp A::jp A::jp A::bI A 9::e.val::jp (af v 0)::ab m::ab o::ah h::jp (af v 1)::ah n::g.val::ae (bm F) 1 1::ae y p q::ab (i64.wrap (k+1))::ag j 42 7 []))) D) (z (tR A s a b t c d i (i64.wrap (k+1)) (ag j 0 5 (jp (af v 0)::ah h::ab l::aF j 8::aF j 9::aF j 10::ad (k<i)::jp B::r.val::.tuple #[ah h,ab l]::C.val::jp A::jp A::jp A::bI A 5::ab f::.tuple #[ah h,ab l]::ah h::ab l::ab l::ad ((l:Int) == 0)::ag j 26 15 (ab (i64.wrap (k+1))::ag j 42 7 [])))) E)) (W prog (sb f229 [1,1,1]) (E5 A s a b (ag j 0 11 (ae t c d::ab i::ab k::ad (k<i)::ag j 12 37 []))) (b0 f229 R) w)):=by kernel_rfl
theorem Q3:W prog (sb f229 [1,1,1]) (E5 A s a b j) (b0 f229 R) w=(jq 221 #[.pointer (some A),ae s a b] w λd f g h c=>R (ad h) c):=by kernel_rfl
def wm (e i:aU) (k:al) (a b:Nat) (c:al) (d f:Nat) (g h:Int) (j:aq):aq:=.pointer (some e)::ag j 0 3 (.pointer (some i)::ag j 3 2 (ae k a b::ag j 5 4 (ae c d f::ab g::ab h::ag j 9 20 [])))
def E4 (c:al) (a b:Nat) (j:aq):aq:=ag j 0 7 (ae c a b::ag j 7 27 [])
theorem RF (d:aZ):bf prog f249 [a9 a,d.val,ae s b c] R w=(aR w d.cells.toArray 116 λf e=>cu prog (c0 f249 [1,1,0,1,0,0]) (wm (af a 0) (af f 0) none 0 0 s b c (b:Nat) 0 (d.val::ae s b c::bd 2 (a6::bd 24 []))) (aO 0 (aQ f249 [1,1,1] R)) e):=by kernel_rfl
theorem P_ (x:aq->aE):W prog (sb f249 [1,1,0,1,0,0]) (wm A B s a b t c d i k j) (aV x (aO 0 (aQ f249 [1,1,1] R))) w=(cond (k<i) (bk t c k 9 λC=>ht w C λr=>aR w #[ab 0,ah 0,ah 0,ah 0,ah 0,ah 0,ah 0,ah 0,ah 0] 73 λu L=>a8 L (af u 0) 0 r.cells λz=>ht z (af u 0) λH=>si 244 #[H.val] z λf g l m a1=>cq a1 λK h=>hb h B λG=>cL h (af u 0) λn=>cm 108 #[ab n] K λo D=>h D/\eL 250 #[.pointer (some A),G.val,ab o,ae f g l] D λe E=>h E/\aR E e.cells.toArray 158 λy F=>h F/\c6 125 (ae s a b) (ae (bm y) 1 1) F λv p q aW=>h aW/\x (wm A B v p q t c d i (i64.wrap (k+1)) (ag j 0 6 [jp (af u 0),ae f g l,ab m,ad (k<i),jp C,r.val,.tuple #[ae f g l,ab m],H.val,.tuple #[ae f g l,ab m],ae f g l,ab m,ae s a b,jp A,G.val,jp (af u 0),ab n,ab o,ae f g l,e.val,ae (bm y) 1 1,ae v p q,ab (i64.wrap (k+1)),aF j 28])) aW) (W prog (sb f249 [1,1,1]) (E4 s a b (jp A::aF j 0::aF j 1::aF j 2::jp B::ag j 3 6 (ae t c d::ab i::ab k::ad (k<i)::ag j 10 19 []))) (b0 f249 R) w)):=by kernel_rfl
theorem Qo:W prog (sb f249 [1,1,1]) (E4 s a b j) (b0 f249 R) w=(R (ae s a b) w):=by kernel_rfl
end
section
def uP (j:b2) (m:aZ) (p:aJ):aP:=rG j m (p.bn * 8) (eJ p.Head j.dead) p.Head
def H1 (j:b2) (m:aZ) (W:List aJ) (G:List (List aL)):cn:=bL G (W.map (uP j m))
structure rO (W:List aJ):Prop where
 eA:W.length<=12
 ok:∀ p ∈ W,lS p.Head=true/\kr p.Head=true/\96<=p.bn/\p.bn<256/\b8 p.Head
theorem NG (D:df w0 u aH tb r m j V (0,0)) (Y:eO A w0 u tb T G) (Vu:fT T) {W:List aJ} (N:i0 u q.ei q.dI W) (eT:rO W) :
  a_ 229 [ptr aH,q.val] u (k5 A w0 u aH tb r m j V (H1 j m W G)):=by
 refine bc Tryz.func229 ?_;rw [ptr,Rx];have VJ:=D.aj.lt;have VK:=Y.aj.lt;have Vw:=D.cj.dead;have ar:=D.bN.dead;have hlen:=N.len;have VI:=eT.eA;rintro b1 w1 Z O;obtain ⟨C,a⟩:=bl Z O;have C:av w1 b1 q.cells ek:=C;clear O;have VB:=a.size;refine ⟨_,_,_,C.cell (i:=1) rfl,?_⟩;refine c2 mix (λk env z=>∃ (i:Nat) (pa:al) (pc:Nat) (VL:ax),k=W.length - i/\i<=W.length/\env=tR ⟨aH,0,none⟩ pa i pc q.ei q.dI q.gq q.dI i VL/\ai w1 z/\bH w1 z pa i pc ((W.take i).map (uP j m))) W.length
  ⟨0,none,0,_,by omega,by omega,rfl,ao.refl _ _,bH.nil _ _⟩ ?_
 rintro k env z ⟨i,pa,pc,VL,rfl,V6,rfl,d,l⟩;rw [PZ,hlen];have I:=D.bx (a.new d);refine a' (λVV=>?_) (λVT=>?_)
 ·obtain ⟨p,Vz⟩:∃ p,W[i]?=some p:=⟨_,bF (by omega)⟩;obtain ⟨VX,V7,VY,VZ,V0⟩:=eT.ok p (cg Vz);refine eo (cells:=aJ.cells) aJ.len (by omega) ((N.new a).new d).rd Vz rfl rfl λb VW Vt _=>aJ.aS p ⟨Vt,?_⟩
  refine ea (vs:=p.cells) rfl (aJ.single _) λVO V1 VS VD K=>?_
  rintro VF P;have s:ai V1 VF:=by rw [P];exact cD _
  clear P;have F:=I.bx (K.new s);have S:=ai.aj s VD;refine ⟨λy=>ai VF y,ao.refl _ _,aJ.aS p ⟨λy f=>bK (ai.aj f S) rfl,r.ew,λy f=>(ai.aj f F.aj).cell (i:=5) rfl,?_⟩⟩;rw [ar];refine aC (yi VF p VX Vw) ?_;rintro v V2 ⟨rfl,t⟩;have Vs:=F.bx t;have VE:=ai.aj t S;refine ⟨_,_,rfl,dJ (λ_=>?_) (λe=>absurd rfl e)⟩;rintro VG Q;have w:ai V2 VG:=by rw [Q];exact cD _
  clear Q;have H:=Vs.bx w;have U:=ai.aj w VE;refine ⟨λy=>av y VO p.cells ep/\iL r tb m j aH y,⟨U,_,_,H.aj⟩,aZ.aS m ⟨λy f=>by obtain ⟨_,V4,VW,f⟩:=f;exact bK f rfl,p.bn,λy f=>f.1.cell (i:=0) rfl,p.Head,λy f=>f.1.cell (i:=1) rfl,?_⟩⟩;refine aC (q4 VG VY VZ) ?_;rintro v VM ⟨rfl,VH⟩;have B:ai VG VM:=by rw [VH];exact ao.refl _ _
  clear VH;have o:=H.bx B;have X:=ai.aj B U;refine ⟨_,rfl,⟨X,_,_,o.aj⟩,?_⟩;refine aC (vi o D.ee (p.bn * 8) (Dk p.Head j.dead) V0) ?_;rintro v VN ⟨bj,rfl,VC,h⟩;have g:=o.bx h;have n:=ai.aj h X;refine aG.aS bj ⟨rfl,⟨n,_,_,g.aj⟩,?_⟩;rintro V5 V3 Vr R;have L:ai VN V3:=by rw [R];exact hk _ _
  have c:ai z VM:=(((K.new s).new t).new w).new B;refine ⟨⟨ai.aj L n,_,_,(g.bx L).aj⟩,bH.lN (l.new c) (d.new c) h VC (by omega) Vr R λap E V9 VQ J Vy=>?_⟩;obtain ⟨cf,M,_⟩:=(l.new (c.new h)).ex;have off:∀ {b:Nat} {cs:ax} {T:TypeId},T≠cy->av VN b cs T->¬ aK pa b:=λY VR VU=>by obtain ⟨VP,Vv⟩:=fI M VU;exact Vv.ne VR (λe=>Y e.symm) rfl
  refine ⟨⟨J.aj n (off (by decide) n),_,_,J.aj g.aj (off (by decide) g.aj)⟩,?_⟩;rw [bC (x:=(i:Int)+1) (by omega) (by omega)];refine ⟨W.length - (i+1),by omega,i+1,ap,E,_,rfl,by omega,by rw [<-hlen];rfl,Vy,?_⟩;have e:(W.take i).map (uP j m)++[uP j m p]=(W.take (i+1)).map (uP j m):=by rw [e7,Vz];simp
  rw [<-e];exact VQ
 ·have Vx:i=W.length:=by omega
  subst Vx;rw [hv] at l;rw [Q3];refine aC (np I (Y.new (a.new d)) Vu (D.bx a).new (by omega) (by omega) l (by rw [fC];omega)) ?_;rintro v V8 ⟨dA,dc,raw,rfl,VA,_⟩;exact ⟨_,_,_,_,rfl,rfl,VA.of (a.new d) VB⟩
end
section
def nq (j:b2) (bg:aZ) (p:aJ):aP:=lI j bg (p.bn * 8) (ir p)
theorem BA (VR:df w0 u aH tb r m j V o) {bg:aZ} (Vz:ec bg.ck) {a:al} {n c:Nat} {W:List aJ} (L:i0 u a n W) (eT:rO W) (F:∀ p ∈ W,∀ x ∈ hz p,b8 x) :
  a_ 249 [ptr aH,bg.val,.slice a n c] u λv bq=>∃ pa pc,v=.slice pa W.length pc/\ai u bq/\bH u bq pa W.length pc (W.map (nq j bg)):=by
 refine bc Tryz.func249 ?_;rw [ptr,RF];have hlen:=L.len;have VI:=eT.eA;rintro b1 w1 Vr M;obtain ⟨D,H⟩:=bl Vr M;have D:av w1 b1 bg.cells eH:=D;clear M;have VV:=H.size;refine c2 mix (λk env z=>∃ (i:Nat) (pa:al) (pc:Nat) (VJ:ax),k=W.length - i/\i<=W.length/\env=wm ⟨aH,0,none⟩ ⟨b1,0,none⟩ pa i pc a n c n i VJ/\ai u z/\av z b1 bg.cells eH/\bH u z pa i pc ((W.take i).map (nq j bg))) W.length
  ⟨0,none,0,_,by omega,by omega,rfl,H,D,bH.nil _ _⟩ ?_
 rintro k env z ⟨i,pa,pc,VJ,rfl,V4,rfl,q,R,s⟩;rw [P_,hlen];have Vx:=VR.bx q;refine a' (λVU=>?_) (λVS=>?_)
 ·obtain ⟨p,Z⟩:∃ p,W[i]?=some p:=⟨_,bF (by omega)⟩;obtain ⟨V6,VW,VX,VY,VZ⟩:=eT.ok p (cg Z);refine eo (cells:=aJ.cells) aJ.len (by omega) (L.new q).rd Z rfl rfl λb V5 Vv _=>aJ.aS p ⟨Vv,?_⟩
  refine ea (vs:=p.cells) rfl (aJ.single _) λVL V0 VQ S VB=>aJ.aS p ⟨bK S rfl,?_⟩
  refine aC (BR V0 p VZ VW) ?_;rintro v V1 ⟨de,eN,rfl,VA,P,_⟩;refine ⟨_,_,_,_,rfl,?_⟩;rintro VF N;have I:ai V1 VF:=by rw [N];exact cD _
  clear N;have w:=VA.new I;have g:=VB.new w;have Vt:=Vx.bx g;have U:=ai.aj w S;have A:=ai.aj g R;refine ⟨λy=>av y VL p.cells ep/\av y b1 bg.cells eH,⟨U,A⟩,aZ.aS bg ⟨λy VE=>bK VE.2 rfl,p.bn,λy VE=>VE.1.cell (i:=0) rfl,?_⟩⟩;refine aC (q4 VF VX VY) ?_;rintro v VG ⟨rfl,VH⟩;have h:ai VF VG:=by rw [VH];exact ao.refl _ _
  clear VH;have Vu:=Vt.bx h;have X:=ai.aj h U;have B:=ai.aj h A;refine ⟨_,rfl,⟨X,B⟩,?_⟩;have Q:bh VG de (us (ir p)):=(a2.new (I.new h) P).rd;refine aC (xG Vu Vz (p.bn * 8) Q rfl (a2.le P) (λe=>?_) (DR (F p (cg Z))) (by show 8<=1000000;omega)) ?_
  ·rcases Q with Y | ⟨di,V7,Y,_⟩
   ·have:=congrArg List.length Y;rw [hC,p4] at this;exact fB this
   ·rw [e] at Y;cases Y
  rintro v VK ⟨bj,rfl,VD,l⟩;have t:=ai.aj l X;have d:=ai.aj l B;refine aG.aS bj ⟨rfl,⟨t,d⟩,?_⟩;rintro V3 V2 Vs O;have J:ai VK V2:=by rw [O];exact hk _ _
  have f:ai z VG:=g.new h;refine ⟨⟨ai.aj J t,ai.aj J d⟩,bH.lN (s.new f) (q.new f) l VD (by omega) Vs O λap E V8 VN G VC=>?_⟩;obtain ⟨cf,K,_⟩:=(s.new (f.new l)).ex;have off:∀ {b:Nat} {cs:ax} {T:TypeId},T≠cy->av VK b cs T->¬ aK pa b:=λVO VP VT=>by obtain ⟨VM,Vw⟩:=fI K VT;exact Vw.ne VP (λe=>VO e.symm) rfl
  have C:=G.aj d (off (by decide) d);refine ⟨⟨G.aj t (off (by decide) t),C⟩,?_⟩;rw [bC (x:=(i:Int)+1) (by omega) (by omega)];refine ⟨W.length - (i+1),by omega,i+1,ap,E,_,rfl,by omega,by rw [<-hlen];rfl,VC,C,?_⟩;have e:(W.take i).map (nq j bg)++[nq j bg p]=(W.take (i+1)).map (nq j bg):=by rw [e7,Z];simp
  rw [<-e];exact VN
 ·have Vy:i=W.length:=by omega
  subst Vy;rw [hv] at s;rw [Qo];exact ⟨pa,pc,rfl,q,s⟩
end
section
noncomputable abbrev wH:Func:=f248
def p7 (j:b2) (m:aZ) (p:aJ):aP:=mD j m (p.bn * 8) 1
def pX (j:b2) (W:List aJ) (ds:List aL) (i:Nat):List aJ:=if dx ds i=eJ (W.getD i hE).Head j.dead then [W.getD i hE] else []
def gj (j:b2) (W:List aJ) (ds:List aL) (n:Nat):List aJ:=((List.range n).map (pX j W ds)).flatten
theorem Aq (j:b2) (W:List aJ) (ds:List aL) (n:Nat):gj j W ds (n+1)=gj j W ds n++pX j W ds n:=by unfold gj;rw [j9];simp
theorem AL (j:b2) (W:List aJ) (ds:List aL) (n:Nat):(gj j W ds n).length<=n:=by
 induction n with
 |zero=>simp [gj]
 |succ n a=>
  rw [Aq,dH];unfold pX;split
  ·simp;omega
  ·simp;omega
def Cs (A:a5) (w0 u:ak) (aH tb:Nat) (r:dr) (m:aZ) (j:b2) (V:fZ) (W:List aJ) (R:cn) (v:a4) (bq:ak):Prop:=
 ∃ pa pc,v=.tuple #[.slice pa (gj j W R.done R.done.length).length pc,.bool R.ok]/\eG A w0 u aH tb u.heap.size r m j V R bq/\bh bq pa (hV (gj j W R.done R.done.length)).flatten/\∀ k,aK pa k->u.heap.size<=k
theorem JA (Vu:df w0 u aH tb r m j V o) {b1:Nat} (VL:av u b1 q.cells ek) {W:List aJ} (P:i0 u q.ei q.dI W) (eT:rO W) {ds:List aL} {raw:List bR} {dA:al} {dc:Nat} (VI:bh w0 dA (fM raw).flatten) (K:gS A w0 raw ds) (VX:ds.length<=W.length) (ok:Bool) (Vr:ax) {R:cA}
  (VB:∀ bq pa pc,ai u bq->bh bq pa (hV (gj j W ds ds.length)).flatten->(∀ k,aK pa k->u.heap.size<=k)->R (.tuple #[.slice pa (gj j W ds ds.length).length pc,.bool ok]) bq) :
  cu prog (.loop (sub (bo wH) [1,1,1,1,0,1,0,0])) (qs ⟨aH,0,none⟩ ⟨b1,0,none⟩ none 0 0 ok dA ds.length dc ds.length 0 Vr)
   (aO 2 (aV (λenv w=>Go.br.W prog (sub (bo wH) [1,1,1,1,1]) env (dB prog wH R) w) (dB prog wH R))) u:=by
 have VJ:raw.length=ds.length:=K.1;have VQ:=eT.eA;have Vy:=Vu.cj.dead;have ar:=Vu.bN.dead;have hlen:=P.len;refine c2 mix (λk env z=>∃ (i:Nat) (pa:al) (pc:Nat) (Vr:ax),k=ds.length - i/\i<=ds.length/\env=qs ⟨aH,0,none⟩ ⟨b1,0,none⟩ pa (gj j W ds i).length pc ok dA ds.length dc ds.length i Vr/\ai u z/\a2 z ep 9 pa (gj j W ds i).length pc (hV (gj j W ds i)).flatten/\∀ k,aK pa k->u.heap.size<=k) ds.length
  ⟨0,none,0,_,by omega,by omega,rfl,ao.refl _ _,a2.nil _ _ _,λk VB=>absurd VB nr⟩ ?_
 rintro k env z ⟨i,pa,pc,Vr,rfl,V9,rfl,f,l,t⟩;rw [PL];have I:=Vu.bx f;have VZ:=AL j W ds i;refine a' (λVD=>?_) (λVY=>?_)
 ·have M:i<ds.length:=by omega
  obtain ⟨d,J⟩:∃ d,raw[i]?=some d:=⟨_,bF (by omega)⟩;obtain ⟨x,VR⟩:∃ x,ds[i]?=some x:=⟨_,bF M⟩;obtain ⟨p,Z⟩:∃ p,W[i]?=some p:=⟨_,bF (by omega)⟩;have O:W.getD i hE=p:=ox Z;have Vx:=K.2 i d x J VR;have L:dx ds i=dZ x:=by unfold dx;rw [dD,VR];rfl
  obtain ⟨V2,V',Wa,Wb,Wc⟩:=eT.ok p (cg Z);refine eo (cells:=bR.cells) bR.len (by omega) (VI.new I.new) J rfl VJ.symm λb V_ Vw _=>bR.aS d ⟨Vw,?_⟩
  refine ea (vs:=d.cells) rfl (bR.single _) λV7 V4 VW VN VE=>?_
  rintro VP U;have N:ai V4 VP:=by rw [U];exact cD _
  clear U;have g:=VE.new N;have VM:=ai.aj N VN;have Q:=ai.aj (f.new g) VL;have F:=I.bx g;have B:=P.new (f.new g);refine ⟨λy=>ai VP y,ao.refl _ _,_,_,_,λy Y=>(ai.aj Y Q).cell (i:=1) rfl,?_⟩;refine iR (cells:=aJ.cells) aJ.len (by omega) B.rd Z rfl hlen λV8 V3 Vv=>aJ.aS p ⟨λy Y=>kR (i:=0) λq v an=>by simpa using Vv y Y q v an,r.ew,λy Y=>(ai.aj Y F.aj).cell (i:=5) rfl,?_⟩
  rw [ar];refine aC (yi VP p V2 Vy) ?_;rintro v We ⟨rfl,s⟩;have G:=F.bx s;have VO:=ai.aj s VM;refine ⟨_,_,rfl,s,dJ (λ_=>bR.aS d ⟨bK VO rfl,?_⟩) (λe=>absurd rfl e)⟩;refine aC (q1 (Vx.az (ao.b3 G.new) λ_ _ e=>e)) ?_;rintro v Wf ⟨rfl,VF⟩;have h:=s.new VF;have c:=g.new h;have VH:=ai.aj h Q;refine ⟨_,rfl,dJ (λhe=>⟨_,_,_,VH.cell (i:=1) rfl,?_⟩) (λhe=>?_)⟩
  ·have a:gj j W ds (i+1)=gj j W ds i++[p]:=by rw [Aq];unfold pX;rw [O,if_pos (by rw [L];exact he)]
   refine eo (cells:=aJ.cells) aJ.len (by omega) (B.new h).rd Z rfl hlen λdn Wd H _=>aJ.aS p ⟨H,?_⟩
   rintro VS V5 Vs X;obtain ⟨D,C⟩:=bl Vs X;have D:av V5 VS p.cells ep:=D;clear X;obtain ⟨inf,Vz,VK,S,Vt⟩:=fL (T:=ep) (z:=hE.val) (n:=9) (m:=72) (by kernel_rfl);refine q5 (cells:=aJ.cells) (sz:=9) aJ.len aJ.single Tryz.underlying37 Vz VK (by rw [S];rfl) S (by decide) (by rw [Vt];decide) (a2.new (c.new C) l) (l2:=[p]) (m:=1) (fk D rfl) rfl (by omega) λap E V6 VT VU VV=>?_
   rw [bC (x:=(i:Int)+1) (by omega) (by omega)];have VG:ai u V6:=(f.new (c.new C)).trans VU λk VD e=>by have:=t k e;omega
   have V1:=(f.new c).size;have V0:=C.size;refine ⟨ds.length - (i+1),by omega,i+1,ap,E,_,rfl,by omega,by rw [a,dH];rfl,VG,?_,λk VC=>?_⟩
   ·rw [a,dH];exact VT
   ·rcases VV k VC with e | e
    ·exact t k e
    ·omega
  ·have a:gj j W ds (i+1)=gj j W ds i:=by rw [Aq];unfold pX;rw [O,if_neg (by rw [L];exact he),iW]
   rw [bC (x:=(i:Int)+1) (by omega) (by omega)];exact ⟨ds.length - (i+1),by omega,i+1,pa,pc,_,rfl,by omega,by rw [a];rfl,f.new c,by rw [a];exact a2.new c l,t⟩
 ·have VA:i=ds.length:=by omega
  subst VA;rw [PX];exact VB z pa pc f l.rd t
end
section
def fl (j:b2) (m:aZ) (W:List aJ) (G:List (List aL)):cn:=bL G (W.map (p7 j m))
theorem HX (Vx:df w0 u aH tb r m j V (0,0)) (Vw:eO A w0 u tb T G) (VE:fT T) {W:List aJ} (J:i0 u q.ei q.dI W) (VH:∀ k,aK q.ei k->k≠tb/\k≠aH) (eT:rO W) :
  a_ 248 [ptr aH,q.val] u (Cs A w0 u aH tb r m j V W (fl j m W G)):=by
 refine bc Tryz.func248 ?_;rw [ptr,QC];have VY:=Vx.aj.lt;have V0:=Vw.aj.lt;have hlen:=J.len;have VX:=eT.eA;rintro b1 w1 VB Vr;obtain ⟨B,c⟩:=bl VB Vr;have B:av w1 b1 q.cells ek:=B;clear Vr;have VP:=c.size;refine ⟨_,_,_,B.cell (i:=1) rfl,?_⟩;refine c2 mix (λk env z=>∃ (i:Nat) (pa:al) (pc:Nat) (V1:ax),k=W.length - i/\i<=W.length/\env=we ⟨aH,0,none⟩ ⟨b1,0,none⟩ none 0 0 pa i pc q.ei q.dI q.gq q.dI i V1/\ai w1 z/\bH w1 z pa i pc ((W.take i).map (p7 j m))) W.length
  ⟨0,none,0,_,by omega,by omega,rfl,ao.refl _ _,bH.nil _ _⟩ ?_
 rintro k env z ⟨i,pa,pc,V1,rfl,Wk,rfl,d,w⟩;rw [PK,hlen];have N:=Vx.bx (c.new d);refine a' (λWb=>?_) (λWa=>?_)
 ·obtain ⟨p,VN⟩:∃ p,W[i]?=some p:=⟨_,bF (by omega)⟩;obtain ⟨Wl,Wm,Wd,We,Wn⟩:=eT.ok p (cg VN);refine eo (cells:=aJ.cells) aJ.len (by omega) ((J.new c).new d).rd VN rfl rfl λb Wc VD _=>aJ.aS p ⟨VD,?_⟩
  refine ea (vs:=p.cells) rfl (aJ.single _) λV5 Wg V' VS VL=>?_
  rintro VU Vs;have S:ai Wg VU:=by rw [Vs];exact cD _
  clear Vs;have E:=VL.new S;have M:=N.bx E;have C:=ai.aj S VS;refine ⟨λy=>av y V5 p.cells ep/\iL r tb m j aH y,⟨C,_,_,M.aj⟩,aZ.aS m ⟨λy Vu=>by obtain ⟨_,Wi,Wc,Vu⟩:=Vu;exact bK Vu rfl,p.bn,λy Vu=>Vu.1.cell (i:=0) rfl,?_⟩⟩;refine aC (q4 VU Wd We) ?_;rintro v V2 ⟨rfl,VV⟩;have I:ai VU V2:=by rw [VV];exact ao.refl _ _
  clear VV;have H:=M.bx I;have Vv:=ai.aj I C;refine ⟨_,rfl,⟨Vv,_,_,H.aj⟩,?_⟩;refine aC (uH H Vx.ee (p.bn * 8) 1) ?_;rintro v V3 ⟨bj,rfl,VQ,s⟩;have n:=H.bx s;have D:=ai.aj s Vv;refine aG.aS bj ⟨rfl,⟨D,_,_,n.aj⟩,?_⟩;rintro Wj Wh VC Vt;have U:ai V3 Wh:=by rw [Vt];exact hk _ _
  have g:ai z V2:=E.new I;refine ⟨⟨ai.aj U D,_,_,(n.bx U).aj⟩,bH.lN (w.new g) (d.new g) s VQ (by omega) VC Vt λap L Wo V9 Q VM=>?_⟩;obtain ⟨cf,X,_⟩:=(w.new (g.new s)).ex;have off:∀ {b:Nat} {cs:ax} {T:TypeId},T≠cy->av V3 b cs T->¬ aK pa b:=λVw V_ VJ=>by obtain ⟨V6,VF⟩:=fI X VJ;exact VF.ne V_ (λe=>Vw e.symm) rfl
  refine ⟨⟨Q.aj D (off (by decide) D),_,_,Q.aj n.aj (off (by decide) n.aj)⟩,?_⟩;rw [bC (x:=(i:Int)+1) (by omega) (by omega)];refine ⟨W.length - (i+1),by omega,i+1,ap,L,_,rfl,by omega,by rw [<-hlen];rfl,VM,?_⟩;have e:(W.take i).map (p7 j m)++[p7 j m p]=(W.take (i+1)).map (p7 j m):=by rw [e7,VN];simp
  rw [<-e];exact V9
 ·have VI:i=W.length:=by omega
  subst VI;rw [hv] at w;rw [PW];have F:=c.new d;refine aC (np N (Vw.new F) VE (Vx.bx c).new (by omega) (by omega) w (by rw [fC];omega)) ?_;rintro v VT ⟨dA,dc,raw,rfl,a,VO,f,K⟩;have P:=a.az;have a:eG A w0 u aH tb u.heap.size r m j V (fl j m W G) VT:=eG.of a F VP;have f:gS A w0 raw (fl j m W G).done:=f;have K:(fl j m W G).ok=true->raw.length=(W.map (p7 j m)).length:=K;have VG:(fl j m W G).done.length<=W.length:=by
   cases t:(fl j m W G).ok with
   |true=>rw [<-f.1,K t,fC];omega
   |false=>
    have:(fl j m W G).done=[]:=by
     unfold fl bL cb at t ⊢;split
     ·rfl
     split
     ·rfl
     ·rename_i Vy Vz;rw [if_neg Vy,if_neg Vz] at t;cases t
    rw [this];simp
  refine ⟨_,_,_,_,rfl,?_⟩;show cu prog _ _ _ _;rw [f.1];have C:av VT b1 q.cells ek:=P.aj (ai.aj d B) (by omega);have h:=(J.new c).new d;have Y:i0 VT q.ei q.dI W:=⟨h.rd.az P (g9 h.rd λk VK e=>by have:=VH k VK;rcases e with e | e;exact this.1 e;exact this.2 e),h.len,h.eA,h.u64⟩;have VZ:=a.az.size;refine JA a.eE C Y eT VO f VG _ _ (R:=Cs A w0 u aH tb r m j V W (fl j m W G)) λbq pa pc o Z O=>?_
  obtain ⟨V4,VA,VR,l⟩:=a.fO;refine ⟨pa,pc,rfl,⟨a.az.new o,a.eE.bx o,V4,VA.new o,VR,?_⟩,Z,λk VJ=>by have:=O k VJ;omega⟩;cases VW:(fl j m W G).ask with
  |none=>rw [VW] at l;exact l
  |some vs=>rw [VW] at l;obtain ⟨V7,Wf,Vy,Vz,V8⟩:=l;exact ⟨V7,Wf,Vy,Vz,V8.new o⟩
end
section
theorem NH (h:∀ x ∈ L,b8 x) (i:Nat):b8 (L.getD i 0):=by
 rw [dD];cases a:L[i]? with
 |none=>exact hd
 |some x=>exact h x (cg a)
theorem KQ (h:fJ L lines=true) (hu:∀ x ∈ L,b8 x):fr (cT L lines).1 (cT L lines).2 lines=0/\rO (cT L lines).2/\∀ p ∈ (cT L lines).2,∀ x ∈ hz p,b8 x:=by
 have hw:=h;unfold fJ at hw;simp only [eY,decide_eq_true_eq,beq_iff_eq] at hw;have j:cT L lines=((L.drop 8).getD 0 0,hn (L.drop 8) ((L.drop 8).getD 1 0).toNat):=by unfold cT et;rw [if_pos h,if_pos hw.2]
 have c:=hw.2;unfold ef at c;split at c
 ·omega
 split at c
 ·omega
 split at c
 ·omega
 split at c
 ·omega
 rename_i _ _ _ d;have d:fr ((L.drop 8).getD 0 0) (hn (L.drop 8) ((L.drop 8).getD 1 0).toNat) lines=0:=by omega
 rw [j];have ar:∀ x ∈ L.drop 8,b8 x:=λx b=>hu x (oP b)
 obtain ⟨o,l,f,e,_⟩:=ji d;refine ⟨d,⟨l.2.2.2,λp a=>⟨(e p a).1,(e p a).2,(f p a).1,by have:=(f p a).2;omega,De ar _ p a⟩⟩,λp a x b=>?_⟩;obtain ⟨i,_,rfl⟩:=cW.1 a;have k:∀ y ∈ ((L.drop 8).drop (2+9 * i)).take 9,b8 y:=λy n=>ar y (oP (s6 n))
 have g:=NH k;have b:x ∈ [(((L.drop 8).drop (2+9 * i)).take 9).getD 2 0,(((L.drop 8).drop (2+9 * i)).take 9).getD 3 0,(((L.drop 8).drop (2+9 * i)).take 9).getD 4 0,(((L.drop 8).drop (2+9 * i)).take 9).getD 5 0,(((L.drop 8).drop (2+9 * i)).take 9).getD 6 0,(((L.drop 8).drop (2+9 * i)).take 9).getD 7 0,(((L.drop 8).drop (2+9 * i)).take 9).getD 8 0]:=b;simp only [e9,lk,or_false] at b;rcases b with rfl | rfl | rfl | rfl | rfl | rfl | rfl<;>exact g _
theorem bH.three {bE h bu r:ak} {v1 v2 g:aG} {s t y:aP} {b:Nat} (l:ai u bE) (n:cE (λk=>k<u.heap.size) bE v1 s) (f:ai bE h) (p:cE (λk=>k<bE.heap.size) h v2 t) (c:ai h bu) (q:cE (λk=>k<h.heap.size) bu g y) (C:b=bu.heap.size) (au:av r b (v1.cells++v2.cells++g.cells) cy) (j:ai bu r):bH u r (some ⟨b,0,none⟩) 3 3 [s,t,y]:=by
 have z:=l.size;have A:=f.size;have B:=c.size;have a:∀ k,aK (some ⟨b,0,none⟩) k->k=b:=λk i=>by obtain ⟨o,x⟩:=i;simp at x;exact x.1.symm
 have w:(v1.cells++v2.cells++g.cells).length=27:=by rw [dH,dH,aG.len,aG.len,aG.len]
 refine ⟨⟨[v1,v2,g],⟨by simp [dP];rfl,.inr ⟨b,v1.cells++v2.cells++g.cells,rfl,au,cO 3,by decide,w,?_⟩⟩,en.app (r1:=[v1]) (v1:=[s]) (en.one ?_) (en.app (r1:=[v2]) (v1:=[t]) (en.one ?_) (en.one ?_))⟩,rfl,λk i=>by rw [a k i];omega⟩
 ·rw [hO (by rw [w];decide)];simp [dP]
 ·exact n.az (ao.b3 ((f.new c).new j)) λk d e=>by
   rcases e with e | e
   ·exact e
   ·have:=a k e;omega
 ·exact p.az (ao.b3 (c.new j)) λk d e=>by
   rcases e with e | e
   ·omega
   ·have:=a k e;omega
 ·exact q.az (ao.b3 j) λk d e=>by
   rcases e with e | e
   ·omega
   ·have:=a k e;omega
end
end Go.Proofs.YtmkljjbioomepaaGreat
