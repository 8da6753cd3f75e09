import Derived.Test.YtmkljjbioomepaaGreatb30
import Derived.Test.YtmkljjbioomepaaGreatProg
import Derived.Test.YtmkljjbioomepaaGreatb03
set_option linter.all false
set_option maxHeartbeats 4000000
set_option maxRecDepth 100000
namespace Go.Proofs.YtmkljjbioomepaaGreat
open Go.Proofs.Tryz Go.bu
variable {A:a3} {G:List (List aO)} {L:bd} {T:fV} {V:ga} {j:b3} {lines:Int} {m:aY} {o:Int×Int} {q:bY} {r:dt} {aH tb:Nat} {u w0:ak}
section
theorem B4 (h:fN L lines=true):1<=(cW L lines).1/\(cW L lines).1<1073741824:=by
 have hw:=h;unfold fN at hw;simp only [e1,decide_eq_true_eq,beq_iff_eq] at hw;unfold cW ew;rw [if_pos h,if_pos hw.2];have a:=hw.2;unfold eg at a;split at a
 ·omega
 split at a
 ·omega
 split at a
 ·omega
 split at a
 ·omega
 rename_i _ _ _ b;have b:fy ((L.drop 8).getD 0 0) (hl (L.drop 8) ((L.drop 8).getD 1 0).toNat) lines=0:=by omega
 obtain ⟨_,c,_⟩:=jj b;exact ⟨c.1,c.2.1⟩
theorem OQ (x:Int):0<=(h_ x).1/\(h_ x).1<1073741824:=by
 unfold h_;split
 ·rename_i h;exact ⟨by show 0<=db .u64 x 2;omega,h.2.1⟩
 ·exact ⟨by decide,by decide⟩
def mw (a b:Int):Int:=if a<b then b else a
def hF (lines g:Int) (L:bd):Int:=
 let a:=if (h_ (L.getD 0 0)).2=true then mw g (h_ (L.getD 0 0)).1 else g
 if fN L lines=true then mw a (cW L lines).1 else a
def iU (clock:Int):Int:=if 1073741823<clock then 1073741823 else clock
def jG (lines clock:Int) (aT:List bd):Int:=aT.foldl (hF lines) (iU clock)+1
theorem D7 {a b:Int} (c:0<=a/\a<1073741824) (d:0<=b/\b<1073741824):0<=mw a b/\mw a b<1073741824:=by unfold mw;split<;>omega
theorem KF {g:Int} (h:0<=g/\g<1073741824):0<=hF lines g L/\hF lines g L<1073741824:=by
 unfold hF;have a:0<=(if (h_ (L.getD 0 0)).2=true then mw g (h_ (L.getD 0 0)).1 else g)/\(if (h_ (L.getD 0 0)).2=true then mw g (h_ (L.getD 0 0)).1 else g)<1073741824:=by
  split
  ·exact D7 h (OQ _)
  ·exact h
 simp only;split
 ·rename_i hw;have:=B4 hw;exact D7 a ⟨by omega,this.2⟩
 ·exact a
theorem KG (G:dh w0 u aH tb r m j V o) {aT:List bd} (V8:kS w0 u aH tb V aT) (Z:aT.length<=100) (P:∀ L ∈ aT,L.length=120) (K:ca V.clock) :
  a9 184 [ptr aH] u λv bs=>v=.int .i64 (jG j.lines V.clock aT)/\ai u bs:=by
 refine bc Tryz.func184 ?_;rw [ptr,RN];obtain ⟨⟨W,R,Q,V_,E⟩,V2⟩:=V8;have f:=G.bM.lines;have e:0<=iU V.clock/\iU V.clock<1073741824:=by have:=K.1;unfold iU;split<;>omega
 refine ⟨_,G.aj.cell (i:=14) rfl,_,_,_,G.aj.cell (i:=13) rfl,?_⟩;rw [show IntKind.i64.wrap (if (1073741823:Int)<V.clock then (1073741823:Int) else V.clock)=iU V.clock from bC (by unfold iU at e;omega) (by unfold iU at e;omega)];refine c2 mix (λq env z=>∃ (i:Nat) (A:ax),q=aT.length - i/\i<=aT.length/\env=oo ⟨aH,0,none⟩ ((aT.take i).foldl (hF j.lines) (iU V.clock)) V.fq V.j6 V.lc V.j6 i A/\ai u z/\0<=(aT.take i).foldl (hF j.lines) (iU V.clock)/\(aT.take i).foldl (hF j.lines) (iU V.clock)<1073741824) aT.length
  ⟨0,_,by omega,by omega,rfl,ao.refl _ _,e.1,e.2⟩ ?_
 rintro q env z ⟨i,A,rfl,Wa,rfl,h,p⟩;rw [Qd];have B:=G.bz h;refine a8 (λV9=>?_) (λV7=>?_)
 ·have F:i<aT.length:=by omega
  obtain ⟨s,V5⟩:∃ s,W[i]?=some s:=⟨_,bD (by omega)⟩;obtain ⟨L,I⟩:∃ L,aT[i]?=some L:=⟨_,bD F⟩;have D:=E i s L V5 I;have w:=D.new B.new;have Y:=P L (b7 I);have k:(aT.take (i+1)).foldl (hF j.lines) (iU V.clock)=hF j.lines ((aT.take i).foldl (hF j.lines) (iU V.clock)) L:=by rw [fc,I,yv];rfl
  generalize (aT.take i).foldl (hF j.lines) (iU V.clock)=g at p k;have more:∀ {t:Int} {X:ak} (A:ax),t=hF j.lines g L->ai u X->∃ bW,bW<aT.length - i/\∃ (y:Nat) (U:ax),bW=aT.length - y/\y<=aT.length/\oo ⟨aH,0,none⟩ t V.fq V.j6 V.lc V.j6 (IntKind.i64.wrap (i+1)) A=oo ⟨aH,0,none⟩ ((aT.take y).foldl (hF j.lines) (iU V.clock)) V.fq V.j6 V.lc V.j6 y U/\ai u X/\0<=(aT.take y).foldl (hF j.lines) (iU V.clock)/\(aT.take y).foldl (hF j.lines) (iU V.clock)<1073741824:=by intro t X A V' H;rw [bC (x:=(i:Int)+1) (by omega) (by omega)];have C:=KF (lines:=j.lines) (L:=L) p;exact ⟨aT.length - (i+1),by omega,i+1,A,rfl,by omega,by rw [V',k];rfl,H,by rw [k];exact C.1,by rw [k];exact C.2⟩
  refine er (cells:=mz) (sz:=1) (λ_=>rfl) (by decide) (R.new h) V5 rfl Q λb' Wb _ J=>⟨s.a,s.n,s.c,J 0 _ rfl,?_⟩
  refine m3 w.rd (i:=0) (by omega) w.len rfl λaJ Wc hw=>⟨_,hw _ (ao.refl _ _),?_⟩
  have S:ca (L.getD 0 0):=by
   cases L with
   |nil=>exact hf
   |cons a l=>exact D.u64 a (by simp)
  refine aC (II z S) ?_;rintro v Wd ⟨rfl,rfl⟩;refine ⟨_,_,rfl,fX (λb=>?_) (λb=>?_)⟩
  all_goals
   refine ⟨r.gw,B.aj.cell (i:=2) rfl,?_⟩;rw [f];refine aC (vI j.lines w) ?_;rintro v We ⟨pb,aX,rfl,N,V4,V3⟩;refine bY.aR ⟨(cW L j.lines).1,pb,(cW L j.lines).2.length,aX⟩ ⟨_,rfl,?_⟩;refine ea (vs:=bY.cells ⟨(cW L j.lines).1,pb,(cW L j.lines).2.length,aX⟩) rfl (bY.single _) λaA Wf V6 T O=>?_
   have H:=h.new (N.new O);refine fX (λd=>⟨_,T.cell (i:=0) rfl,more _ ?_ H⟩) (λd=>more _ ?_ H)
  ·unfold hF;simp only [b,d,if_true];rfl
  ·unfold hF;simp only [b,d,if_true];rfl
  ·unfold hF;simp only [b,d,if_true];rfl
  ·unfold hF;simp only [b,d];rfl
 ·have M:i=aT.length:=by omega
  subst M;rw [hx] at p ⊢;rw [Qp];rw [bC (by omega) (by omega)];exact ⟨rfl,h⟩
end
section
open IntKind
variable (w:ak) (R:cB) {a b c d e f:Nat} {A B:aS} {s t u:an} {i k l m:Int} {j:aq}
def uc (e:aS) (l:an) (a b:Nat) (n s8:Int) (o:an) (c d:Nat) (f:an) (g h:Nat) (i k:Int) (j:aq):aq:=.pointer (some e)::ag j 0 4 (ae l a b::ag j 4 1 (ab n::ah s8::ae o c d::ag j 5 31 (ae f g h::ab i::ab k::ag j 36 51 [])))
def zZ (a:aS) (e:an) (b c:Nat) (g s8:Int) (h:an) (d f:Nat) (j:aq):aq:=.pointer (some a)::ag j 0 4 (ae e b c::ag j 4 1 (ab g::ah s8::ae h d f::ag j 5 85 []))
theorem Ry (o:bY):bf prog f227 [a_ a,o.val] R w=(aQ w o.cells.toArray 271 λj u=>hN u (af j 0) λr=>de 247 #[a_ a,r.val] u λe q=>cond (!e) (R (ad false) q) (hN q (af j 0) λv=>js 248 #[a_ a,v.val] q λb c d f s=>cond (!f) (R (ad false) s) (cond ((c:Int) == 0) (R (ad true) s) (ct s λy t=>cN t (af a 5) λg=>cN t (af j 0) λh=>cm 225 #[ab g] y λi p=>t p/\lS p (af a 3) λn=>eE 216 #[n.val] p λk l m x=>cv prog (c0 f227 [1,1,1,1,1,1,1,0,1,0,0]) (uc (af a 0) b c d i (u64.wrap h) none 0 0 k l m (l:Nat) 0 (o.val::undef::jp (af j 0)::ad false::ad f::bb 2 (jp (af a 0)::r.val::ad e::ad (!e)::.tuple #[ae b c d,ad f]::jp (af a 0)::v.val::.tuple #[ae b c d,ad f]::ae b c d::ad f::ad f::ad (!f)::ae b c d::cX c::ad ((c:Int) == 0)::jp (af a 0)::jp (af a 0)::jp (af a 0)::jp (af a 5)::ab g::ab i::jp (af j 0)::ab h::ah (u64.wrap h)::jp (af a 0)::jp (af a 0)::jp (af a 0)::jp (af a 3)::n.val::bb 51 []))) (aM 0 (aP f227 [1,1,1,1,1,1,1,1] R)) x)))):=by kernel_rfl
theorem Qs (D:aq->aE):W prog (sb f227 [1,1,1,1,1,1,1,0,1,0,0]) (uc A s a b i k t c d u e f l m j) (aU D (aM 0 (aP f227 [1,1,1,1,1,1,1,1] R))) w=(cond (m<l) (bm u e m 3 λa7=>im w a7 λr=>aQ w #[ab 0,ab 0,ad false] 116 λB K=>a' K (af B 0) 0 r.cells λH=>im H (af B 0) λE=>eE 249 #[.pointer (some A),E.val,ae s a b] H λx y n P=>c9 125 (ae t c d) (ae x y n) P λz o p a6=>im a6 (af B 0) λG=>aQ a6 #[ah k] 30 λC M=>eL 250 #[.pointer (some A),G.val,ab i,ae (bn C) 1 1] M λv N=>aQ N v.cells.toArray 158 λF O=>c9 125 (ae z o p) (ae (bn F) 1 1) O λq g h L=>D (uc A s a b i k q g h u e f l (i64.wrap (m+1)) (ag j 0 6 (jp (af B 0)::ag j 7 29 (ad (m<l)::jp a7::r.val::ae t c d::jp A::E.val::ae s a b::ae x y n::ae z o p::ae z o p::jp A::G.val::ab i::ah k::ae (bn C) 1 1::v.val::ae (bn F) 1 1::ae q g h::ab (i64.wrap (m+1))::ag j 55 32 [])))) L) (W prog (sb f227 [1,1,1,1,1,1,1,1]) (zZ A s a b i k t c d (ag j 0 36 (ae u e f::ab l::ab m::ad (m<l)::ag j 37 50 []))) (bZ f227 R) w)):=by kernel_rfl
theorem Q6:W prog (sb f227 [1,1,1,1,1,1,1,1]) (zZ A s a b i k t c d j) (bZ f227 R) w=(js 221 #[.pointer (some A),ae t c d] w λg h u D G=>cond (!D) (R (ad false) G) (ct G λX B=>hc B (bT A 9) λJ=>hc B (bT A 9) λH=>aQ X #[ah k] 30 λQ L=>B L/\eL 250 #[.pointer (some A),J.val,ab i,ae (bn Q) 1 1] L λK E=>B E/\(aQ E K.cells.toArray 158 λS a6=>B a6/\eE 249 #[.pointer (some A),H.val,ae s a b] a6 λl m n P=>B P/\c9 125 (ae (bn S) 1 1) (ae l m n) P λI o p O=>B O/\js 221 #[.pointer (some A),ae I o p] O λq r e f M=>B M/\R (ad f) M)/\eE 249 #[.pointer (some A),H.val,ae s a b] E λv x y N=>B N/\aQ N K.cells.toArray 158 λV a7=>B a7/\c9 125 (ae (bn V) 1 1) (ae v x y) a7 λz Y T F=>B F/\js 221 #[.pointer (some A),ae z Y T] F λV2 V3 U Z C=>B C/\R (ad Z) C)):=by kernel_rfl
def uh (e:aS) (i:an) (a b:Nat) (c:an) (d f:Nat) (g h:Int) (j:aq):aq:=.pointer (some e)::ag j 0 4 (ae i a b::ag j 4 7 (ae c d f::ab g::ab h::ag j 11 38 []))
def Fu (a:aS) (d:an) (b c:Nat) (j:aq):aq:=.pointer (some a)::ag j 0 4 (ae d b c::ag j 4 48 [])
theorem R2 (e:bY):bf prog f229 [a_ a,e.val] R w=(aQ w e.cells.toArray 271 λf g=>b5 g (af f 1) λd b c=>cv prog (c0 f229 [1,1,0,1,0,0]) (uh (af a 0) none 0 0 d b c (b:Nat) 0 (e.val::undef::jp (af f 0)::ad false::bb 6 (jp (af f 1)::bb 38 []))) (aM 0 (aP f229 [1,1,1] R)) g):=by kernel_rfl
theorem Qq (z:aq->aE):W prog (sb f229 [1,1,0,1,0,0]) (uh A s a b t c d i k j) (aU z (aM 0 (aP f229 [1,1,1] R))) w=(cond (k<i) (bm t c k 9 λC=>hv w C λr=>aQ w #[ab 0,ah 0,ah 0,ah 0,ah 0,ah 0,ah 0,ah 0,ah 0] 73 λv a6=>a' a6 (af v 0) 0 r.cells λL=>ct L λM u=>uM u (af v 0) λB=>cN u (bT A 5) λf=>ht 211 #[B.val,ab f] M λh l a7=>cond (l == 0) (ct a7 λK x=>hc x (bT A 9) λe=>cN x (af v 0) λm=>jM x (af v 1) λn=>cm 108 #[ab m] K λo G=>x G/\eL 223 #[.pointer (some A),e.val,ab o,ah h,ah n] G λg H=>x H/\aQ H g.cells.toArray 158 λD E=>x E/\c9 125 (ae s a b) (ae (bn D) 1 1) E λy p q F=>x F/\z (uh A y p q t c d i (i64.wrap (k+1)) (ag j 0 5 (jp (af v 0)::ah h::ab l::aF j 8::aF j 9::aF j 10::ad (k<i)::jp C::r.val::.tuple #[ah h,ab l]::B.val::jp A::jp A::jp A::bq A 5::ab f::.tuple #[ah h,ab l]::ah h::ab l::ab l::ad ((l:Int) == 0)::ae s a b::jp A::jp A::jp A::bq A 9::e.val::jp (af v 0)::ab m::ab o::ah h::jp (af v 1)::ah n::g.val::ae (bn D) 1 1::ae y p q::ab (i64.wrap (k+1))::ag j 42 7 []))) F) (z (uh A s a b t c d i (i64.wrap (k+1)) (ag j 0 5 (jp (af v 0)::ah h::ab l::aF j 8::aF j 9::aF j 10::ad (k<i)::jp C::r.val::.tuple #[ah h,ab l]::B.val::jp A::jp A::jp A::bq A 5::ab f::.tuple #[ah h,ab l]::ah h::ab l::ab l::ad ((l:Int) == 0)::ag j 26 15 (ab (i64.wrap (k+1))::ag j 42 7 [])))) a7)) (W prog (sb f229 [1,1,1]) (Fu A s a b (ag j 0 11 (ae t c d::ab i::ab k::ad (k<i)::ag j 12 37 []))) (bZ f229 R) w)):=by kernel_rfl
theorem Rq:W prog (sb f229 [1,1,1]) (Fu A s a b j) (bZ f229 R) w=(js 221 #[.pointer (some A),ae s a b] w λd f g h c=>R (ad h) c):=by kernel_rfl
def wM (e i:aS) (k:an) (a b:Nat) (c:an) (d f:Nat) (g h:Int) (j:aq):aq:=.pointer (some e)::ag j 0 3 (.pointer (some i)::ag j 3 2 (ae k a b::ag j 5 4 (ae c d f::ab g::ab h::ag j 9 20 [])))
def Ft (c:an) (a b:Nat) (j:aq):aq:=ag j 0 7 (ae c a b::ag j 7 27 [])
theorem Sj (d:aY):bf prog f249 [a_ a,d.val,ae s b c] R w=(aQ w d.cells.toArray 116 λf e=>cv prog (c0 f249 [1,1,0,1,0,0]) (wM (af a 0) (af f 0) none 0 0 s b c (b:Nat) 0 (d.val::ae s b c::bb 2 (a5::bb 24 []))) (aM 0 (aP f249 [1,1,1] R)) e):=by kernel_rfl
theorem QD (y:aq->aE):W prog (sb f249 [1,1,0,1,0,0]) (wM A B s a b t c d i k j) (aU y (aM 0 (aP f249 [1,1,1] R))) w=(cond (k<i) (bm t c k 9 λa7=>hv w a7 λr=>aQ w #[ab 0,ah 0,ah 0,ah 0,ah 0,ah 0,ah 0,ah 0,ah 0] 73 λu a6=>a' a6 (af u 0) 0 r.cells λF=>hv F (af u 0) λC=>sE 244 #[C.val] F λf g l m L=>ct L λK h=>hc h B λE=>cN h (af u 0) λn=>cm 108 #[ab n] K λo D=>h D/\eL 250 #[.pointer (some A),E.val,ab o,ae f g l] D λe G=>h G/\aQ G e.cells.toArray 158 λx H=>h H/\c9 125 (ae s a b) (ae (bn x) 1 1) H λv p q z=>h z/\y (wM A B v p q t c d i (i64.wrap (k+1)) (ag j 0 6 [jp (af u 0),ae f g l,ab m,ad (k<i),jp a7,r.val,.tuple #[ae f g l,ab m],C.val,.tuple #[ae f g l,ab m],ae f g l,ab m,ae s a b,jp A,E.val,jp (af u 0),ab n,ab o,ae f g l,e.val,ae (bn x) 1 1,ae v p q,ab (i64.wrap (k+1)),aF j 28])) z) (W prog (sb f249 [1,1,1]) (Ft s a b (jp A::aF j 0::aF j 1::aF j 2::jp B::ag j 3 6 (ae t c d::ab i::ab k::ad (k<i)::ag j 10 19 []))) (bZ f249 R) w)):=by kernel_rfl
theorem QV:W prog (sb f249 [1,1,1]) (Ft s a b j) (bZ f249 R) w=(R (ae s a b) w):=by kernel_rfl
end
section
def vo (j:b3) (m:aY) (p:aK):aW:=rY j m (p.bo * 8) (eK p.Head j.dead) p.Head
def tR (j:b3) (m:aY) (W:List aK) (G:List (List aO)):cq:=bK G (W.map (vo j m))
structure r5 (W:List aK):Prop where
 eD:W.length<=12
 ok:∀ p ∈ W,lV p.Head=true/\pp p.Head=true/\96<=p.bo/\p.bo<256/\ca p.Head
theorem OR (D:dh w0 u aH tb r m j V (0,0)) (Y:eP A w0 u tb T G) (V5:fY T) {W:List aK} (N:fh u q.eu q.dO W) (eW:r5 W) :
  a9 229 [ptr aH,q.val] u (k' A w0 u aH tb r m j V (tR j m W G)):=by
 refine bc Tryz.func229 ?_;rw [ptr,R2];have Wi:=D.aj.lt;have Wj:=Y.aj.lt;have V7:=D.cf.dead;have ar:=D.bM.dead;have hlen:=N.len;have Wh:=eW.eD;rintro b1 w1 Z O;obtain ⟨C,a⟩:=bl Z O;have C:av w1 b1 q.cells eo:=C;clear O;have Wa:=a.size;refine ⟨_,_,_,C.cell (i:=1) rfl,?_⟩;refine c2 mix (λk env z=>∃ (i:Nat) (pa:an) (pc:Nat) (Wk:ax),k=W.length - i/\i<=W.length/\env=uh ⟨aH,0,none⟩ pa i pc q.eu q.dO q.gX q.dO i Wk/\ai w1 z/\bH w1 z pa i pc ((W.take i).map (vo j m))) W.length
  ⟨0,none,0,_,by omega,by omega,rfl,ao.refl _ _,bH.nil _ _⟩ ?_
 rintro k env z ⟨i,pa,pc,Wk,rfl,WF,rfl,d,l⟩;rw [Qq,hlen];have I:=D.bz (a.new d);refine a8 (λWu=>?_) (λWs=>?_)
 ·obtain ⟨p,V_⟩:∃ p,W[i]?=some p:=⟨_,bD (by omega)⟩;obtain ⟨Ww,WG,Wx,Wy,Wz⟩:=eW.ok p (b7 V_);refine er (cells:=aK.cells) aK.len (by omega) ((N.new a).new d).rd V_ rfl rfl λb Wv V4 _=>aK.aR p ⟨V4,?_⟩
  refine ea (vs:=p.cells) rfl (aK.single _) λWn WA Wr Wc K=>?_
  rintro We P;have s:ai WA We:=by rw [P];exact cE _
  clear P;have F:=I.bz (K.new s);have S:=ai.aj s Wc;refine ⟨λy=>ai We y,ao.refl _ _,aK.aR p ⟨λy f=>bJ (ai.aj f S) rfl,r.eO,λy f=>(ai.aj f F.aj).cell (i:=5) rfl,?_⟩⟩;rw [ar];refine aC (yH We p Ww V7) ?_;rintro v WB ⟨rfl,t⟩;have V3:=F.bz t;have Wd:=ai.aj t S;refine ⟨_,_,rfl,dY (λ_=>?_) (λe=>absurd rfl e)⟩;rintro Wf Q;have w:ai WB Wf:=by rw [Q];exact cE _
  clear Q;have H:=V3.bz w;have U:=ai.aj w Wd;refine ⟨λy=>av y Wn p.cells et/\iQ r tb m j aH y,⟨U,_,_,H.aj⟩,aY.aR m ⟨λy f=>by obtain ⟨_,WD,Wv,f⟩:=f;exact bJ f rfl,p.bo,λy f=>f.1.cell (i:=0) rfl,p.Head,λy f=>f.1.cell (i:=1) rfl,?_⟩⟩;refine aC (ra Wf Wx Wy) ?_;rintro v Wl ⟨rfl,Wg⟩;have B:ai Wf Wl:=by rw [Wg];exact ao.refl _ _
  clear Wg;have o:=H.bz B;have X:=ai.aj B U;refine ⟨_,rfl,⟨X,_,_,o.aj⟩,?_⟩;refine aC (vw o D.ef (p.bo * 8) (Du p.Head j.dead) Wz) ?_;rintro v Wm ⟨bj,rfl,Wb,h⟩;have g:=o.bz h;have n:=ai.aj h X;refine aG.aR bj ⟨rfl,⟨n,_,_,g.aj⟩,?_⟩;rintro WE WC V2 R;have L:ai Wm WC:=by rw [R];exact hk _ _
  have c:ai z Wl:=(((K.new s).new t).new w).new B;refine ⟨⟨ai.aj L n,_,_,(g.bz L).aj⟩,bH.lQ (l.new c) (d.new c) h Wb (by omega) V2 R λap E WI Wp J V9=>?_⟩;obtain ⟨cl,M,_⟩:=(l.new (c.new h)).ex;have off:∀ {b:Nat} {cs:ax} {T:TypeId},T≠cz->av Wm b cs T->¬ aL pa b:=λY Wq Wt=>by obtain ⟨Wo,V6⟩:=fM M Wt;exact V6.ne Wq (λe=>Y e.symm) rfl
  refine ⟨⟨J.aj n (off (by decide) n),_,_,J.aj g.aj (off (by decide) g.aj)⟩,?_⟩;rw [bC (x:=(i:Int)+1) (by omega) (by omega)];refine ⟨W.length - (i+1),by omega,i+1,ap,E,_,rfl,by omega,by rw [<-hlen];rfl,V9,?_⟩;have e:(W.take i).map (vo j m)++[vo j m p]=(W.take (i+1)).map (vo j m):=by rw [fc,V_];simp
  rw [<-e];exact Wp
 ·have V8:i=W.length:=by omega
  subst V8;rw [hx] at l;rw [Rq];refine aC (nx I (Y.new (a.new d)) V5 (D.bz a).new (by omega) (by omega) l (by rw [ft];omega)) ?_;rintro v WH ⟨dB,dc,raw,rfl,V',_⟩;exact ⟨_,_,_,_,rfl,rfl,V'.of (a.new d) Wa⟩
end
section
def nz (j:b3) (bg:aY) (p:aK):aW:=lN j bg (p.bo * 8) (ix p)
theorem B5 (Wq:dh w0 u aH tb r m j V o) {bg:aY} (V_:dN bg.cn) {a:an} {n c:Nat} {W:List aK} (L:fh u a n W) (eW:r5 W) (F:∀ p ∈ W,∀ x ∈ hA p,ca x) :
  a9 249 [ptr aH,bg.val,.slice a n c] u λv bs=>∃ pa pc,v=.slice pa W.length pc/\ai u bs/\bH u bs pa W.length pc (W.map (nz j bg)):=by
 refine bc Tryz.func249 ?_;rw [ptr,Sj];have hlen:=L.len;have Wh:=eW.eD;rintro b1 w1 V2 M;obtain ⟨D,H⟩:=bl V2 M;have D:av w1 b1 bg.cells eI:=D;clear M;have Wu:=H.size;refine c2 mix (λk env z=>∃ (i:Nat) (pa:an) (pc:Nat) (Wi:ax),k=W.length - i/\i<=W.length/\env=wM ⟨aH,0,none⟩ ⟨b1,0,none⟩ pa i pc a n c n i Wi/\ai u z/\av z b1 bg.cells eI/\bH u z pa i pc ((W.take i).map (nz j bg))) W.length
  ⟨0,none,0,_,by omega,by omega,rfl,H,D,bH.nil _ _⟩ ?_
 rintro k env z ⟨i,pa,pc,Wi,rfl,WD,rfl,q,R,s⟩;rw [QD,hlen];have V8:=Wq.bz q;refine a8 (λWt=>?_) (λWr=>?_)
 ·obtain ⟨p,Z⟩:∃ p,W[i]?=some p:=⟨_,bD (by omega)⟩;obtain ⟨WF,Wv,Ww,Wx,Wy⟩:=eW.ok p (b7 Z);refine er (cells:=aK.cells) aK.len (by omega) (L.new q).rd Z rfl rfl λb WE V6 _=>aK.aR p ⟨V6,?_⟩
  refine ea (vs:=p.cells) rfl (aK.single _) λWk Wz Wp S Wa=>aK.aR p ⟨bJ S rfl,?_⟩
  refine aC (Cf Wz p Wy Wv) ?_;rintro v WA ⟨df,eN,rfl,V',P,_⟩;refine ⟨_,_,_,_,rfl,?_⟩;rintro We N;have I:ai WA We:=by rw [N];exact cE _
  clear N;have w:=V'.new I;have g:=Wa.new w;have V4:=V8.bz g;have U:=ai.aj w S;have A:=ai.aj g R;refine ⟨λy=>av y Wk p.cells et/\av y b1 bg.cells eI,⟨U,A⟩,aY.aR bg ⟨λy Wd=>bJ Wd.2 rfl,p.bo,λy Wd=>Wd.1.cell (i:=0) rfl,?_⟩⟩;refine aC (ra We Ww Wx) ?_;rintro v Wf ⟨rfl,Wg⟩;have h:ai We Wf:=by rw [Wg];exact ao.refl _ _
  clear Wg;have V5:=V4.bz h;have X:=ai.aj h U;have B:=ai.aj h A;refine ⟨_,rfl,⟨X,B⟩,?_⟩;have Q:bh Wf df (us (ix p)):=(a0.new (I.new h) P).rd;refine aC (x5 V5 V_ (p.bo * 8) Q rfl (a0.le P) (λe=>?_) (DZ (F p (b7 Z))) (by show 8<=1000000;omega)) ?_
  ·rcases Q with Y | ⟨dk,WG,Y,_⟩
   ·have:=congrArg List.length Y;rw [hE,p8] at this;exact fI this
   ·rw [e] at Y;cases Y
  rintro v Wj ⟨bj,rfl,Wc,l⟩;have t:=ai.aj l X;have d:=ai.aj l B;refine aG.aR bj ⟨rfl,⟨t,d⟩,?_⟩;rintro WC WB V3 O;have J:ai Wj WB:=by rw [O];exact hk _ _
  have f:ai z Wf:=g.new h;refine ⟨⟨ai.aj J t,ai.aj J d⟩,bH.lQ (s.new f) (q.new f) l Wc (by omega) V3 O λap E WH Wm G Wb=>?_⟩;obtain ⟨cl,K,_⟩:=(s.new (f.new l)).ex;have off:∀ {b:Nat} {cs:ax} {T:TypeId},T≠cz->av Wj b cs T->¬ aL pa b:=λWn Wo Ws=>by obtain ⟨Wl,V7⟩:=fM K Ws;exact V7.ne Wo (λe=>Wn e.symm) rfl
  have C:=G.aj d (off (by decide) d);refine ⟨⟨G.aj t (off (by decide) t),C⟩,?_⟩;rw [bC (x:=(i:Int)+1) (by omega) (by omega)];refine ⟨W.length - (i+1),by omega,i+1,ap,E,_,rfl,by omega,by rw [<-hlen];rfl,Wb,C,?_⟩;have e:(W.take i).map (nz j bg)++[nz j bg p]=(W.take (i+1)).map (nz j bg):=by rw [fc,Z];simp
  rw [<-e];exact Wm
 ·have V9:i=W.length:=by omega
  subst V9;rw [hx] at s;rw [QV];exact ⟨pa,pc,rfl,q,s⟩
end
section
noncomputable abbrev w3:Func:=f248
def qi (j:b3) (m:aY) (p:aK):aW:=mL j m (p.bo * 8) 1
def pZ (j:b3) (W:List aK) (ds:List aO) (i:Nat):List aK:=if dx ds i=eK (W.getD i hG).Head j.dead then [W.getD i hG] else []
def gq (j:b3) (W:List aK) (ds:List aO) (n:Nat):List aK:=((List.range n).map (pZ j W ds)).flatten
theorem AR (j:b3) (W:List aK) (ds:List aO) (n:Nat):gq j W ds (n+1)=gq j W ds n++pZ j W ds n:=by unfold gq;rw [ki];simp
theorem Bm (j:b3) (W:List aK) (ds:List aO) (n:Nat):(gq j W ds n).length<=n:=by
 induction n with
 |zero=>simp [gq]
 |succ n a=>
  rw [AR,dI];unfold pZ;split
  ·simp;omega
  ·simp;omega
def CD (A:a3) (w0 u:ak) (aH tb:Nat) (r:dt) (m:aY) (j:b3) (V:ga) (W:List aK) (R:cq) (v:a2) (bs:ak):Prop:=
 ∃ pa pc,v=.tuple #[.slice pa (gq j W R.done R.done.length).length pc,.bool R.ok]/\eH A w0 u aH tb u.heap.size r m j V R bs/\bh bs pa (h4 (gq j W R.done R.done.length)).flatten/\∀ k,aL pa k->u.heap.size<=k
theorem KH (V5:dh w0 u aH tb r m j V o) {b1:Nat} (Wk:av u b1 q.cells eo) {W:List aK} (P:fh u q.eu q.dO W) (eW:r5 W) {ds:List aO} {raw:List bO} {dB:an} {dc:Nat} (Wh:bh w0 dB (fP raw).flatten) (K:gW A w0 raw ds) (Ww:ds.length<=W.length) (ok:Bool) (V2:ax) {R:cB}
  (Wa:∀ bs pa pc,ai u bs->bh bs pa (h4 (gq j W ds ds.length)).flatten->(∀ k,aL pa k->u.heap.size<=k)->R (.tuple #[.slice pa (gq j W ds ds.length).length pc,.bool ok]) bs) :
  cv prog (.loop (sub (bp w3) [1,1,1,1,0,1,0,0])) (qy ⟨aH,0,none⟩ ⟨b1,0,none⟩ none 0 0 ok dB ds.length dc ds.length 0 V2)
   (aM 2 (aU (λenv w=>Go.bu.W prog (sub (bp w3) [1,1,1,1,1]) env (dD prog w3 R) w) (dD prog w3 R))) u:=by
 have Wi:raw.length=ds.length:=K.1;have Wp:=eW.eD;have V9:=V5.cf.dead;have ar:=V5.bM.dead;have hlen:=P.len;refine c2 mix (λk env z=>∃ (i:Nat) (pa:an) (pc:Nat) (V2:ax),k=ds.length - i/\i<=ds.length/\env=qy ⟨aH,0,none⟩ ⟨b1,0,none⟩ pa (gq j W ds i).length pc ok dB ds.length dc ds.length i V2/\ai u z/\a0 z et 9 pa (gq j W ds i).length pc (h4 (gq j W ds i)).flatten/\∀ k,aL pa k->u.heap.size<=k) ds.length
  ⟨0,none,0,_,by omega,by omega,rfl,ao.refl _ _,a0.nil _ _ _,λk Wa=>absurd Wa nA⟩ ?_
 rintro k env z ⟨i,pa,pc,V2,rfl,WI,rfl,f,l,t⟩;rw [Qc];have I:=V5.bz f;have Wy:=Bm j W ds i;refine a8 (λWc=>?_) (λWx=>?_)
 ·have M:i<ds.length:=by omega
  obtain ⟨d,J⟩:∃ d,raw[i]?=some d:=⟨_,bD (by omega)⟩;obtain ⟨x,Wq⟩:∃ x,ds[i]?=some x:=⟨_,bD M⟩;obtain ⟨p,Z⟩:∃ p,W[i]?=some p:=⟨_,bD (by omega)⟩;have O:W.getD i hG=p:=oG Z;have V8:=K.2 i d x J Wq;have L:dx ds i=d8 x:=by unfold dx;rw [dF,Wq];rfl
  obtain ⟨WB,WK,WL,WM,WN⟩:=eW.ok p (b7 Z);refine er (cells:=bO.cells) bO.len (by omega) (Wh.new I.new) J rfl Wi.symm λb WJ V7 _=>bO.aR d ⟨V7,?_⟩
  refine ea (vs:=d.cells) rfl (bO.single _) λWG WD Wv Wm Wd=>?_
  rintro Wo U;have N:ai WD Wo:=by rw [U];exact cE _
  clear U;have g:=Wd.new N;have Wl:=ai.aj N Wm;have Q:=ai.aj (f.new g) Wk;have F:=I.bz g;have B:=P.new (f.new g);refine ⟨λy=>ai Wo y,ao.refl _ _,_,_,_,λy Y=>(ai.aj Y Q).cell (i:=1) rfl,?_⟩;refine iW (cells:=aK.cells) aK.len (by omega) B.rd Z rfl hlen λWH WC V6=>aK.aR p ⟨λy Y=>kX (i:=0) λq v al=>by simpa using V6 y Y q v al,r.eO,λy Y=>(ai.aj Y F.aj).cell (i:=5) rfl,?_⟩
  rw [ar];refine aC (yH Wo p WB V9) ?_;rintro v WP ⟨rfl,s⟩;have G:=F.bz s;have Wn:=ai.aj s Wl;refine ⟨_,_,rfl,s,dY (λ_=>bO.aR d ⟨bJ Wn rfl,?_⟩) (λe=>absurd rfl e)⟩;refine aC (q9 (V8.az (ao.b4 G.new) λ_ _ e=>e)) ?_;rintro v WQ ⟨rfl,We⟩;have h:=s.new We;have c:=g.new h;have Wg:=ai.aj h Q;refine ⟨_,rfl,dY (λhe=>⟨_,_,_,Wg.cell (i:=1) rfl,?_⟩) (λhe=>?_)⟩
  ·have a:gq j W ds (i+1)=gq j W ds i++[p]:=by rw [AR];unfold pZ;rw [O,if_pos (by rw [L];exact he)]
   refine er (cells:=aK.cells) aK.len (by omega) (B.new h).rd Z rfl hlen λdq WO H _=>aK.aR p ⟨H,?_⟩
   rintro Wr WE V3 X;obtain ⟨D,C⟩:=bl V3 X;have D:av WE Wr p.cells et:=D;clear X;obtain ⟨inf,V_,Wj,S,V4⟩:=fO (T:=et) (z:=hG.val) (n:=9) (m:=72) (by kernel_rfl);refine rb (cells:=aK.cells) (sz:=9) aK.len aK.single Tryz.underlying37 V_ Wj (by rw [S];rfl) S (by decide) (by rw [V4];decide) (a0.new (c.new C) l) (l2:=[p]) (m:=1) (fm D rfl) rfl (by omega) λap E WF Ws Wt Wu=>?_
   rw [bC (x:=(i:Int)+1) (by omega) (by omega)];have Wf:ai u WF:=(f.new (c.new C)).trans Wt λk Wc e=>by have:=t k e;omega
   have WA:=(f.new c).size;have Wz:=C.size;refine ⟨ds.length - (i+1),by omega,i+1,ap,E,_,rfl,by omega,by rw [a,dI];rfl,Wf,?_,λk Wb=>?_⟩
   ·rw [a,dI];exact Ws
   ·rcases Wu k Wb with e | e
    ·exact t k e
    ·omega
  ·have a:gq j W ds (i+1)=gq j W ds i:=by rw [AR];unfold pZ;rw [O,if_neg (by rw [L];exact he),i']
   rw [bC (x:=(i:Int)+1) (by omega) (by omega)];exact ⟨ds.length - (i+1),by omega,i+1,pa,pc,_,rfl,by omega,by rw [a];rfl,f.new c,by rw [a];exact a0.new c l,t⟩
 ·have V':i=ds.length:=by omega
  subst V';rw [Qo];exact Wa z pa pc f l.rd t
end
section
def fp (j:b3) (m:aY) (W:List aK) (G:List (List aO)):cq:=bK G (W.map (qi j m))
theorem IJ (V8:dh w0 u aH tb r m j V (0,0)) (V7:eP A w0 u tb T G) (Wd:fY T) {W:List aK} (J:fh u q.eu q.dO W) (Wg:∀ k,aL q.eu k->k≠tb/\k≠aH) (eW:r5 W) :
  a9 248 [ptr aH,q.val] u (CD A w0 u aH tb r m j V W (fp j m W G)):=by
 refine bc Tryz.func248 ?_;rw [ptr,nl];have Wx:=V8.aj.lt;have Wz:=V7.aj.lt;have hlen:=J.len;have Ww:=eW.eD;rintro b1 w1 Wa V2;obtain ⟨B,c⟩:=bl Wa V2;have B:av w1 b1 q.cells eo:=B;clear V2;have Wo:=c.size;refine ⟨_,_,_,B.cell (i:=1) rfl,?_⟩;refine c2 mix (λk env z=>∃ (i:Nat) (pa:an) (pc:Nat) (WA:ax),k=W.length - i/\i<=W.length/\env=wG ⟨aH,0,none⟩ ⟨b1,0,none⟩ none 0 0 pa i pc q.eu q.dO q.gX q.dO i WA/\ai w1 z/\bH w1 z pa i pc ((W.take i).map (qi j m))) W.length
  ⟨0,none,0,_,by omega,by omega,rfl,ao.refl _ _,bH.nil _ _⟩ ?_
 rintro k env z ⟨i,pa,pc,WA,rfl,WV,rfl,d,w⟩;rw [Qb,hlen];have N:=V8.bz (c.new d);refine a8 (λWM=>?_) (λWL=>?_)
 ·obtain ⟨p,Wm⟩:∃ p,W[i]?=some p:=⟨_,bD (by omega)⟩;obtain ⟨WW,WX,WO,WP,WY⟩:=eW.ok p (b7 Wm);refine er (cells:=aK.cells) aK.len (by omega) ((J.new c).new d).rd Wm rfl rfl λb WN Wc _=>aK.aR p ⟨Wc,?_⟩
  refine ea (vs:=p.cells) rfl (aK.single _) λWE WR WK Wr Wk=>?_
  rintro Wt V3;have S:ai WR Wt:=by rw [V3];exact cE _
  clear V3;have E:=Wk.new S;have M:=N.bz E;have C:=ai.aj S Wr;refine ⟨λy=>av y WE p.cells et/\iQ r tb m j aH y,⟨C,_,_,M.aj⟩,aY.aR m ⟨λy V5=>by obtain ⟨_,WT,WN,V5⟩:=V5;exact bJ V5 rfl,p.bo,λy V5=>V5.1.cell (i:=0) rfl,?_⟩⟩;refine aC (ra Wt WO WP) ?_;rintro v WB ⟨rfl,Wu⟩;have I:ai Wt WB:=by rw [Wu];exact ao.refl _ _
  clear Wu;have H:=M.bz I;have V6:=ai.aj I C;refine ⟨_,rfl,⟨V6,_,_,H.aj⟩,?_⟩;refine aC (u1 H V8.ef (p.bo * 8) 1) ?_;rintro v WC ⟨bj,rfl,Wp,s⟩;have n:=H.bz s;have D:=ai.aj s V6;refine aG.aR bj ⟨rfl,⟨D,_,_,n.aj⟩,?_⟩;rintro WU WS Wb V4;have U:ai WC WS:=by rw [V4];exact hk _ _
  have g:ai z WB:=E.new I;refine ⟨⟨ai.aj U D,_,_,(n.bz U).aj⟩,bH.lQ (w.new g) (d.new g) s Wp (by omega) Wb V4 λap L WZ WI Q Wl=>?_⟩;obtain ⟨cl,X,_⟩:=(w.new (g.new s)).ex;have off:∀ {b:Nat} {cs:ax} {T:TypeId},T≠cz->av WC b cs T->¬ aL pa b:=λV7 WJ Wi=>by obtain ⟨WF,We⟩:=fM X Wi;exact We.ne WJ (λe=>V7 e.symm) rfl
  refine ⟨⟨Q.aj D (off (by decide) D),_,_,Q.aj n.aj (off (by decide) n.aj)⟩,?_⟩;rw [bC (x:=(i:Int)+1) (by omega) (by omega)];refine ⟨W.length - (i+1),by omega,i+1,ap,L,_,rfl,by omega,by rw [<-hlen];rfl,Wl,?_⟩;have e:(W.take i).map (qi j m)++[qi j m p]=(W.take (i+1)).map (qi j m):=by rw [fc,Wm];simp
  rw [<-e];exact WI
 ·have Wh:i=W.length:=by omega
  subst Wh;rw [hx] at w;rw [Qn];have F:=c.new d;refine aC (nx N (V7.new F) Wd (V8.bz c).new (by omega) (by omega) w (by rw [ft];omega)) ?_;rintro v Ws ⟨dB,dc,raw,rfl,a,Wn,f,K⟩;have P:=a.az;have a:eH A w0 u aH tb u.heap.size r m j V (fp j m W G) Ws:=eH.of a F Wo;have f:gW A w0 raw (fp j m W G).done:=f;have K:(fp j m W G).ok=true->raw.length=(W.map (qi j m)).length:=K;have Wf:(fp j m W G).done.length<=W.length:=by
   cases t:(fp j m W G).ok with
   |true=>rw [<-f.1,K t,ft];omega
   |false=>
    have:(fp j m W G).done=[]:=by
     unfold fp bK cg at t ⊢;split
     ·rfl
     split
     ·rfl
     ·rename_i V9 V_;rw [if_neg V9,if_neg V_] at t;cases t
    rw [this];simp
  refine ⟨_,_,_,_,rfl,?_⟩;show cv prog _ _ _ _;rw [f.1];have C:av Ws b1 q.cells eo:=P.aj (ai.aj d B) (by omega);have h:=(J.new c).new d;have Y:fh Ws q.eu q.dO W:=⟨h.rd.az P (hn h.rd λk Wj e=>by have:=Wg k Wj;rcases e with e | e;exact this.1 e;exact this.2 e),h.len,h.eD,h.u64⟩;have Wy:=a.az.size;refine KH a.eF C Y eW Wn f Wf _ _ (R:=CD A w0 u aH tb r m j V W (fp j m W G)) λbs pa pc o Z O=>?_
  obtain ⟨WD,V',Wq,l⟩:=a.fS;refine ⟨pa,pc,rfl,⟨a.az.new o,a.eF.bz o,WD,V'.new o,Wq,?_⟩,Z,λk Wi=>by have:=O k Wi;omega⟩;cases Wv:(fp j m W G).ask with
  |none=>rw [Wv] at l;exact l
  |some vs=>rw [Wv] at l;obtain ⟨WG,WQ,V9,V_,WH⟩:=l;exact ⟨WG,WQ,V9,V_,WH.new o⟩
end
section
theorem OS (h:∀ x ∈ L,ca x) (i:Nat):ca (L.getD i 0):=by
 rw [dF];cases a:L[i]? with
 |none=>exact hf
 |some x=>exact h x (b7 a)
theorem KQ (h:fN L lines=true) (hu:∀ x ∈ L,ca x):fy (cW L lines).1 (cW L lines).2 lines=0/\r5 (cW L lines).2/\∀ p ∈ (cW L lines).2,∀ x ∈ hA p,ca x:=by
 have hw:=h;unfold fN at hw;simp only [e1,decide_eq_true_eq,beq_iff_eq] at hw;have j:cW L lines=((L.drop 8).getD 0 0,hl (L.drop 8) ((L.drop 8).getD 1 0).toNat):=by unfold cW ew;rw [if_pos h,if_pos hw.2]
 have c:=hw.2;unfold eg at c;split at c
 ·omega
 split at c
 ·omega
 split at c
 ·omega
 split at c
 ·omega
 rename_i _ _ _ d;have d:fy ((L.drop 8).getD 0 0) (hl (L.drop 8) ((L.drop 8).getD 1 0).toNat) lines=0:=by omega
 rw [j];have ar:∀ x ∈ L.drop 8,ca x:=λx b=>hu x (oX b)
 obtain ⟨o,l,f,e,_⟩:=jj d;refine ⟨d,⟨l.2.2.2,λp a=>⟨(e p a).1,(e p a).2,(f p a).1,by have:=(f p a).2;omega,Dr ar _ p a⟩⟩,λp a x b=>?_⟩;obtain ⟨i,_,rfl⟩:=cT.1 a;have k:∀ y ∈ ((L.drop 8).drop (2+9 * i)).take 9,ca y:=λy n=>ar y (oX (tn n))
 have g:=OS k;have b:x ∈ [(((L.drop 8).drop (2+9 * i)).take 9).getD 2 0,(((L.drop 8).drop (2+9 * i)).take 9).getD 3 0,(((L.drop 8).drop (2+9 * i)).take 9).getD 4 0,(((L.drop 8).drop (2+9 * i)).take 9).getD 5 0,(((L.drop 8).drop (2+9 * i)).take 9).getD 6 0,(((L.drop 8).drop (2+9 * i)).take 9).getD 7 0,(((L.drop 8).drop (2+9 * i)).take 9).getD 8 0]:=b;simp only [e6,lp,or_false] at b;rcases b with rfl | rfl | rfl | rfl | rfl | rfl | rfl<;>exact g _
theorem bH.three {bE h bk r:ak} {v1 v2 g:aG} {s t y:aW} {b:Nat} (l:ai u bE) (n:cF (λk=>k<u.heap.size) bE v1 s) (f:ai bE h) (p:cF (λk=>k<bE.heap.size) h v2 t) (c:ai h bk) (q:cF (λk=>k<h.heap.size) bk g y) (C:b=bk.heap.size) (au:av r b (v1.cells++v2.cells++g.cells) cz) (j:ai bk r):bH u r (some ⟨b,0,none⟩) 3 3 [s,t,y]:=by
 have z:=l.size;have A:=f.size;have B:=c.size;have a:∀ k,aL (some ⟨b,0,none⟩) k->k=b:=λk i=>by obtain ⟨o,x⟩:=i;simp at x;exact x.1.symm
 have w:(v1.cells++v2.cells++g.cells).length=27:=by rw [dI,dI,aG.len,aG.len,aG.len]
 refine ⟨⟨[v1,v2,g],⟨by simp [dP];rfl,.inr ⟨b,v1.cells++v2.cells++g.cells,rfl,au,cQ 3,by decide,w,?_⟩⟩,ep.app (r1:=[v1]) (v1:=[s]) (ep.one ?_) (ep.app (r1:=[v2]) (v1:=[t]) (ep.one ?_) (ep.one ?_))⟩,rfl,λk i=>by rw [a k i];omega⟩
 ·rw [hS (by rw [w];decide)];simp [dP]
 ·exact n.az (ao.b4 ((f.new c).new j)) λk d e=>by
   rcases e with e | e
   ·exact e
   ·have:=a k e;omega
 ·exact p.az (ao.b4 (c.new j)) λk d e=>by
   rcases e with e | e
   ·omega
   ·have:=a k e;omega
 ·exact q.az (ao.b4 j) λk d e=>by
   rcases e with e | e
   ·omega
   ·have:=a k e;omega
end
end Go.Proofs.YtmkljjbioomepaaGreat
