import Derived.Test.YtmkljjbioomepaaGreata30
import Derived.Test.YtmkljjbioomepaaGreatProg
import Derived.Test.YtmkljjbioomepaaGreata03
set_option linter.all false
set_option maxHeartbeats 4000000
set_option maxRecDepth 100000
namespace Go.Proofs.YtmkljjbioomepaaGreat
open Go.Proofs.Tryz Go.b8
variable {A:bB} {G:List (List a_)} {L:bR} {T:kb} {V:kv} {j:c8} {lines:Int} {m:bp} {o:Int×Int} {q:c0} {r:fT} {a2 tb:Nat} {u w0:av}
section
theorem XF (h:jY L lines=true):1<=(eS L lines).1/\(eS L lines).1<1073741824:=by
 have hw:=h;unfold jY at hw;simp only [iz,decide_eq_true_eq,beq_iff_eq] at hw;unfold eS hv;rw [if_pos h,if_pos hw.2];have al:=hw.2;unfold hf at al;split at al
 ·omega
 split at al
 ·omega
 split at al
 ·omega
 split at al
 ·omega
 rename_i _ _ _ aL;have aL:jD ((L.drop 8).getD 0 0) (mG (L.drop 8) ((L.drop 8).getD 1 0).toNat) lines=0:=by omega
 obtain ⟨_,aX,_⟩:=pM aL;exact ⟨aX.1,aX.2.1⟩
theorem anQ (x:Int):0<=(n2 x).1/\(n2 x).1<1073741824:=by
 unfold n2;split
 ·rename_i h;exact ⟨by show 0<=fr .u64 x 2;omega,h.2.1⟩
 ·exact ⟨by decide,by decide⟩
def wF (a b:Int):Int:=if a<b then b else a
def m' (lines g:Int) (L:bR):Int:=
 let bs:=if (n2 (L.getD 0 0)).2=true then wF g (n2 (L.getD 0 0)).1 else g
 if jY L lines=true then wF bs (eS L lines).1 else bs
def pd (clock:Int):Int:=if 1073741823<clock then 1073741823 else clock
def qt (lines clock:Int) (bj:List bR):Int:=bj.foldl (m' lines) (pd clock)+1
theorem ZH {a b:Int} (af:0<=a/\a<1073741824) (al:0<=b/\b<1073741824):0<=wF a b/\wF a b<1073741824:=by unfold wF;split<;>omega
theorem ajJ {g:Int} (h:0<=g/\g<1073741824):0<=m' lines g L/\m' lines g L<1073741824:=by
 unfold m';have af:0<=(if (n2 (L.getD 0 0)).2=true then wF g (n2 (L.getD 0 0)).1 else g)/\(if (n2 (L.getD 0 0)).2=true then wF g (n2 (L.getD 0 0)).1 else g)<1073741824:=by
  split
  ·exact ZH h (anQ _)
  ·exact h
 simp only;split
 ·rename_i hw;have:=XF hw;exact ZH af ⟨by omega,this.2⟩
 ·exact af
theorem ajK (ab:fy w0 u a2 tb r m j V o) {bj:List bR} (au:s4 w0 u a2 tb V bj) (m6:bj.length<=100) (cj:∀ L ∈ bj,L.length=120) (c7:dp V.clock) :
  bK 184 [ptr a2] u λv b_=>v=.int .i64 (qt j.lines V.clock bj)/\ai u b_:=by
 refine bO Tryz.func184 ?_;rw [ptr,awb];obtain ⟨⟨ep,wg,pV,UT,yv⟩,pU⟩:=au;have D':=ab.cH.lines;have GO:0<=pd V.clock/\pd V.clock<1073741824:=by have:=c7.1;unfold pd;split<;>omega
 refine ⟨_,ab.an.cell (i:=14) rfl,_,_,_,ab.an.cell (i:=13) rfl,?_⟩;rw [show IntKind.i64.wrap (if (1073741823:Int)<V.clock then (1073741823:Int) else V.clock)=pd V.clock from cn (by unfold pd at GO;omega) (by unfold pd at GO;omega)];refine e2 mix (λq env z=>∃ (i:Nat) (aT:aH),q=bj.length - i/\i<=bj.length/\env=zG ⟨a2,0,none⟩ ((bj.take i).foldl (m' j.lines) (pd V.clock)) V.jw V.rn V.lc V.rn i aT/\ai u z/\0<=(bj.take i).foldl (m' j.lines) (pd V.clock)/\(bj.take i).foldl (m' j.lines) (pd V.clock)<1073741824) bj.length
  ⟨0,_,by omega,by omega,rfl,ay.refl _ _,GO.1,GO.2⟩ ?_
 rintro q env z ⟨i,aT,rfl,aD,rfl,da,qw⟩;rw [aus];have hP:=ab.ck da;refine bL (λaK=>?_) (λhQ=>?_)
 ·have hR:i<bj.length:=by omega
  obtain ⟨s,aX⟩:∃ s,ep[i]?=some s:=⟨_,cp (by omega)⟩;obtain ⟨L,bE⟩:∃ L,bj[i]?=some L:=⟨_,cp hR⟩;have oM:=yv i s L aX bE;have Kq:=oM.new hP.new;have Od:=cj L (dn bE);have qz:(bj.take (i+1)).foldl (m' j.lines) (pd V.clock)=m' j.lines ((bj.take i).foldl (m' j.lines) (pd V.clock)) L:=by rw [iW,bE,Q8];rfl
  generalize (bj.take i).foldl (m' j.lines) (pd V.clock)=g at qw qz;have more:∀ {t:Int} {cZ:av} (aT:aH),t=m' j.lines g L->ai u cZ->∃ cW,cW<bj.length - i/\∃ (kJ:Nat) (nU:aH),cW=bj.length - kJ/\kJ<=bj.length/\zG ⟨a2,0,none⟩ t V.jw V.rn V.lc V.rn (IntKind.i64.wrap (i+1)) aT=zG ⟨a2,0,none⟩ ((bj.take kJ).foldl (m' j.lines) (pd V.clock)) V.jw V.rn V.lc V.rn kJ nU/\ai u cZ/\0<=(bj.take kJ).foldl (m' j.lines) (pd V.clock)/\(bj.take kJ).foldl (m' j.lines) (pd V.clock)<1073741824:=by intro t cZ aT aZ aj;rw [cn (x:=(i:Int)+1) (by omega) (by omega)];have gE:=ajJ (lines:=j.lines) (L:=L) qw;exact ⟨bj.length - (i+1),by omega,i+1,aT,rfl,by omega,by rw [aZ,qz];rfl,aj,by rw [qz];exact gE.1,by rw [qz];exact gE.2⟩
  refine hq (cells:=wG) (sz:=1) (λ_=>rfl) (by decide) (wg.new da) aX rfl pV λb' gk _ gD=>⟨s.a,s.n,s.c,gD 0 _ rfl,?_⟩
  refine xS Kq.rd (i:=0) (by omega) Kq.len rfl λa4 aEQ hw=>⟨_,hw _ (ay.refl _ _),?_⟩
  have UV:dp (L.getD 0 0):=by
   cases L with
   |nil=>exact mw
   |cons a l=>exact oM.u64 a (by simp)
  refine aR (ahO z UV) ?_;rintro v e' ⟨rfl,rfl⟩;refine ⟨_,_,rfl,kk (λjc=>?_) (λjc=>?_)⟩
  all_goals
   refine ⟨r.mB,hP.an.cell (i:=2) rfl,?_⟩;rw [D'];refine aR (MJ j.lines Kq) ?_;rintro v dq ⟨pb,bo,rfl,a5,v9,UD⟩;refine c0.bd ⟨(eS L j.lines).1,pb,(eS L j.lines).2.length,bo⟩ ⟨_,rfl,?_⟩;refine g0 (vs:=c0.cells ⟨(eS L j.lines).1,pb,(eS L j.lines).2.length,bo⟩) rfl (c0.single _) λaP h5 cv cx bf=>?_
   have aj:=da.new (a5.new bf);refine kk (λcG=>⟨_,cx.cell (i:=0) rfl,more _ ?_ aj⟩) (λcG=>more _ ?_ aj)
  ·unfold m';simp only [jc,cG,if_true];rfl
  ·unfold m';simp only [jc,cG,if_true];rfl
  ·unfold m';simp only [jc,cG,if_true];rfl
  ·unfold m';simp only [jc,cG];rfl
 ·have g2:i=bj.length:=by omega
  subst g2;rw [nx] at qw ⊢;rw [auI];rw [cn (by omega) (by omega)];exact ⟨rfl,da⟩
end
section
open IntKind
variable (w:av) (R:dW) {a b c d e f:Nat} {A B:bh} {s t u:ax} {i k l m:Int} {j:aB}
def Jc (cJ:bh) (eV:ax) (a b:Nat) (dE s8:Int) (rz:ax) (c d:Nat) (f:ax) (g h:Nat) (i k:Int) (j:aB):aB:=.pointer (some cJ)::ag j 0 4 (ad eV a b::ag j 4 1 (I dE::ah s8::ad rz c d::ag j 5 31 (ad f g h::I i::I k::ag j 36 51 [])))
def SJ (a:bh) (eV:ax) (b c:Nat) (dE s8:Int) (rz:ax) (d f:Nat) (j:aB):aB:=.pointer (some a)::ag j 0 4 (ad eV b c::ag j 4 1 (I dE::ah s8::ad rz d f::ag j 5 85 []))
theorem av0 (p:c0):bS prog f227 [bM a,p.val] R w=(bb w p.cells.toArray 271 λj u=>nq u (ae j 0) λr=>fu 247 #[bM a,r.val] u λe q=>cond (!e) (R (U false) q) (nq q (ae j 0) λv=>p7 248 #[bM a,v.val] q λb c d f s=>cond (!f) (R (U false) s) (cond ((c:Int) == 0) (R (U true) s) (dP s λy o=>eG o (ae a 5) λg=>eG o (ae j 0) λh=>dI 225 #[I g] y λi t=>o t/\u' t (ae a 3) λn=>hJ 216 #[n.val] t λk l m x=>dT prog (e0 f227 [1,1,1,1,1,1,1,0,1,0,0]) (Jc (ae a 0) b c d i (u64.wrap h) none 0 0 k l m (l:Nat) 0 (p.val::undef::jp (ae j 0)::U false::U f::bQ 2 (jp (ae a 0)::r.val::U e::U (!e)::.tuple #[ad b c d,U f]::jp (ae a 0)::v.val::.tuple #[ad b c d,U f]::ad b c d::U f::U f::U (!f)::ad b c d::eZ c::U ((c:Int) == 0)::jp (ae a 0)::jp (ae a 0)::jp (ae a 0)::jp (ae a 5)::I g::I i::jp (ae j 0)::I h::ah (u64.wrap h)::jp (ae a 0)::jp (ae a 0)::jp (ae a 0)::jp (ae a 3)::n.val::bQ 51 []))) (a8 0 (ba f227 [1,1,1,1,1,1,1,1] R)) x)))):=by kernel_rfl
theorem aup (E:aB->aV):W prog (sb f227 [1,1,1,1,1,1,1,0,1,0,0]) (Jc A s a b i k t c d u e f l m j) (bk E (a8 0 (ba f227 [1,1,1,1,1,1,1,1] R))) w=(cond (m<l) (cb u e m 3 λbF=>ot w bF λr=>bb w #[I 0,I 0,U false] 116 λB M=>bJ M (ae B 0) 0 r.cells λD=>ot D (ae B 0) λF=>hJ 249 #[.pointer (some A),F.val,ad s a b] D λx z n O=>fk 125 (ad t c d) (ad x z n) O λy o p C=>ot C (ae B 0) λbG=>bb C #[ah k] 30 λG N=>hX 250 #[.pointer (some A),bG.val,I i,ad (b7 G) 1 1] N λv K=>bb K v.cells.toArray 158 λH P=>fk 125 (ad y o p) (ad (b7 H) 1 1) P λq g h L=>E (Jc A s a b i k q g h u e f l (i64.wrap (m+1)) (ag j 0 6 (jp (ae B 0)::ag j 7 29 (U (m<l)::jp bF::r.val::ad t c d::jp A::F.val::ad s a b::ad x z n::ad y o p::ad y o p::jp A::bG.val::I i::ah k::ad (b7 G) 1 1::v.val::ad (b7 H) 1 1::ad q g h::I (i64.wrap (m+1))::ag j 55 32 [])))) L) (W prog (sb f227 [1,1,1,1,1,1,1,1]) (SJ A s a b i k t c d (ag j 0 36 (ad u e f::I l::I m::U (m<l)::ag j 37 50 []))) (c3 f227 R) w)):=by kernel_rfl
theorem avj:W prog (sb f227 [1,1,1,1,1,1,1,1]) (SJ A s a b i k t c d j) (c3 f227 R) w=(p7 221 #[.pointer (some A),ad t c d] w λg h u D K=>cond (!D) (R (U false) K) (dP K λQ B=>mu B (cX A 9) λV=>mu B (cX A 9) λbG=>bb Q #[ah k] 30 λS P=>B P/\hX 250 #[.pointer (some A),V.val,I i,ad (b7 S) 1 1] P λG E=>B E/\(bb E G.cells.toArray 158 λT O=>B O/\hJ 249 #[.pointer (some A),bG.val,ad s a b] O λl m n bF=>B bF/\fk 125 (ad (b7 T) 1 1) (ad l m n) bF λY o p H=>B H/\p7 221 #[.pointer (some A),ad Y o p] H λq r e f F=>B F/\R (U f) F)/\hJ 249 #[.pointer (some A),bG.val,ad s a b] E λv x y N=>B N/\bb N G.cells.toArray 158 λfS M=>B M/\fk 125 (ad (b7 fS) 1 1) (ad v x y) M λz X Z L=>B L/\p7 221 #[.pointer (some A),ad z X Z] L λe7 e_ ee e9 C=>B C/\R (U e9) C)):=by kernel_rfl
def Jh (cJ:bh) (eV:ax) (a b:Nat) (c:ax) (d f:Nat) (g h:Int) (j:aB):aB:=.pointer (some cJ)::ag j 0 4 (ad eV a b::ag j 4 7 (ad c d f::I g::I h::ag j 11 38 []))
def adZ (a:bh) (eV:ax) (b c:Nat) (j:aB):aB:=.pointer (some a)::ag j 0 4 (ad eV b c::ag j 4 48 [])
theorem awr (f:c0):bS prog f229 [bM a,f.val] R w=(bb w f.cells.toArray 271 λe g=>de g (ae e 1) λd b c=>dT prog (e0 f229 [1,1,0,1,0,0]) (Jh (ae a 0) none 0 0 d b c (b:Nat) 0 (f.val::undef::jp (ae e 0)::U false::bQ 6 (jp (ae e 1)::bQ 38 []))) (a8 0 (ba f229 [1,1,1] R)) g):=by kernel_rfl
theorem auJ (z:aB->aV):W prog (sb f229 [1,1,0,1,0,0]) (Jh A s a b t c d i k j) (bk z (a8 0 (ba f229 [1,1,1] R))) w=(cond (k<i) (cb t c k 9 λC=>mS w C λr=>bb w #[I 0,ah 0,ah 0,ah 0,ah 0,ah 0,ah 0,ah 0,ah 0] 73 λv K=>bJ K (ae v 0) 0 r.cells λbG=>dP bG λM u=>Lq u (ae v 0) λB=>eG u (cX A 5) λf=>mR 211 #[B.val,I f] M λh l F=>cond (l == 0) (dP F λL x=>mu x (cX A 9) λe=>eG x (ae v 0) λm=>qG x (ae v 1) λn=>dI 108 #[I m] L λo D=>x D/\hX 223 #[.pointer (some A),e.val,I o,ah h,ah n] D λg bF=>x bF/\bb bF g.cells.toArray 158 λG E=>x E/\fk 125 (ad s a b) (ad (b7 G) 1 1) E λy p q H=>x H/\z (Jh A y p q t c d i (i64.wrap (k+1)) (ag j 0 5 (jp (ae v 0)::ah h::I l::aW j 8::aW j 9::aW j 10::U (k<i)::jp C::r.val::.tuple #[ah h,I l]::B.val::jp A::jp A::jp A::cz A 5::I f::.tuple #[ah h,I l]::ah h::I l::I l::U ((l:Int) == 0)::ad s a b::jp A::jp A::jp A::cz A 9::e.val::jp (ae v 0)::I m::I o::ah h::jp (ae v 1)::ah n::g.val::ad (b7 G) 1 1::ad y p q::I (i64.wrap (k+1))::ag j 42 7 []))) H) (z (Jh A s a b t c d i (i64.wrap (k+1)) (ag j 0 5 (jp (ae v 0)::ah h::I l::aW j 8::aW j 9::aW j 10::U (k<i)::jp C::r.val::.tuple #[ah h,I l]::B.val::jp A::jp A::jp A::cz A 5::I f::.tuple #[ah h,I l]::ah h::I l::I l::U ((l:Int) == 0)::ag j 26 15 (I (i64.wrap (k+1))::ag j 42 7 [])))) F)) (W prog (sb f229 [1,1,1]) (adZ A s a b (ag j 0 11 (ad t c d::I i::I k::U (k<i)::ag j 12 37 []))) (c3 f229 R) w)):=by kernel_rfl
theorem avN:W prog (sb f229 [1,1,1]) (adZ A s a b j) (c3 f229 R) w=(p7 221 #[.pointer (some A),ad s a b] w λd f g h c=>R (U h) c):=by kernel_rfl
def NO (cJ dS:bh) (dE:ax) (a b:Nat) (c:ax) (d f:Nat) (g h:Int) (j:aB):aB:=.pointer (some cJ)::ag j 0 3 (.pointer (some dS)::ag j 3 2 (ad dE a b::ag j 5 4 (ad c d f::I g::I h::ag j 9 20 [])))
def adY (dE:ax) (a b:Nat) (j:aB):aB:=ag j 0 7 (ad dE a b::ag j 7 27 [])
theorem ol (d:bp):bS prog f249 [bM a,d.val,ad s b c] R w=(bb w d.cells.toArray 116 λe f=>dT prog (e0 f249 [1,1,0,1,0,0]) (NO (ae a 0) (ae e 0) none 0 0 s b c (b:Nat) 0 (d.val::ad s b c::bQ 2 (bC::bQ 24 []))) (a8 0 (ba f249 [1,1,1] R)) f):=by kernel_rfl
theorem auW (C:aB->aV):W prog (sb f249 [1,1,0,1,0,0]) (NO A B s a b t c d i k j) (bk C (a8 0 (ba f249 [1,1,1] R))) w=(cond (k<i) (cb t c k 9 λF=>mS w F λr=>bb w #[I 0,ah 0,ah 0,ah 0,ah 0,ah 0,ah 0,ah 0,ah 0] 73 λu K=>bJ K (ae u 0) 0 r.cells λz=>mS z (ae u 0) λD=>HB 244 #[D.val] z λf g l m L=>dP L λbG h=>mu h B λG=>eG h (ae u 0) λn=>dI 108 #[I n] bG λo H=>h H/\hX 250 #[.pointer (some A),G.val,I o,ad f g l] H λe x=>h x/\bb x e.cells.toArray 158 λE bF=>h bF/\fk 125 (ad s a b) (ad (b7 E) 1 1) bF λv p q y=>h y/\C (NO A B v p q t c d i (i64.wrap (k+1)) (ag j 0 6 [jp (ae u 0),ad f g l,I m,U (k<i),jp F,r.val,.tuple #[ad f g l,I m],D.val,.tuple #[ad f g l,I m],ad f g l,I m,ad s a b,jp A,G.val,jp (ae u 0),I n,I o,ad f g l,e.val,ad (b7 E) 1 1,ad v p q,I (i64.wrap (k+1)),aW j 28])) y) (W prog (sb f249 [1,1,1]) (adY s a b (jp A::aW j 0::aW j 1::aW j 2::jp B::ag j 3 6 (ad t c d::I i::I k::U (k<i)::ag j 10 19 []))) (c3 f249 R) w)):=by kernel_rfl
theorem avb:W prog (sb f249 [1,1,1]) (adY s a b j) (c3 f249 R) w=(R (ad s a b) w):=by kernel_rfl
end
section
def L9 (j:c8) (m:bp) (p:a6):bn:=F8 j m (p.b5 * 8) (ii p.Head j.dead) p.Head
def IU (j:c8) (m:bp) (W:List a6) (G:List (List a_)):dM:=cE G (W.map (L9 j m))
structure Gd (W:List a6):Prop where
 hH:W.length<=12
 ok:∀ p ∈ W,vf p.Head=true/\sF p.Head=true/\96<=p.b5/\p.b5<256/\dp p.Head
theorem anR (ab:fy w0 u a2 tb r m j V (0,0)) (bq:h2 A w0 u tb T G) (c7:kl T) {W:List a6} (dH:jd u q.hO q.gO W) (ig:Gd W) :
  bK 229 [ptr a2,q.val] u (tR A w0 u a2 tb r m j V (IU j m W G)):=by
 refine bO Tryz.func229 ?_;rw [ptr,awr];have tv:=ab.an.lt;have yD:=bq.an.lt;have hz:=ab.du.dead;have aC:=ab.cH.dead;have hlen:=dH.len;have m6:=ig.hH;rintro b1 w1 bA br;obtain ⟨bm,a1⟩:=b4 bA br;have bm:aF w1 b1 q.cells ho:=bm;clear br;have fI:=a1.size;refine ⟨_,_,_,bm.cell (i:=1) rfl,?_⟩;refine e2 mix (λk env z=>∃ (i:Nat) (pa:ax) (pc:Nat) (aT:aH),k=W.length - i/\i<=W.length/\env=Jh ⟨a2,0,none⟩ pa i pc q.hO q.gO q.mC q.gO i aT/\ai w1 z/\cy w1 z pa i pc ((W.take i).map (L9 j m))) W.length
  ⟨0,none,0,_,by omega,by omega,rfl,ay.refl _ _,cy.nil _ _⟩ ?_
 rintro k env z ⟨i,pa,pc,aT,rfl,aD,rfl,da,d'⟩;rw [auJ,hlen];have hP:=ab.ck (a1.new da);refine bL (λaK=>?_) (λhQ=>?_)
 ·obtain ⟨p,ar⟩:∃ p,W[i]?=some p:=⟨_,cp (by omega)⟩;obtain ⟨mo,mq,ru,tK,Hp⟩:=ig.ok p (dn ar);refine hq (cells:=a6.cells) a6.len (by omega) ((dH.new a1).new da).rd ar rfl rfl λb gk gD _=>a6.bd p ⟨gD,?_⟩
  refine g0 (vs:=p.cells) rfl (a6.single _) λbT e' ej cx bf=>?_
  rintro dq cG;have a5:ai e' dq:=by rw [cG];exact eh _
  clear cG;have gC:=hP.ck (bf.new a5);have bP:=ai.an a5 cx;refine ⟨λy=>ai dq y,ay.refl _ _,a6.bd p ⟨λy az=>cD (ai.an az bP) rfl,r.iq,λy az=>(ai.an az gC.an).cell (i:=5) rfl,?_⟩⟩;rw [aC];refine aR (Ri dq p mo hz) ?_;rintro v hh ⟨rfl,bz⟩;have m4:=gC.ck bz;have dk:=ai.an bz bP;refine ⟨_,_,rfl,gX (λ_=>?_) (λe=>absurd rfl e)⟩;rintro gK eO;have bH:ai hh gK:=by rw [eO];exact eh _
  clear eO;have mH:=m4.ck bH;have dL:=ai.an bH dk;refine ⟨λy=>aF y bT p.cells hs/\o7 r tb m j a2 y,⟨dL,_,_,mH.an⟩,bp.bd m ⟨λy az=>by obtain ⟨_,iK,gk,az⟩:=az;exact cD az rfl,p.b5,λy az=>az.1.cell (i:=0) rfl,p.Head,λy az=>az.1.cell (i:=1) rfl,?_⟩⟩;refine aR (Fo gK ru tK) ?_;rintro v jq ⟨rfl,pK⟩;have cg:ai gK jq:=by rw [pK];exact ay.refl _ _
  clear pK;have oc:=mH.ck cg;have e4:=ai.an cg dL;refine ⟨_,rfl,⟨e4,_,_,oc.an⟩,?_⟩;refine aR (MK oc ab.hd (p.b5 * 8) (Zl p.Head j.dead) Hp) ?_;rintro v nw ⟨bX,rfl,d_,dg⟩;have uH:=oc.ck dg;have fQ:=ai.an dg e4;refine a0.bd bX ⟨rfl,⟨fQ,_,_,uH.an⟩,?_⟩;rintro x5 o0 mf jn;have eT:ai nw o0:=by rw [jn];exact mE _ _
  have Ea:ai z jq:=(((bf.new a5).new bz).new bH).new cg;refine ⟨⟨ai.an eT fQ,_,_,(uH.ck eT).an⟩,cy.u9 (d'.new Ea) (da.new Ea) dg d_ (by omega) mf jn λap bU y9 h4 fK gJ=>?_⟩;obtain ⟨dD,cV,_⟩:=(d'.new (Ea.new dg)).ex;have off:∀ {b:Nat} {cs:aH} {T:TypeId},T≠d8->aF nw b cs T->¬ a7 pa b:=λbq ak J=>by obtain ⟨mY,dG⟩:=jX cV J;exact dG.ne ak (λe=>bq e.symm) rfl
  refine ⟨⟨fK.an fQ (off (by decide) fQ),_,_,fK.an uH.an (off (by decide) uH.an)⟩,?_⟩;rw [cn (x:=(i:Int)+1) (by omega) (by omega)];refine ⟨W.length - (i+1),by omega,i+1,ap,bU,_,rfl,by omega,by rw [<-hlen];rfl,gJ,?_⟩;have e:(W.take i).map (L9 j m)++[L9 j m p]=(W.take (i+1)).map (L9 j m):=by rw [iW,ar];simp
  rw [<-e];exact h4
 ·have g2:i=W.length:=by omega
  subst g2;rw [nx] at d';rw [avN];refine aR (yN hP (bq.new (a1.new da)) c7 (ab.ck a1).new (by omega) (by omega) d' (by rw [jS];omega)) ?_;rintro v ff ⟨f8,dc,raw,rfl,iw,_⟩;exact ⟨_,_,_,_,rfl,rfl,iw.of (a1.new da) fI⟩
end
section
def yO (j:c8) (bV:bp) (p:a6):bn:=u3 j bV (p.b5 * 8) (oE p)
theorem XG (ab:fy w0 u a2 tb r m j V o) {bV:bp} (tp:gF bV.dJ) {a:ax} {n c:Nat} {W:List a6} (dH:jd u a n W) (ig:Gd W) (TH:∀ p ∈ W,∀ x ∈ mZ p,dp x) :
  bK 249 [ptr a2,bV.val,.slice a n c] u λv b_=>∃ pa pc,v=.slice pa W.length pc/\ai u b_/\cy u b_ pa W.length pc (W.map (yO j bV)):=by
 refine bO Tryz.func249 ?_;rw [ptr,ol];have hlen:=dH.len;have m6:=ig.hH;rintro b1 w1 bA br;obtain ⟨bm,a1⟩:=b4 bA br;have bm:aF w1 b1 bV.cells hN:=bm;clear br;have fI:=a1.size;refine e2 mix (λk env z=>∃ (i:Nat) (pa:ax) (pc:Nat) (aT:aH),k=W.length - i/\i<=W.length/\env=NO ⟨a2,0,none⟩ ⟨b1,0,none⟩ pa i pc a n c n i aT/\ai u z/\aF z b1 bV.cells hN/\cy u z pa i pc ((W.take i).map (yO j bV))) W.length
  ⟨0,none,0,_,by omega,by omega,rfl,a1,bm,cy.nil _ _⟩ ?_
 rintro k env z ⟨i,pa,pc,aT,rfl,aD,rfl,da,Ve,d'⟩;rw [auW,hlen];have hP:=ab.ck da;refine bL (λaK=>?_) (λhQ=>?_)
 ·obtain ⟨p,ar⟩:∃ p,W[i]?=some p:=⟨_,cp (by omega)⟩;obtain ⟨mo,mq,ru,tK,Hp⟩:=ig.ok p (dn ar);refine hq (cells:=a6.cells) a6.len (by omega) (dH.new da).rd ar rfl rfl λb gk gD _=>a6.bd p ⟨gD,?_⟩
  refine g0 (vs:=p.cells) rfl (a6.single _) λbT e' ej cx bf=>a6.bd p ⟨cD cx rfl,?_⟩
  refine aR (XS e' p Hp mq) ?_;rintro v dq ⟨fw,h0,rfl,a5,wo,_⟩;refine ⟨_,_,_,_,rfl,?_⟩;rintro hh eE;have bz:ai dq hh:=by rw [eE];exact eh _
  clear eE;have jG:=a5.new bz;have yw:=bf.new jG;have m4:=hP.ck yw;have dk:=ai.an jG cx;have oQ:=ai.an yw Ve;refine ⟨λy=>aF y bT p.cells hs/\aF y b1 bV.cells hN,⟨dk,oQ⟩,bp.bd bV ⟨λy az=>cD az.2 rfl,p.b5,λy az=>az.1.cell (i:=0) rfl,?_⟩⟩;refine aR (Fo hh ru tK) ?_;rintro v gK ⟨rfl,l_⟩;have bH:ai hh gK:=by rw [l_];exact ay.refl _ _
  clear l_;have mH:=m4.ck bH;have dL:=ai.an bH dk;have om:=ai.an bH oQ;refine ⟨_,rfl,⟨dL,om⟩,?_⟩;have kZ:bW gK fw (us (oE p)):=(bu.new (bz.new bH) wo).rd;refine aR (Qy mH tp (p.b5 * 8) kZ rfl (bu.le wo) (λe=>?_) (Zz (TH p (dn ar))) (by show 8<=1000000;omega)) ?_
  ·rcases kZ with aN | ⟨fD,P9,aN,_⟩
   ·have:=congrArg List.length aN;rw [m9,CZ] at this;exact jR this
   ·rw [e] at aN;cases aN
  rintro v jq ⟨bX,rfl,d_,cg⟩;have e4:=ai.an cg dL;have Ak:=ai.an cg om;refine a0.bd bX ⟨rfl,⟨e4,Ak⟩,?_⟩;rintro x5 o0 mf jn;have eT:ai jq o0:=by rw [jn];exact mE _ _
  have q':ai z gK:=yw.new bH;refine ⟨⟨ai.an eT e4,ai.an eT Ak⟩,cy.u9 (d'.new q') (da.new q') cg d_ (by omega) mf jn λap bU y9 h4 fK gJ=>?_⟩;obtain ⟨dD,cV,_⟩:=(d'.new (q'.new cg)).ex;have off:∀ {b:Nat} {cs:aH} {T:TypeId},T≠d8->aF jq b cs T->¬ a7 pa b:=λbq ak J=>by obtain ⟨mY,dG⟩:=jX cV J;exact dG.ne ak (λe=>bq e.symm) rfl
  have K3:=fK.an Ak (off (by decide) Ak);refine ⟨⟨fK.an e4 (off (by decide) e4),K3⟩,?_⟩;rw [cn (x:=(i:Int)+1) (by omega) (by omega)];refine ⟨W.length - (i+1),by omega,i+1,ap,bU,_,rfl,by omega,by rw [<-hlen];rfl,gJ,K3,?_⟩;have e:(W.take i).map (yO j bV)++[yO j bV p]=(W.take (i+1)).map (yO j bV):=by rw [iW,ar];simp
  rw [<-e];exact h4
 ·have g2:i=W.length:=by omega
  subst g2;rw [nx] at d';rw [avb];exact ⟨pa,pc,rfl,da,d'⟩
end
section
noncomputable abbrev N5:Func:=f248
def C9 (j:c8) (m:bp) (p:a6):bn:=wW j m (p.b5 * 8) 1
def CS (j:c8) (W:List a6) (ds:List a_) (i:Nat):List a6:=if fY ds i=ii (W.getD i nf).Head j.dead then [W.getD i nf] else []
def k1 (j:c8) (W:List a6) (ds:List a_) (n:Nat):List a6:=((List.range n).map (CS j W ds)).flatten
theorem Wr (j:c8) (W:List a6) (ds:List a_) (n:Nat):k1 j W ds (n+1)=k1 j W ds n++CS j W ds n:=by unfold k1;rw [rK];simp
theorem WL (j:c8) (W:List a6) (ds:List a_) (n:Nat):(k1 j W ds n).length<=n:=by
 induction n with
 |zero=>simp [k1]
 |succ n c5=>
  rw [Wr,gp];unfold CS;split
  ·simp;omega
  ·simp;omega
def YA (A:bB) (w0 u:av) (a2 tb:Nat) (r:fT) (m:bp) (j:c8) (V:kv) (W:List a6) (R:dM) (v:bx) (b_:av):Prop:=
 ∃ pa pc,v=.tuple #[.slice pa (k1 j W R.done R.done.length).length pc,.bool R.ok]/\hM A w0 u a2 tb u.heap.size r m j V R b_/\bW b_ pa (nR (k1 j W R.done R.done.length)).flatten/\∀ k,a7 pa k->u.heap.size<=k
theorem ajL (ab:fy w0 u a2 tb r m j V o) {b1:Nat} (bm:aF u b1 q.cells ho) {W:List a6} (dH:jd u q.hO q.gO W) (ig:Gd W) {ds:List a_} {raw:List cL} {f8:ax} {dc:Nat} (dw:bW w0 f8 (j6 raw).flatten) (dX:lN A w0 raw ds) (j0:ds.length<=W.length) (ok:Bool) (aT:aH) {R:dW}
  (J:∀ b_ pa pc,ai u b_->bW b_ pa (nR (k1 j W ds ds.length)).flatten->(∀ k,a7 pa k->u.heap.size<=k)->R (.tuple #[.slice pa (k1 j W ds ds.length).length pc,.bool ok]) b_) :
  dT prog (.loop (sub (b6 N5) [1,1,1,1,0,1,0,0])) (Dv ⟨a2,0,none⟩ ⟨b1,0,none⟩ none 0 0 ok f8 ds.length dc ds.length 0 aT)
   (a8 2 (bk (λenv w=>Go.b8.W prog (sub (b6 N5) [1,1,1,1,1]) env (ga prog N5 R) w) (ga prog N5 R))) u:=by
 have ik:raw.length=ds.length:=dX.1;have m6:=ig.hH;have hz:=ab.du.dead;have aC:=ab.cH.dead;have hlen:=dH.len;refine e2 mix (λk env z=>∃ (i:Nat) (pa:ax) (pc:Nat) (aT:aH),k=ds.length - i/\i<=ds.length/\env=Dv ⟨a2,0,none⟩ ⟨b1,0,none⟩ pa (k1 j W ds i).length pc ok f8 ds.length dc ds.length i aT/\ai u z/\bu z hs 9 pa (k1 j W ds i).length pc (nR (k1 j W ds i)).flatten/\∀ k,a7 pa k->u.heap.size<=k) ds.length
  ⟨0,none,0,_,by omega,by omega,rfl,ay.refl _ _,bu.nil _ _ _,λk J=>absurd J yP⟩ ?_
 rintro k env z ⟨i,pa,pc,aT,rfl,aD,rfl,da,cV,iQ⟩;rw [aur];have hP:=ab.ck da;have gw:=WL j W ds i;refine bL (λaK=>?_) (λhQ=>?_)
 ·have hR:i<ds.length:=by omega
  obtain ⟨d,ab2⟩:∃ d,raw[i]?=some d:=⟨_,cp (by omega)⟩;obtain ⟨x,ao⟩:∃ x,ds[i]?=some x:=⟨_,cp hR⟩;obtain ⟨p,ar⟩:∃ p,W[i]?=some p:=⟨_,cp (by omega)⟩;have O8:W.getD i nf=p:=Aw ar;have pP:=dX.2 i d x ab2 ao;have ti:fY ds i=gZ x:=by unfold fY;rw [gd,ao];rfl
  obtain ⟨mo,mq,ru,tK,Hp⟩:=ig.ok p (dn ar);refine hq (cells:=cL.cells) cL.len (by omega) (dw.new hP.new) ab2 rfl ik.symm λb gk gD _=>cL.bd d ⟨gD,?_⟩
  refine g0 (vs:=d.cells) rfl (cL.single _) λbT e' ej cx bf=>?_
  rintro dq cG;have a5:ai e' dq:=by rw [cG];exact eh _
  clear cG;have gI:=bf.new a5;have bP:=ai.an a5 cx;have yA:=ai.an (da.new gI) bm;have gC:=hP.ck gI;have v9:=dH.new (da.new gI);refine ⟨λy=>ai dq y,ay.refl _ _,_,_,_,λy az=>(ai.an az yA).cell (i:=1) rfl,?_⟩;refine pw (cells:=a6.cells) a6.len (by omega) v9.rd ar rfl hlen λec aEN m4=>a6.bd p ⟨λy az=>td (i:=0) λq v aw=>by simpa using m4 y az q v aw,r.iq,λy az=>(ai.an az gC.an).cell (i:=5) rfl,?_⟩
  rw [aC];refine aR (Ri dq p mo hz) ?_;rintro v hh ⟨rfl,bz⟩;have aqF:=gC.ck bz;have dk:=ai.an bz bP;refine ⟨_,_,rfl,bz,gX (λ_=>cL.bd d ⟨cD dk rfl,?_⟩) (λe=>absurd rfl e)⟩;refine aR (E6 (pP.aO (ay.db aqF.new) λ_ _ e=>e)) ?_;rintro v gK ⟨rfl,bH⟩;have mh:=bz.new bH;have KA:=gI.new mh;have UG:=ai.an mh yA;refine ⟨_,rfl,gX (λhe=>⟨_,_,_,UG.cell (i:=1) rfl,?_⟩) (λhe=>?_)⟩
  ·have JI:k1 j W ds (i+1)=k1 j W ds i++[p]:=by rw [Wr];unfold CS;rw [O8,if_pos (by rw [ti];exact he)]
   refine hq (cells:=a6.cells) a6.len (by omega) (v9.new mh).rd ar rfl hlen λfJ awf Tr _=>a6.bd p ⟨Tr,?_⟩
   rintro kz nw jt kj;obtain ⟨fQ,dg⟩:=b4 jt kj;have fQ:aF nw kz p.cells hs:=fQ;clear kj;obtain ⟨inf,pR,ml,j3,gm⟩:=j5 (T:=hs) (z:=nf.val) (n:=9) (m:=72) (by kernel_rfl);refine Fp (cells:=a6.cells) (sz:=9) a6.len a6.single Tryz.underlying37 pR ml (by rw [j3];rfl) j3 (by decide) (by rw [gm];decide) (bu.new (KA.new dg) cV) (l2:=[p]) (m:=1) (jk fQ rfl) rfl (by omega) λap bU o0 bs bI dd=>?_
   rw [cn (x:=(i:Int)+1) (by omega) (by omega)];have eT:ai u o0:=(da.new (KA.new dg)).trans bI λk aK e=>by have:=iQ k e;omega
   have cr:=(da.new KA).size;have adm:=dg.size;refine ⟨ds.length - (i+1),by omega,i+1,ap,bU,_,rfl,by omega,by rw [JI,gp];rfl,eT,?_,λk fo=>?_⟩
   ·rw [JI,gp];exact bs
   ·rcases dd k fo with e | e
    ·exact iQ k e
    ·omega
  ·have JI:k1 j W ds (i+1)=k1 j W ds i:=by rw [Wr];unfold CS;rw [O8,if_neg (by rw [ti];exact he),qd]
   rw [cn (x:=(i:Int)+1) (by omega) (by omega)];exact ⟨ds.length - (i+1),by omega,i+1,pa,pc,_,rfl,by omega,by rw [JI];rfl,da.new KA,by rw [JI];exact bu.new KA cV,iQ⟩
 ·have g2:i=ds.length:=by omega
  subst g2;rw [auH];exact J z pa pc da cV.rd iQ
end
section
def jv (j:c8) (m:bp) (W:List a6) (G:List (List a_)):dM:=cE G (W.map (C9 j m))
theorem ahP (ab:fy w0 u a2 tb r m j V (0,0)) (bq:h2 A w0 u tb T G) (c7:kl T) {W:List a6} (dH:jd u q.hO q.gO W) (fH:∀ k,a7 q.hO k->k≠tb/\k≠a2) (ig:Gd W) :
  bK 248 [ptr a2,q.val] u (YA A w0 u a2 tb r m j V W (jv j m W G)):=by
 refine bO Tryz.func248 ?_;rw [ptr,awa];have tv:=ab.an.lt;have yD:=bq.an.lt;have hlen:=dH.len;have m6:=ig.hH;rintro b1 w1 bA br;obtain ⟨bm,a1⟩:=b4 bA br;have bm:aF w1 b1 q.cells ho:=bm;clear br;have fI:=a1.size;refine ⟨_,_,_,bm.cell (i:=1) rfl,?_⟩;refine e2 mix (λk env z=>∃ (i:Nat) (pa:ax) (pc:Nat) (aT:aH),k=W.length - i/\i<=W.length/\env=NI ⟨a2,0,none⟩ ⟨b1,0,none⟩ none 0 0 pa i pc q.hO q.gO q.mC q.gO i aT/\ai w1 z/\cy w1 z pa i pc ((W.take i).map (C9 j m))) W.length
  ⟨0,none,0,_,by omega,by omega,rfl,ay.refl _ _,cy.nil _ _⟩ ?_
 rintro k env z ⟨i,pa,pc,aT,rfl,aD,rfl,da,d'⟩;rw [auq,hlen];have hP:=ab.ck (a1.new da);refine bL (λaK=>?_) (λhQ=>?_)
 ·obtain ⟨p,ar⟩:∃ p,W[i]?=some p:=⟨_,cp (by omega)⟩;obtain ⟨mo,mq,ru,tK,Hp⟩:=ig.ok p (dn ar);refine hq (cells:=a6.cells) a6.len (by omega) ((dH.new a1).new da).rd ar rfl rfl λb gk gD _=>a6.bd p ⟨gD,?_⟩
  refine g0 (vs:=p.cells) rfl (a6.single _) λbT e' ej cx bf=>?_
  rintro gK cG;have a5:ai e' gK:=by rw [cG];exact eh _
  clear cG;have q':=bf.new a5;have mH:=hP.ck q';have dL:=ai.an a5 cx;refine ⟨λy=>aF y bT p.cells hs/\o7 r tb m j a2 y,⟨dL,_,_,mH.an⟩,bp.bd m ⟨λy az=>by obtain ⟨_,iK,gk,az⟩:=az;exact cD az rfl,p.b5,λy az=>az.1.cell (i:=0) rfl,?_⟩⟩;refine aR (Fo gK ru tK) ?_;rintro v jq ⟨rfl,pK⟩;have cg:ai gK jq:=by rw [pK];exact ay.refl _ _
  clear pK;have oc:=mH.ck cg;have e4:=ai.an cg dL;refine ⟨_,rfl,⟨e4,_,_,oc.an⟩,?_⟩;refine aR (LF oc ab.hd (p.b5 * 8) 1) ?_;rintro v nw ⟨bX,rfl,d_,dg⟩;have uH:=oc.ck dg;have fQ:=ai.an dg e4;refine a0.bd bX ⟨rfl,⟨fQ,_,_,uH.an⟩,?_⟩;rintro x5 o0 mf jn;have eT:ai nw o0:=by rw [jn];exact mE _ _
  have Ea:ai z jq:=q'.new cg;refine ⟨⟨ai.an eT fQ,_,_,(uH.ck eT).an⟩,cy.u9 (d'.new Ea) (da.new Ea) dg d_ (by omega) mf jn λap bU y9 h4 fK gJ=>?_⟩;obtain ⟨dD,cV,_⟩:=(d'.new (Ea.new dg)).ex;have off:∀ {b:Nat} {cs:aH} {T:TypeId},T≠d8->aF nw b cs T->¬ a7 pa b:=λbq ak J=>by obtain ⟨mY,dG⟩:=jX cV J;exact dG.ne ak (λe=>bq e.symm) rfl
  refine ⟨⟨fK.an fQ (off (by decide) fQ),_,_,fK.an uH.an (off (by decide) uH.an)⟩,?_⟩;rw [cn (x:=(i:Int)+1) (by omega) (by omega)];refine ⟨W.length - (i+1),by omega,i+1,ap,bU,_,rfl,by omega,by rw [<-hlen];rfl,gJ,?_⟩;have e:(W.take i).map (C9 j m)++[C9 j m p]=(W.take (i+1)).map (C9 j m):=by rw [iW,ar];simp
  rw [<-e];exact h4
 ·have g2:i=W.length:=by omega
  subst g2;rw [nx] at d';rw [auG];have Kt:=a1.new da;refine aR (yN hP (bq.new Kt) c7 (ab.ck a1).new (by omega) (by omega) d' (by rw [jS];omega)) ?_;rintro v ff ⟨f8,dc,raw,rfl,iw,dw,dX,ik⟩;have g_:=iw.aO;have iw:hM A w0 u a2 tb u.heap.size r m j V (jv j m W G) ff:=hM.of iw Kt fI;have dX:lN A w0 raw (jv j m W G).done:=dX;have ik:(jv j m W G).ok=true->raw.length=(W.map (C9 j m)).length:=ik;have j0:(jv j m W G).done.length<=W.length:=by
   cases b3:(jv j m W G).ok with
   |true=>rw [<-dX.1,ik b3,jS];omega
   |false=>
    have:(jv j m W G).done=[]:=by
     unfold jv cE dz at b3 ⊢;split
     ·rfl
     split
     ·rfl
     ·rename_i bs bI;rw [if_neg bs,if_neg bI] at b3;cases b3
    rw [this];simp
  refine ⟨_,_,_,_,rfl,?_⟩;show dT prog _ _ _ _;rw [dX.1];have dL:aF ff b1 q.cells ho:=g_.an (ai.an da bm) (by omega);have En:=(dH.new a1).new da;have asK:jd ff q.hO q.gO W:=⟨En.rd.aO g_ (mK En.rd λk fo e=>by have:=fH k fo;rcases e with e | e;exact this.1 e;exact this.2 e),En.len,En.hH,En.u64⟩;have aEs:=iw.aO.size;refine ajL iw.hK dL asK ig dw dX j0 _ _ (R:=YA A w0 u a2 tb r m j V W (jv j m W G)) λb_ pa pc ly as6 arh=>?_
  obtain ⟨er,q4,yG,oK⟩:=iw.j9;refine ⟨pa,pc,rfl,⟨iw.aO.new ly,iw.hK.ck ly,er,q4.new ly,yG,?_⟩,as6,λk J=>by have:=arh k J;omega⟩;cases cC:(jv j m W G).ask with
  |none=>rw [cC] at oK;exact oK
  |some vs=>rw [cC] at oK;obtain ⟨uC,aS,bs,bI,dd⟩:=oK;exact ⟨uC,aS,bs,bI,dd.new ly⟩
end
section
theorem anT (h:∀ x ∈ L,dp x) (i:Nat):dp (L.getD i 0):=by
 rw [gd];cases ao:L[i]? with
 |none=>exact mw
 |some x=>exact h x (dn ao)
theorem ako (h:jY L lines=true) (hu:∀ x ∈ L,dp x):jD (eS L lines).1 (eS L lines).2 lines=0/\Gd (eS L lines).2/\∀ p ∈ (eS L lines).2,∀ x ∈ mZ p,dp x:=by
 have hw:=h;unfold jY at hw;simp only [iz,decide_eq_true_eq,beq_iff_eq] at hw;have cC:eS L lines=((L.drop 8).getD 0 0,mG (L.drop 8) ((L.drop 8).getD 1 0).toNat):=by unfold eS hv;rw [if_pos h,if_pos hw.2]
 have al:=hw.2;unfold hf at al;split at al
 ·omega
 split at al
 ·omega
 split at al
 ·omega
 split at al
 ·omega
 rename_i _ _ _ aL;have aL:jD ((L.drop 8).getD 0 0) (mG (L.drop 8) ((L.drop 8).getD 1 0).toNat) lines=0:=by omega
 rw [cC];have aC:∀ x ∈ L.drop 8,dp x:=λx ao=>hu x (A5 ao)
 obtain ⟨au,aX,ar,ed,_⟩:=pM aL;refine ⟨aL,⟨aX.2.2.2,λp kH=>⟨(ed p kH).1,(ed p kH).2,(ar p kH).1,by have:=(ar p kH).2;omega,Y1 aC _ p kH⟩⟩,λp kH x ao=>?_⟩;obtain ⟨i,_,rfl⟩:=eQ.1 kH;have aM:∀ y ∈ ((L.drop 8).drop (2+9 * i)).take 9,dp y:=λy az=>aC y (A5 (Im az))
 have g:=anT aM;have ao:x ∈ [(((L.drop 8).drop (2+9 * i)).take 9).getD 2 0,(((L.drop 8).drop (2+9 * i)).take 9).getD 3 0,(((L.drop 8).drop (2+9 * i)).take 9).getD 4 0,(((L.drop 8).drop (2+9 * i)).take 9).getD 5 0,(((L.drop 8).drop (2+9 * i)).take 9).getD 6 0,(((L.drop 8).drop (2+9 * i)).take 9).getD 7 0,(((L.drop 8).drop (2+9 * i)).take 9).getD 8 0]:=ao;simp only [iF,uc,or_false] at ao;rcases ao with rfl | rfl | rfl | rfl | rfl | rfl | rfl<;>exact g _
theorem cy.three {ct cS b2 c6:av} {v1 v2 fv:a0} {ee e_ e7:bn} {b:Nat} (gx:ai u ct) (oj:ei (λk=>k<u.heap.size) ct v1 ee) (ki:ai ct cS) (oP:ei (λk=>k<ct.heap.size) cS v2 e_) (oi:ai cS b2) (UY:ei (λk=>k<cS.heap.size) b2 fv e7) (ak:b=b2.heap.size) (aE:aF c6 b (v1.cells++v2.cells++fv.cells) d8) (aj:ai b2 c6):cy u c6 (some ⟨b,0,none⟩) 3 3 [ee,e_,e7]:=by
 have fI:=gx.size;have jc:=ki.size;have j2:=oi.size;have vS:∀ k,a7 (some ⟨b,0,none⟩) k->k=b:=λk J=>by obtain ⟨o,aq⟩:=J;simp at aq;exact aq.1.symm
 have au:(v1.cells++v2.cells++fv.cells).length=27:=by rw [gp,gp,a0.len,a0.len,a0.len]
 refine ⟨⟨[v1,v2,fv],⟨by simp [gG];rfl,.inr ⟨b,v1.cells++v2.cells++fv.cells,rfl,aE,eJ 3,by decide,au,?_⟩⟩,hp.app (r1:=[v1]) (v1:=[ee]) (hp.one ?_) (hp.app (r1:=[v2]) (v1:=[e_]) (hp.one ?_) (hp.one ?_))⟩,rfl,λk J=>by rw [vS k J];omega⟩
 ·rw [ny (by rw [au];decide)];simp [gG]
 ·exact oj.aO (ay.db ((ki.new oi).new aj)) λk aK e=>by
   rcases e with e | e
   ·exact e
   ·have:=vS k e;omega
 ·exact oP.aO (ay.db (oi.new aj)) λk aK e=>by
   rcases e with e | e
   ·omega
   ·have:=vS k e;omega
 ·exact UY.aO (ay.db aj) λk aK e=>by
   rcases e with e | e
   ·omega
   ·have:=vS k e;omega
end
end Go.Proofs.YtmkljjbioomepaaGreat
