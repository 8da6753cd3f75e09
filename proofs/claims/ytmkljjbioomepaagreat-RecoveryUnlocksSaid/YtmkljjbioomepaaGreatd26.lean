import Derived.Test.YtmkljjbioomepaaGreatd23
import Derived.Test.YtmkljjbioomepaaGreatd25
import Derived.Test.YtmkljjbioomepaaGreatd17
import Derived.Test.YtmkljjbioomepaaGreatProg
import Derived.Test.YtmkljjbioomepaaGreatd03
set_option linter.all false
set_option maxHeartbeats 4000000
set_option maxRecDepth 100000
namespace Go.Proofs.YtmkljjbioomepaaGreat
open Go.Proofs.Tryz Go.bs
variable {M:a6} {a:an} {j:ca} {m:a0} {n aI tb:Nat} {o:Int×Int} {r:dE} {u bw w0:ak} {v:aG} {x:aQ}
section
structure zN (j:ca):Prop where
 aW:0<=j.aW/\j.aW<6
 inc:1<=j.inc/\j.inc<=59
 num:0<=j.v.number/\j.v.number<16
 mem:0<j.v.mem.length/\j.v.mem.length<=5
 ee:∀ m ∈ j.v.mem,1<=m.cq/\m.cq<=31
 lines:98<=j.lines/\j.lines<=256
 dead:0<=j.dead/\j.dead<6
 dV:1<=j.dV/\j.dV<=60
 prev:cj j.prev
theorem MM (h:j.valid=0) (hu:cj j.prev):zN j:=by
 unfold ca.valid at h;split at h
 ·omega
 rename_i g;have g:gg j.inc j.aW=0:=by omega
 split at h
 ·omega
 rename_i p;split at h
 ·omega
 rename_i a;have a:j.v.valid 5=0:=by omega
 obtain ⟨k,i⟩:=u9 g;have c:=h;unfold ca.tail at c;split at c
 ·omega
 rename_i t1;split at c
 ·omega
 rename_i t2;split at c
 ·omega
 rename_i t3;unfold jt.valid at a;split at a
 ·omega
 split at a
 ·omega
 rename_i l;split at a
 ·omega
 rename_i n;split at a
 ·omega
 rename_i d;split at a
 ·omega
 rename_i f;have f:j.v.mem.all mS=true:=by simpa using f
 have d:(List.range j.v.mem.length).all (kk (5:Nat) j.v.mem)=true:=tk _▸d;have o:=E9 d;refine ⟨i,k,by omega,by omega,λm hm=>?_,by omega,by omega,?_,hu⟩
 ·have:=fE.1 f m hm;unfold mS at this;exact of_decide_eq_true this
 ·by_cases e:j.dead=j.aW
  ·have:j.dV=j.inc:=by
    by_cases b:j.dV=j.inc
    ·exact b
    ·exact absurd ⟨e,b⟩ t2
   omega
  ·have:¬ (j.dV<2\/60<j.dV\/Int.tmod j.dV 2≠0):=λb=>t3 ⟨e,b⟩
   omega
abbrev oq:TypeId:=220
abbrev ph:TypeId:=175
structure gl where
 fz:an
 ke:Nat
 lc:Nat
 clock:Int
def iP (o:Int×Int):dA:=⟨o.1,0,0,0,o.2⟩
def pP (r:dE) (tb:Nat) (m:a0) (tag:Int) (V:gl) (o:Int×Int):ax:=r.cells++(ptr tb::m.cells)++[.int .u64 tag,.slice V.fz V.ke V.lc,.int .u64 V.clock]++(iP o).cells
structure dg (w0 u:ak) (aI tb:Nat) (r:dE) (m:a0) (j:ca) (V:gl) (o:Int×Int):Prop where
 aj:av u aI (pP r tb m (gG j.inc j.aW) V o) oq
 bQ:rp w0 r j
 b8:zN j
 mem:j.v.mem[0]?=some m
 new:ai w0 u
 pO:w0.heap.size<=aI
 kS:w0.heap.size<=tb
 ne:aI≠tb
theorem dg.bB {V:gl} (h:dg w0 u aI tb r m j V o) (a:ai u bw):dg w0 bw aI tb r m j V o:=
 ⟨ai.aj a h.aj,h.bQ,h.b8,h.mem,h.new.new a,h.pO,h.kS,h.ne⟩
theorem dg.aA {V:gl} (h:dg w0 u aI tb r m j V o) (b:ao M u bw) (a:∀ k,M k->w0.heap.size<=k/\k≠aI):dg w0 bw aI tb r m j V o:=
 ⟨b.aj h.aj λe=>(a _ e).2 rfl,h.bQ,h.b8,h.mem,h.new.trans b λk c e=>by have:=(a k e).1;omega,h.pO,h.kS,h.ne⟩
theorem dg.num {w0 u:ak} {aI tb:Nat} {r:dE} {m:a0} {j:ca} {V:gl} {o:Int×Int} (h:dg w0 u aI tb r m j V o):r.View.Number=j.v.number:=by obtain ⟨M,al⟩:=h.bQ.view;exact al.num
section
variable {w0 w:ak} {aI tb:Nat} {r:dE} {bS:a0} {j:ca} {V:gl} {o:Int×Int}
theorem Jh (h:dg w0 w aI tb r bS j V o) (G:d9 m.cq) (al:cL M w v x) :
  bb 245 [ptr aI,m.val,v.val] w λy w'=>∃ bj:aG,y=bj.val/\cL (λk=>k<w.heap.size) w' bj (addr j.v.number m x)/\ai w w':=by
 refine bd Tryz.func245 ?_;rw [ptr,nl];rintro b1 w1 D t;obtain ⟨g,n⟩:=bl D t;have g:av w1 b1 m.cells eG:=g;clear t;rintro aB T E u;obtain ⟨i,f⟩:=bl E u;have i:av T aB v.cells cF:=i;clear u;rintro L K F z;obtain ⟨d,c⟩:=bl F z;have d:av K L (aG.cells ⟨0,0,0,0,0,0,none,0,0,0,0⟩) cF:=d;clear z;rintro C A;have b:ai K C:=by rw [A];exact cK _
 clear A;have a:=((n.new f).new c).new b;have P:=n.size;have Q:=f.size;have R:=c.size;have S:=b.size;have N:=h.bB a;have q:=h.num;have W:=h.b8.num;refine ⟨λy=>ai C y,ao.refl _ _,c2.aT r.View ⟨λy B=>bO (ai.aj B N.aj) rfl,a0.aT m ⟨λy B=>bO (ai.aj (((f.new c).new b).new B) g) rfl,aG.aT v ⟨λy B=>bO (ai.aj ((c.new b).new B) i) rfl,?_⟩⟩⟩⟩;refine aD (BN C (by omega) (by omega) G (al.aA (ao.b9 a) λ_ _ e=>e)) ?_;rintro y X ⟨bj,rfl,s,p⟩;refine aG.aT bj ⟨rfl,dQ (ai.aj (b.new p) d) rfl (aG.single _) λU I l=>?_⟩;have J:=d.lt;refine aG.aT bj ⟨bO I rfl,rfl,bj,rfl,?_,(a.new p).trans l λk O e=>by omega⟩;rw [q] at s;have H:cL (λk=>k<C.heap.size) U bj (addr j.v.number m x):=s.aA (l.mono λk _ e=>by omega) λ_ _ e=>e
 exact H.aA (ao.refl _ _) λk _ e=>by omega
theorem zO (h:dg w0 w aI tb r bS j V o) (z:d9 m.cq) (al:cL M w v x) :
  ∀ b1 w1,b1=w.heap.size->w1=w.alloc (.cells m.cells.toArray eG)->∀ aB i,aB=w1.heap.size->i=w1.alloc (.cells #[.int .i64 0,.int .i64 0,.int .i64 0,.int .i64 0,.int .u64 0,.int .u64 0,.slice none 0 0,.int .u64 0,.int .i64 0] cF)->a0.ex λr=>cf i ⟨b1,0,none⟩ 0 r.cells/\
   Calls prog 245 #[ptr aI,r.val,v.val] i λe D=>aG.ex λa=>e=.returned a.val/\eh D ⟨aB,0,none⟩ 0 a.cells/\∀ d,d=cu D ⟨aB,0,none⟩ 0 a.cells->aG.ex λres=>cf d ⟨aB,0,none⟩ 0 res.cells/\d=d/\
    (∃ bj:aG,res.val=bj.val/\cL (λk=>k<w.heap.size) d bj (addr j.v.number m x)/\ai w d):=by
 rintro b1 w1 t q;obtain ⟨g,n⟩:=bl t q;have g:av w1 b1 m.cells eG:=g;clear q;rintro aB i u s;obtain ⟨c,f⟩:=bl u s;have c:av i aB (aG.cells ⟨0,0,0,0,0,0,none,0,0,0,0⟩) cF:=c;clear s;have b:=n.new f;have G:=n.size;have H:=f.size;refine a0.aT m ⟨bO (ai.aj f g) rfl,?_⟩;refine aD (Jh (h.bB b) z (al.aA (ao.b9 b) λ_ _ e=>e)) ?_;rintro y D ⟨bj,rfl,A,p⟩;refine aG.aT bj ⟨rfl,dQ (ai.aj p c) rfl (aG.single _) λd C l=>?_⟩;have E:=c.lt;refine aG.aT bj ⟨bO C rfl,rfl,bj,rfl,?_,(b.new p).trans l λk F e=>by omega⟩;have B:cL (λk=>k<i.heap.size) d bj (addr j.v.number m x):=A.aA (l.mono λk _ e=>by omega) λ_ _ e=>e
 exact B.aA (ao.refl _ _) λk _ e=>by omega
abbrev zP (w:ak) (x:aQ) (y:a4) (w':ak):Prop:=∃ bj:aG,y=bj.val/\cL (λk=>k<w.heap.size) w' bj x/\ai w w'
def lZ (j:ca) (m:a0) (at_:Int) (ws:a8):aQ:=addr j.v.number m ⟨2,0,at_,0,0,0,ws,0,0⟩
def mU (j:ca) (m:a0) (at_ n:Int):aQ:=addr j.v.number m ⟨1,0,at_,n,0,0,[],0,0⟩
def r3 (j:ca) (m:a0) (at_ old new:Int):aQ:=addr j.v.number m ⟨3,0,at_,0,old,new,[],0,0⟩
theorem wn (h:dg w0 w aI tb r bS j V o) (b:d9 m.cq) (at_:Int) {c:Nat} {ws:a8} (i:bk w a (us ws)) (g:n=ws.length) (e:n<=c) (d:a=none->ws=[]) (hu:∀ x ∈ ws,cj x) (f:ws.length<=1000000) :
  bb 250 [ptr aI,m.val,.int .i64 at_,.slice a n c] w (zP w (lZ j m at_ ws)):=by
 refine bd Tryz.func250 ?_;rw [ptr,TS];exact zO h b (v:=⟨2,0,at_,0,0,0,a,n,c,0,0⟩) (x:=⟨2,0,at_,0,0,0,ws,0,0⟩) (pY (k:=2) (at_:=at_) (nn:=0) (old:=0) (new:=0) i g e d hu f hq hq)
theorem va (h:dg w0 w aI tb r bS j V o) (b:d9 m.cq) (at_ n:Int):bb 220 [ptr aI,m.val,.int .i64 at_,.int .i64 n] w (zP w (mU j m at_ n)):=by refine bd Tryz.func220 ?_;rw [ptr,Tz];exact zO h b (v:=⟨1,0,at_,n,0,0,none,0,0,0,0⟩) (x:=⟨1,0,at_,n,0,0,[],0,0⟩) (pY (k:=1) (at_:=at_) (nn:=n) (old:=0) (new:=0) (a:=none) (n:=0) (c:=0) (ws:=[]) (.inl rfl) rfl (by omega) (λ_=>rfl) (λx d=>by cases d) (by simp) hq hq)
theorem vM (h:dg w0 w aI tb r bS j V o) (b:d9 m.cq) (at_:Int) {old new:Int} (e:cj old) (d:cj new):bb 223 [ptr aI,m.val,.int .i64 at_,.int .u64 old,.int .u64 new] w (zP w (r3 j m at_ old new)):=by refine bd Tryz.func223 ?_;rw [ptr,T1];exact zO h b (v:=⟨3,0,at_,0,old,new,none,0,0,0,0⟩) (x:=⟨3,0,at_,0,old,new,[],0,0⟩) (pY (k:=3) (at_:=at_) (nn:=0) (old:=old) (new:=new) (a:=none) (n:=0) (c:=0) (ws:=[]) (.inl rfl) rfl (by omega) (λ_=>rfl) (λx f=>by cases f) (by simp) e d)
theorem EG (h:dg w0 w aI tb r bS j V o) (c:Int×Int) {K:aF} (d:∀ w',ao (λk=>k=aI) w w'->dg w0 w' aI tb r bS j V c->K w') :
  eh w ⟨aI,15,none⟩ 0 (iP c).cells/\∀ w1,w1=cu w ⟨aI,15,none⟩ 0 (iP c).cells->K w1:=by
 refine ⟨gq h.aj (cY 20) (dA.single _),λw1 b=>?_⟩;have a:ao (λk=>k=aI) w w1:=by rw [b];exact h7 _ _ _ _ _
 refine d w1 a ⟨?_,h.bQ,h.b8,h.mem,h.new.trans a λk f e=>by have:=h.pO;omega,h.pO,h.kS,h.ne⟩;rw [b];exact h.aj.cu (vs:=(iP c).cells) (o:=15) (i:=0)
theorem yB (h:dg w0 w aI tb r bS j V o) (e:Int):bb 222 [ptr aI,.int .i64 e] w λv w'=>v=.bool false/\ao (λk=>k=aI) w w'/\dg w0 w' aI tb r bS j V (e,0):=by refine bd Tryz.func222 ?_;rw [ptr,TB];exact EG h (e,0) λw' b a=>⟨rfl,b,a⟩
end
structure eF (A:a6) (w0 u:ak) (aI tb B:Nat) (r:dE) (m:a0) (j:ca) (V:gl) (R:cr) (bw:ak):Prop where
 aA:ao (λk=>k=tb\/k=aI) u bw
 eD:dg w0 bw aI tb r m j V R.out
 fY:∃ iv:gn,eP A w0 bw tb iv R.a7/\iv.dD=R.dD/\(match R.ask with
  |none=>iv.da=0
  |some vs=>0<vs.length/\∃ w1,ai w0 w1/\B<=w1.heap.size/\bK w1 bw iv.aa iv.da iv.ac vs)
theorem nM {A:a6} {V:gl} (w:dg w0 u aI tb r m j V (0,0)) {T:gn} {G:List (List aM)} (z:eP A w0 u tb T G) (C:ga T) {w1:ak} (Y:ai w0 w1) (XF:tb<w1.heap.size) (XE:aI<w1.heap.size) {cap:Nat} {vs:List aQ} (al:bK w1 u a n cap vs) (Xy:vs.length<=100000) :
  bb 221 [ptr aI,.slice a n cap] u λv bw=>∃ (dB:an) (dc:Nat) (raw:List bT),v=.tuple #[.slice dB raw.length dc,.bool (cm G vs 0).ok]/\
   eF A w0 u aI tb w1.heap.size r m j V (cm G vs 0) bw/\bk w0 dB (fW raw).flatten/\g6 A w0 raw (cm G vs 0).done/\((cm G vs 0).ok=true->raw.length=vs.length):=by
 refine bd Tryz.func221 ?_;rw [ptr,TA];obtain ⟨cp,p,J⟩:=al.ex;have XI:=J.1;have U:=al.len;have XG:=z.aj.lt;have S:=w.ne;refine ⟨_,w.aj.cell (i:=8) rfl,?_⟩;have E:n=cp.length:=by omega
 rw [E] at p;have Xw:=D2 (A:=A) w.new w.kS z.aj z.a7 z.dL z.gc (aa:=a) (ac:=cap) p.rd J (by omega);rw [<-E] at Xw;refine aD Xw ?_;rintro v Z ⟨Xv,dB,dc,raw,rfl,N,s,I,g,D,Q,P,K,f⟩;rw [C.dD,Bool.false_or] at K;have q:dg w0 Z aI tb r m j V (0,0):=w.aA s λk e=>⟨by have:=w.kS;omega,by omega⟩
 have XH:bK w1 Z a n cap vs:=al.aA s λk e=>by omega
 refine ⟨_,_,_,_,rfl,?_⟩;have fin:∀ {y:ak},ao (λk=>k=aI) Z y->∀ {R:cr},R.a7=(batch G vs).a7->R.dD=(batch G vs).dD->R.ask=(batch G vs).ask->dg w0 y aI tb r m j V R.out->eF A w0 u aI tb w1.heap.size r m j V R y:=by
  intro y l R Xz XA XB W;have o:ao (λk=>k=tb\/k=aI) u y:=(s.mono λ_ _ e=>Or.inl e).trans l λk _ e=>.inr e
  refine ⟨o,W,Xv,?_,by rw [K,XA],?_⟩
  ·rw [Xz];exact ⟨l.aj N (λe=>S e.symm),D,Q,P⟩
  ·rw [XB];cases L:(batch G vs).ask with
   |none=>rw [L] at f;obtain ⟨_,M,_⟩:=f;show Xv.da=0;rw [M];exact C.da
   |some ws=>rw [L] at f;obtain ⟨XC,M,XD⟩:=f;have:=Ci L;subst this;refine ⟨D5 L,w1,Y,cY _,?_⟩;rw [XC,M,XD,<-U];exact al.aA o λk e=>by rcases e with e | e<;>omega
 unfold cm;refine ev (λc=>?_) (λc=>?_)
 ·rw [if_pos c];exact ⟨none,0,[],rfl,fin (ao.refl _ _) rfl rfl rfl q,.inl rfl,⟨rfl,λi v x al=>by simp at al⟩,λh=>by cases h⟩
 ·rw [if_neg (by rw [c];simp)];obtain ⟨F,H⟩:=C5 c;refine aD (C9 q.new rfl I g (by have:=g.1;have:=@qZ G vs;omega)) ?_;rintro v bq ⟨rfl,t⟩;have B:=q.bB t;refine ⟨_,rfl,du (λe=>?_) (λe=>?_)⟩
  ·rw [if_pos e];refine aD (yB B (hB (batch G vs).done)) ?_;rintro v y ⟨rfl,l,O⟩;exact ⟨_,rfl,none,0,[],rfl,fin ((ao.b9 t).trans l λ_ _ e=>e) rfl H.symm F.symm O,.inl rfl,⟨rfl,λi v x al=>by simp at al⟩,λh=>by cases h⟩
  ·rw [if_neg (by simpa using e)];refine ⟨dB,dc,raw,rfl,fin (ao.b9 t) rfl H.symm F.symm B,I,g,λ_=>?_⟩
   by_cases X:vs.length=0
   ·have:=g.1;have:=@qZ G vs;omega
   ·have b:=g.1;unfold batch at c b;rw [if_neg X] at c b;cases G with
    |nil=>cases c
    |cons d XJ=>
     simp only at c b;split at c
     ·rename_i Xx;rw [if_pos Xx] at b;have:=yz Xx;simp only at b;omega
     ·cases c
end
section
open IntKind
variable (w:ak) (R:cz) {a b c d e f g h:Nat} {A B:aX} {s t u v:an} {i k l m:Int} {j:ar} {F:Bool}
def uq (e:aX) (l:an) (a b:Nat) (n:an) (c d:Nat) (f:an) (g h:Nat) (i k:Int) (j:ar):ar:=.pointer (some e)::ag j 0 2 (ae l a b::ae n c d::ag j 2 24 (ae f g h::ab i::ab k::ag j 26 136 []))
def Aj (a:aX) (e:an) (b c:Nat) (g:an) (d f:Nat) (j:ar):ar:=.pointer (some a)::ag j 0 2 (ae e b c::ae g d f::ag j 2 163 [])
def w3 (e:aX) (q:an) (a b:Nat) (r:an) (c d:Nat) (s:aX) (f:an) (g h:Nat) (i k:Int) (l:an) (m n:Nat) (o p:Int) (j:ar):ar:=.pointer (some e)::ag j 0 2 (ae q a b::ae r c d::ag j 2 1 (.pointer (some s)::ag j 3 22 (ae f g h::ab i::ab k::ag j 25 3 (ae l m n::ab o::ab p::ag j 28 130 []))))
def F0 (a:aX) (e:an) (b c:Nat) (n:an) (d f:Nat) (g:an) (h i:Nat) (k l:Int) (j:ar):ar:=.pointer (some a)::ag j 0 2 (ae e b c::ae n d f::ag j 2 24 (ae g h i::ab k::ab l::ag j 26 136 []))
def qC (e:aX) (p:an) (a b:Nat) (c:an) (d f:Nat) (g:an) (h i:Nat) (k:an) (l m:Nat) (n o:Int) (j:ar):ar:=.pointer (some e)::ag j 0 2 (ae p a b::ag j 2 7 (ae c d f::ae g h i::ag j 9 47 (ae k l m::ab n::ab o::ag j 56 105 [])))
def qD (a:aX) (e:an) (b c:Nat) (d:an) (f g:Nat) (h:an) (i k:Nat) (l:Int) (m:aX) (n:Int) (o:an) (p q:Nat) (r s:Int) (t:Bool) (j:ar):ar:=.pointer (some a)::ag j 0 2 (ae e b c::ag j 2 7 (ae d f g::ae h i k::ab l::ag j 9 1 (.pointer (some m)::ah n::ag j 10 43 (ae o p q::ab r::ab s::ag j 53 13 (ad t::ag j 66 91 [])))))
def w4 (a:aX) (b:an) (c d:Nat) (f:an) (g h:Nat) (j:ar):ar:=.pointer (some a)::ag j 0 10 (ae b c d::ae f g h::ag j 10 155 [])
def w5 (a:aX) (e:an) (b c:Nat) (d:an) (f g:Nat) (h:an) (i k:Nat) (l:an) (m n:Nat) (o p:Int) (j:ar):ar:=.pointer (some a)::ag j 0 2 (ae e b c::ag j 2 7 (ae d f g::ae h i k::ag j 9 47 (ae l m n::ab o::ab p::ag j 56 105 [])))
def sg (e:aX) (a:an) (b c:Nat) (d:an) (f g:Nat) (h:an) (i k:Nat) (l m:Int) (j:ar):ar:=.pointer (some e)::ag j 0 10 (ae a b c::ae d f g::ag j 10 116 (ae h i k::ab l::ab m::ag j 126 36 []))
def nx (a:aX) (b:an) (c d:Nat) (f:an) (g h:Nat) (i:an) (k l:Nat) (m n:Int) (o:Bool) (j:ar):ar:=.pointer (some a)::ag j 0 10 (ae b c d::ae f g h::ag j 10 116 (ae i k l::ab m::ab n::ag j 126 32 (ad o::ag j 158 3 [])))
def Ak  (j:ar):ar:=ag j 0 168 []
def F1 (a:aX) (b:an) (c d:Nat) (f:an) (g h:Nat) (i:an) (k l:Nat) (m n:Int) (j:ar):ar:=.pointer (some a)::ag j 0 10 (ae b c d::ae f g h::ag j 10 116 (ae i k l::ab m::ab n::ag j 126 36 []))
theorem TT:bf prog f179 [ba a] R w=(eZ 219 #[ba a] w λe b c h=>b_ h (af a 4) λd f g=>cG prog (c7 f179 [1,1,1,0,1,0,0]) (uq (af a 0) e b c none 0 0 d f g (f:Nat) 0 (undef::ad false::bD 17 (jp (af a 0)::ae e b c::jp (af a 0)::jp (af a 0)::jp (af a 0)::jp (af a 3)::jp (af a 4)::bD 136 []))) (aP 0 (aU f179 [1,1,1,1] R)) h):=by kernel_rfl
theorem R_ (g:Exit->ar->aF):W prog (sb f179 [1,1,1,0,1,0,0]) (uq A s a b t c d u e f i k j) (bI prog f179 R g) w=(cond (k<i) (bA u e k 3 λl=>iC w l λr=>aS w #[ab 0,ab 0,ad false] 116 λh m=>a_ m (af h 0) 0 r.cells λn=>cG prog (c7 f179 [1,1,1,0,1,0,0,1,1,0,0,1,1,0,0]) (w3 A s a b t c d (af h 0) u e f i k s a b (a:Nat) 0 (aO j 0::aO j 1::aO j 2::ag j 4 22 (ad (k<i)::jp l::r.val::ag j 32 130 []))) (aP 2 (aP 1 (aZ (λo w=>W prog (sb f179 [1,1,1,0,1,0,0,1,1,1]) o (bI prog f179 R g) w) (bI prog f179 R g)))) n) (g (.exit 0) (Aj A s a b t c d (ag j 0 26 (ae u e f::ab i::ab k::ad (k<i)::ag j 27 135 []))) w)):=by kernel_rfl
theorem Su (e:Exit->ar->aF):W prog (sb f179 [1,1,1,1]) (Aj A s a b t c d j) (bI prog f179 R e) w=(jD 221 #[.pointer (some A),ae t c d] w λg h i k f=>cond (!k) (R (ad false) f) (cG prog (c7 f179 [1,1,1,1,1,1,1,1,0,1,0,0]) (qC A s a b none 0 0 none 0 0 g h i (h:Nat) 0 (aO j 0::aO j 1::ae t c d::ag j 2 4 (ae g h i::ad k::ag j 10 39 (.tuple #[ae g h i,ad k]::jp A::ae t c d::.tuple #[ae g h i,ad k]::ae g h i::ad k::ad k::ad (!k)::ag j 60 105 [])))) (aP 4 (aZ (λl w=>W prog (sb f179 [1,1,1,1,1,1,1,1,1]) l (bI prog f179 R e) w) (bI prog f179 R e))) f)):=by kernel_rfl
theorem R' (D:Exit->ar->aF):W prog (sb f179 [1,1,1,0,1,0,0,1,1,0,0,1,1,0,0]) (w3 A s a b t c d B u e f i k v g h l m j) (bI prog f179 R D) w=(cond (m<l) (bA v g m 3 λH=>G2 w H λr=>aS w #[ab 0,ah 0,ad false] 309 λC M=>a_ M (af C 0) 0 r.cells λL=>cw L λN y=>hp y B λE=>cV y (af C 0) λq=>ct 106 #[ab q] N λn G=>y G/\eM 220 #[.pointer (some A),E.val,ab n,ab 1] G λx F=>y F/\aS F x.cells.toArray 158 λK a'=>y a'/\db 125 (ae t c d) (ae (bo K) 1 1) a' λz o p a9=>y a9/\D .normal (w3 A s a b z o p B u e f i k v g h l (i64.wrap (m+1)) (ag j 0 4 (jp (af C 0)::ag j 5 23 (ad (m<l)::jp H::r.val::ae t c d::jp A::E.val::jp (af C 0)::ab q::ab n::x.val::ae (bo K) 1 1::ae z o p::ab (i64.wrap (m+1))::ag j 41 117 [])))) a9) (D (.exit 2) (F0 A s a b t c d u e f i k (aO j 0::aO j 1::aO j 2::jp B::ag j 3 25 (ae v g h::ab l::ab m::ad (m<l)::ag j 29 129 []))) w)):=by kernel_rfl
theorem Sv (g:Exit->ar->aF):W prog (sb f179 [1,1,1,0,1,0,0,1,1,1]) (F0 A s a b t c d u e f i k j) (bI prog f179 R g) w=(g .normal (uq A s a b t c d u e f i (i64.wrap (k+1)) (ag j 0 45 (ab (i64.wrap (k+1))::ag j 46 116 []))) w):=by kernel_rfl
theorem Sd (o:Exit->ar->aF):W prog (sb f179 [1,1,1,1,1,1,1,1,0,1,0,0]) (qC A s a b t c d u e f v g h i k j) (bI prog f179 R o) w=(cond (k<i) (bA v g k 2 λH=>pN w H λr=>aS w #[ab 0,a5] 131 λF Q=>a_ Q (af F 0) 0 r.cells λP=>cw P λN z=>IntKind.i64=IntKind.i64/\(a:Int)≠0/\bA s a (Int.tmod k (a:Nat)) 3 λy=>G3 z y λE=>xZ z (af F 0) λG=>(jB 196 #[G.val] N λp M=>z M/\aS M #[ab 0,ah 0,ad false] 309 λB K=>z K/\a_ K (af B 0) 0 E.cells λa9=>z a9/\kj a9 (af B 2) λq=>cond q (dX a9 (af B 1) λl=>W prog (sb f179 [1,1,1,1,1,1,1,1,0,1,0,0,1,1,0,0,1,1,0,1]) (qD A s a b t c d u e f k (af B 0) p v g h i k (decide ((p:Int)>l)) (ag j 0 9 (jp (af F 0)::ag j 13 43 (ad (k<i)::ab k::jp H::r.val::ae s a b::ab k::ae s a b::eo a::ab (Int.tmod k (a:Nat))::jp y::E.val::G.val::ah p::jp (af B 2)::ad q::ad true::ah p::jp (af B 1)::ah l::ad (p>l)::ad (p>l)::ag j 78 83 [])))) (aP 6 (aP 5 (aZ (λD w=>W prog (sb f179 [1,1,1,1,1,1,1,1,0,1,0,0,1,1,1]) D (bI prog f179 R o) w) (bI prog f179 R o)))) a9) (W prog (sb f179 [1,1,1,1,1,1,1,1,0,1,0,0,1,1,0,0,1,1,0,1]) (qD A s a b t c d u e f k (af B 0) p v g h i k false (ag j 0 9 (jp (af F 0)::ag j 13 43 (ad (k<i)::ab k::jp H::r.val::ae s a b::ab k::ae s a b::eo a::ab (Int.tmod k (a:Nat))::jp y::E.val::G.val::ah p::jp (af B 2)::ad q::ad false::bD 4 (ad false::ag j 78 83 []))))) (aP 6 (aP 5 (aZ (λD w=>W prog (sb f179 [1,1,1,1,1,1,1,1,0,1,0,0,1,1,1]) D (bI prog f179 R o) w) (bI prog f179 R o)))) a9))/\aS N #[ab 0,ah 0,ad false] 309 λC O=>z O/\jB 196 #[G.val] O λm L=>z L/\a_ L (af C 0) 0 E.cells λa'=>z a'/\kj a' (af C 2) λn=>cond n (dX a' (af C 1) λx=>W prog (sb f179 [1,1,1,1,1,1,1,1,0,1,0,0,1,1,0,0,1,1,0,1]) (qD A s a b t c d u e f k (af C 0) m v g h i k (decide ((m:Int)>x)) (ag j 0 9 (jp (af F 0)::ag j 13 43 (ad (k<i)::ab k::jp H::r.val::ae s a b::ab k::ae s a b::eo a::ab (Int.tmod k (a:Nat))::jp y::E.val::G.val::ah m::jp (af C 2)::ad n::ad true::ah m::jp (af C 1)::ah x::ad (m>x)::ad (m>x)::ag j 78 83 [])))) (aP 6 (aP 5 (aZ (λD w=>W prog (sb f179 [1,1,1,1,1,1,1,1,0,1,0,0,1,1,1]) D (bI prog f179 R o) w) (bI prog f179 R o)))) a') (W prog (sb f179 [1,1,1,1,1,1,1,1,0,1,0,0,1,1,0,0,1,1,0,1]) (qD A s a b t c d u e f k (af C 0) m v g h i k false (ag j 0 9 (jp (af F 0)::ag j 13 43 (ad (k<i)::ab k::jp H::r.val::ae s a b::ab k::ae s a b::eo a::ab (Int.tmod k (a:Nat))::jp y::E.val::G.val::ah m::jp (af C 2)::ad n::ad false::bD 4 (ad false::ag j 78 83 []))))) (aP 6 (aP 5 (aZ (λD w=>W prog (sb f179 [1,1,1,1,1,1,1,1,0,1,0,0,1,1,1]) D (bI prog f179 R o) w) (bI prog f179 R o)))) a')) (o (.exit 4) (w4 A t c d u e f (aO j 0::aO j 1::ae s a b::ag j 2 54 (ae v g h::ab i::ab k::ad (k<i)::ag j 57 104 []))) w)):=by kernel_rfl
theorem Sw (E:Exit->ar->aF):W prog (sb f179 [1,1,1,1,1,1,1,1,0,1,0,0,1,1,0,0,1,1,0,1]) (qD A s a b t c d u e f i B k v g h l m F j) (bI prog f179 R E) w=(cond F (dn 222 #[.pointer (some A),ab 11] w λx Xz=>R (ad x) Xz) (dX w (bY B 1) λy=>cond (k<y) (cw w λJ n=>e6 n (af A.block (A.off+3+1)) λz I Xy=>IntKind.i64=IntKind.i64/\(a:Int)≠0/\bA z I (i64.wrap (Int.tdiv i (a:Nat))) 3 λa9=>hp n a9 λr=>aS J #[ab 0,ab 0,ad false] 116 λD L=>n L/\a_ L (af D 0) 0 r.cells λXw=>cw Xw λU p=>hp p (af D 0) λP=>cV p B λQ=>j1 p (bY B 1) λa'=>ct 106 #[ab Q] U λT Z=>p Z/\eM 223 #[.pointer (some A),P.val,ab T,ah k,ah a'] Z λo X=>p X/\aS X o.cells.toArray 158 λO H=>p H/\db 125 (ae t c d) (ae (bo O) 1 1) H λq V G C=>p C/\G2 C B λN=>aS C N.cells.toArray 309 λM Xx=>db 306 (ae u e f) (ae (bo M) 1 1) Xx λK Y S Xv=>E .normal (w5 A s a b q V G K Y S v g h l m (ag j 0 9 (ab i::aO j 9::jp B::ah k::jp (af D 0)::ag j 11 55 (ad F::ag j 66 10 (ad (k<y)::ah k::bL B 1::ah y::ad (k<y)::jp A::jp A::jp A::bL A 3::jp (af A.block (A.off+3+1))::ae z I Xy::ab i::ae s a b::eo a::ab (i64.wrap (Int.tdiv i (a:Nat)))::jp a9::r.val::ae t c d::jp A::P.val::jp B::ab Q::ab T::ah k::bL B 1::ah a'::o.val::ae (bo O) 1 1::ae q V G::ae u e f::N.val::ae (bo M) 1 1::ae K Y S::ag j 109 48 []))))) Xv) (E .normal (w5 A s a b t c d u e f v g h l m (ag j 0 9 (ab i::aO j 9::jp B::ah k::ag j 10 56 (ad F::ag j 66 10 (ad (k<y)::ah k::bL B 1::ah y::ad (k<y)::ag j 81 76 []))))) w))):=by kernel_rfl
theorem Sx (e:Exit->ar->aF):W prog (sb f179 [1,1,1,1,1,1,1,1,1]) (w4 A s a b t c d j) (bI prog f179 R e) w=(jD 221 #[.pointer (some A),ae s a b] w λi k l m f=>cond (!m) (R (ad false) f) (cG prog (c7 f179 [1,1,1,1,1,1,1,1,1,1,1,0,1,0,0]) (sg A s a b t c d i k l (k:Nat) 0 (ag j 0 8 (ae i k l::ad m::ag j 10 108 (.tuple #[ae i k l,ad m]::jp A::ae s a b::.tuple #[ae i k l,ad m]::ae i k l::ad m::ad m::ad (!m)::ag j 129 36 [])))) (aP 7 (aZ (λg w=>W prog (sb f179 [1,1,1,1,1,1,1,1,1,1,1,1]) g (bI prog f179 R e) w) (bI prog f179 R e))) f)):=by kernel_rfl
theorem Sy (l:Exit->ar->aF):W prog (sb f179 [1,1,1,1,1,1,1,1,0,1,0,0,1,1,1]) (w5 A s a b t c d u e f v g h i k j) (bI prog f179 R l) w=(l .normal (qC A s a b t c d u e f v g h i (i64.wrap (k+1)) (ag j 0 113 (ab (i64.wrap (k+1))::ag j 114 47 []))) w):=by kernel_rfl
theorem Se (l:Exit->ar->aF):W prog (sb f179 [1,1,1,1,1,1,1,1,1,1,1,0,1,0,0]) (sg A s a b t c d u e f i k j) (bI prog f179 R l) w=(cond (k<i) (bA u e k 2 λG=>pN w G λr=>aS w #[ab 0,a5] 131 λF I=>a_ I (af F 0) 0 r.cells λT=>cw T λQ M=>xZ M (af F 0) λE=>bA t c k 3 λa9=>G3 M a9 λD=>(jB 196 #[E.val] Q λn P=>M P/\aS P #[ab 0,ah 0,ad false] 309 λC N=>M N/\a_ N (af C 0) 0 D.cells λL=>bA s a k 9 λH=>dX L (bY H 4) λo=>cond (n != o) (dX L (af C 1) λp=>cond (n != p) (kj L (af C 2) λq=>cond q (W prog (sb f179 [1,1,1,1,1,1,1,1,1,1,1,0,1,0,0,1,1,0,0,1,1,1]) (nx A s a b t c d u e f i k true (ag j 0 15 (ab k::jp (af F 0)::ah n::jp (af C 0)::ag j 19 107 (ad (k<i)::ab k::jp G::r.val::E.val::ah n::ae t c d::ab k::jp a9::D.val::ah n::ae s a b::ab k::jp H::bL H 4::ah o::ad ((n:Int) != o)::ad true::ah n::jp (af C 1)::ah p::ad ((n:Int) != p)::ad ((n:Int) != p)::ad true::jp (af C 2)::ad q::ad true::bD 4 [ad true,aO j 159,aO j 160,aO j 161])))) (aP 8 (aZ (λm w=>W prog (sb f179 [1,1,1,1,1,1,1,1,1,1,1,0,1,0,0,1,1,1]) m (bI prog f179 R l) w) (bI prog f179 R l))) L) (dX L (af C 1) λh=>W prog (sb f179 [1,1,1,1,1,1,1,1,1,1,1,0,1,0,0,1,1,0,0,1,1,1]) (nx A s a b t c d u e f i k (decide ((n:Int)<h)) (ag j 0 15 (ab k::jp (af F 0)::ah n::jp (af C 0)::ag j 19 107 [ad (k<i),ab k,jp G,r.val,E.val,ah n,ae t c d,ab k,jp a9,D.val,ah n,ae s a b,ab k,jp H,bL H 4,ah o,ad ((n:Int) != o),ad true,ah n,jp (af C 1),ah p,ad ((n:Int) != p),ad ((n:Int) != p),ad true,jp (af C 2),ad q,ad false,ah n,jp (af C 1),ah h,ad (n<h),ad (n<h),aO j 159,aO j 160,aO j 161]))) (aP 8 (aZ (λm w=>W prog (sb f179 [1,1,1,1,1,1,1,1,1,1,1,0,1,0,0,1,1,1]) m (bI prog f179 R l) w) (bI prog f179 R l))) L)) (W prog (sb f179 [1,1,1,1,1,1,1,1,1,1,1,0,1,0,0,1,1,0,0,1,1,1]) (nx A s a b t c d u e f i k false (ag j 0 15 (ab k::jp (af F 0)::ah n::jp (af C 0)::ag j 19 107 (ad (k<i)::ab k::jp G::r.val::E.val::ah n::ae t c d::ab k::jp a9::D.val::ah n::ae s a b::ab k::jp H::bL H 4::ah o::ad ((n:Int) != o)::ad true::ah n::jp (af C 1)::ah p::ad ((n:Int) != p)::ad ((n:Int) != p)::ad false::bD 8 [aO j 159,aO j 160,aO j 161])))) (aP 8 (aZ (λm w=>W prog (sb f179 [1,1,1,1,1,1,1,1,1,1,1,0,1,0,0,1,1,1]) m (bI prog f179 R l) w) (bI prog f179 R l))) L)) (W prog (sb f179 [1,1,1,1,1,1,1,1,1,1,1,0,1,0,0,1,1,0,0,1,1,1]) (nx A s a b t c d u e f i k false (ag j 0 15 (ab k::jp (af F 0)::ah n::jp (af C 0)::ag j 19 107 (ad (k<i)::ab k::jp G::r.val::E.val::ah n::ae t c d::ab k::jp a9::D.val::ah n::ae s a b::ab k::jp H::bL H 4::ah o::ad ((n:Int) != o)::ad false::bD 4 (ad false::ad false::bD 8 [aO j 159,aO j 160,aO j 161]))))) (aP 8 (aZ (λm w=>W prog (sb f179 [1,1,1,1,1,1,1,1,1,1,1,0,1,0,0,1,1,1]) m (bI prog f179 R l) w) (bI prog f179 R l))) L))/\aS Q #[ab 0,ah 0,ad false] 309 λB S=>M S/\jB 196 #[E.val] S λg O=>M O/\a_ O (af B 0) 0 D.cells λK=>bA s a k 9 λa'=>dX K (bY a' 4) λv=>cond (g != v) (dX K (af B 1) λx=>cond (g != x) (kj K (af B 2) λy=>cond y (W prog (sb f179 [1,1,1,1,1,1,1,1,1,1,1,0,1,0,0,1,1,0,0,1,1,1]) (nx A s a b t c d u e f i k true (ag j 0 15 (ab k::jp (af F 0)::ah g::jp (af B 0)::ag j 19 107 (ad (k<i)::ab k::jp G::r.val::E.val::ah g::ae t c d::ab k::jp a9::D.val::ah g::ae s a b::ab k::jp a'::bL a' 4::ah v::ad ((g:Int) != v)::ad true::ah g::jp (af B 1)::ah x::ad ((g:Int) != x)::ad ((g:Int) != x)::ad true::jp (af B 2)::ad y::ad true::bD 4 [ad true,aO j 159,aO j 160,aO j 161])))) (aP 8 (aZ (λm w=>W prog (sb f179 [1,1,1,1,1,1,1,1,1,1,1,0,1,0,0,1,1,1]) m (bI prog f179 R l) w) (bI prog f179 R l))) K) (dX K (af B 1) λz=>W prog (sb f179 [1,1,1,1,1,1,1,1,1,1,1,0,1,0,0,1,1,0,0,1,1,1]) (nx A s a b t c d u e f i k (decide ((g:Int)<z)) (ag j 0 15 (ab k::jp (af F 0)::ah g::jp (af B 0)::ag j 19 107 [ad (k<i),ab k,jp G,r.val,E.val,ah g,ae t c d,ab k,jp a9,D.val,ah g,ae s a b,ab k,jp a',bL a' 4,ah v,ad ((g:Int) != v),ad true,ah g,jp (af B 1),ah x,ad ((g:Int) != x),ad ((g:Int) != x),ad true,jp (af B 2),ad y,ad false,ah g,jp (af B 1),ah z,ad (g<z),ad (g<z),aO j 159,aO j 160,aO j 161]))) (aP 8 (aZ (λm w=>W prog (sb f179 [1,1,1,1,1,1,1,1,1,1,1,0,1,0,0,1,1,1]) m (bI prog f179 R l) w) (bI prog f179 R l))) K)) (W prog (sb f179 [1,1,1,1,1,1,1,1,1,1,1,0,1,0,0,1,1,0,0,1,1,1]) (nx A s a b t c d u e f i k false (ag j 0 15 (ab k::jp (af F 0)::ah g::jp (af B 0)::ag j 19 107 (ad (k<i)::ab k::jp G::r.val::E.val::ah g::ae t c d::ab k::jp a9::D.val::ah g::ae s a b::ab k::jp a'::bL a' 4::ah v::ad ((g:Int) != v)::ad true::ah g::jp (af B 1)::ah x::ad ((g:Int) != x)::ad ((g:Int) != x)::ad false::bD 8 [aO j 159,aO j 160,aO j 161])))) (aP 8 (aZ (λm w=>W prog (sb f179 [1,1,1,1,1,1,1,1,1,1,1,0,1,0,0,1,1,1]) m (bI prog f179 R l) w) (bI prog f179 R l))) K)) (W prog (sb f179 [1,1,1,1,1,1,1,1,1,1,1,0,1,0,0,1,1,0,0,1,1,1]) (nx A s a b t c d u e f i k false (ag j 0 15 (ab k::jp (af F 0)::ah g::jp (af B 0)::ag j 19 107 (ad (k<i)::ab k::jp G::r.val::E.val::ah g::ae t c d::ab k::jp a9::D.val::ah g::ae s a b::ab k::jp a'::bL a' 4::ah v::ad ((g:Int) != v)::ad false::bD 4 (ad false::ad false::bD 8 [aO j 159,aO j 160,aO j 161]))))) (aP 8 (aZ (λm w=>W prog (sb f179 [1,1,1,1,1,1,1,1,1,1,1,0,1,0,0,1,1,1]) m (bI prog f179 R l) w) (bI prog f179 R l))) K)) (l (.exit 7) (Ak  (jp A::ag j 0 10 (ae s a b::ae t c d::ag j 10 116 (ae u e f::ab i::ab k::ad (k<i)::ag j 127 35 [])))) w)):=by kernel_rfl
theorem Sz (g:Exit->ar->aF):W prog (sb f179 [1,1,1,1,1,1,1,1,1,1,1,0,1,0,0,1,1,0,0,1,1,1]) (nx A s a b t c d u e f i k F j) (bI prog f179 R g) w=(cond F (dn 222 #[.pointer (some A),ab 11] w λp h=>R (ad p) h) (g .normal (F1 A s a b t c d u e f i k (ag j 0 158 [ad F,aO j 158,aO j 159,aO j 160])) w)):=by kernel_rfl
theorem SA (a:Exit->ar->aF):W prog (sb f179 [1,1,1,1,1,1,1,1,1,1,1,1]) (Ak  j) (bI prog f179 R a) w=(R (ad true) w):=by kernel_rfl
theorem Sg (g:Exit->ar->aF):W prog (sb f179 [1,1,1,1,1,1,1,1,1,1,1,0,1,0,0,1,1,1]) (F1 A s a b t c d u e f i k j) (bI prog f179 R g) w=(g .normal (sg A s a b t c d u e f i (i64.wrap (k+1)) (ag j 0 161 [ab (i64.wrap (k+1))])) w):=by kernel_rfl
theorem S_:bf prog f219 [ba a] R w=(cw w λp o=>cV o (af a 5) λe=>cV o (af a 6) λb=>aS p #[ab e,ah (u64.wrap b),ad true] 309 λn m=>o m/\dX m (af a 7) λc=>AW 177 #[ah c] m λd f g l=>cond g (bX l (af a 5) λh=>cond (f != h) (aS l #[ab f,ah (u64.wrap (i64.wrap (d+1))),ad false] 309 λs r=>db 306 (ae (bo n) 1 1) (ae (bo s) 1 1) r λj i k q=>R (ae j i k) q) (R (ae (bo n) 1 1) l)) (R (ae (bo n) 1 1) l)):=by kernel_rfl
end
section
open IntKind
variable (w:ak) (R:cz) {a b c d:Nat} {A:aX} {s t:an} {i k l:Int} {j:ar} {F:Bool}
theorem TU:bf prog f180 [ba a] R w=(cw w λv j=>hp j (af a 9) λn=>cV j (af a 5) λe=>j1 j (af a 7) λb=>j1 j (af a 12) λc=>ct 224 #[ab e] v λd s=>j s/\eM 223 #[ba a,n.val,ab d,ah b,ah c] s λo u=>j u/\aS u o.cells.toArray 158 λx t=>j t/\jD 221 #[ba a,ae (bo x) 1 1] t λf g h i q=>j q/\cond (!i) (R (ad false) q) (bA f g 0 2 λy=>pN q y λr=>jB 196 #[r.val] q λk p=>dX p (af a 7) λl=>cond (k != l) (dX p (af a 12) λm=>cond (k != m) (a_ p (af a 15) 0 [ab 3,ab 0,ab 0,ab 0,ah k] λz=>R (ad false) z) (R (ad true) p)) (R (ad true) p))):=by kernel_rfl
def ur (e:aX) (i:an) (a b:Nat) (c:an) (d f:Nat) (g h:Int) (j:ar):ar:=.pointer (some e)::ag j 0 2 (ae i a b::ag j 2 11 (ae c d f::ab g::ab h::ag j 13 109 []))
def Al (a:aX) (d:an) (b c:Nat) (j:ar):ar:=.pointer (some a)::ag j 0 2 (ae d b c::ag j 2 123 [])
def sh (e:aX) (f:an) (a b:Nat) (s8:Bool) (c d:Int) (j:ar):ar:=.pointer (some e)::ag j 0 5 (ae f a b::ag j 5 1 (ad s8::ag j 6 63 (ab c::ab d::ag j 69 53 [])))
def uu (a:aX) (e:an) (b c:Nat) (s8:Bool) (g d f:Int) (j:ar):ar:=.pointer (some a)::ag j 0 5 (ae e b c::ag j 5 1 (ad s8::ab g::ag j 6 62 (ab d::ab f::ag j 68 53 [])))
def Am (a:aX) (d:an) (b c:Nat) (s8:Bool) (j:ar):ar:=.pointer (some a)::ag j 0 5 (ae d b c::ag j 5 1 (ad s8::ag j 6 118 []))
def An (a:aX) (e:an) (b c:Nat) (s8:Bool) (d f:Int) (j:ar):ar:=.pointer (some a)::ag j 0 5 (ae e b c::ag j 5 1 (ad s8::ag j 6 63 (ab d::ab f::ag j 69 53 [])))
theorem TC:bf prog f181 [ba a] R w=(b_ w (af a 4) λd b c=>cG prog (c7 f181 [1,1,0,1,0,0]) (ur (af a 0) none 0 0 d b c (b:Nat) 0 (undef::ad false::bD 6 (jp (af a 0)::jp (af a 0)::jp (af a 0)::jp (af a 3)::jp (af a 4)::bD 109 []))) (aP 0 (aU f181 [1,1,1] R)) w):=by kernel_rfl
theorem RW (v:Exit->ar->aF):W prog (sb f181 [1,1,0,1,0,0]) (ur A s a b t c d i k j) (bI prog f181 R v) w=(cond (k<i) (bA t c k 3 λD=>iC w D λr=>aS w #[ab 0,ab 0,ad false] 116 λh a9=>a_ a9 (af h 0) 0 r.cells λa'=>cw a' λK f=>hp f (af h 0) λx=>cV f (bY A 5) λe=>hp f (af h 0) λF=>cV f (bY A 5) λu=>ct 106 #[ab e] K λl z=>f z/\eM 220 #[.pointer (some A),x.val,ab l,ab 1] z λp y=>f y/\ct 215 #[ab u] y λm H=>f H/\eM 220 #[.pointer (some A),F.val,ab m,ab 120] H λq G=>f G/\aS G #[ab p.Kind,ab p.Node,ab p.bZ,ab p.N,ah p.Old,ah p.ai,ae p.Words p.cQ p.cJ,ah p.Key,ab p.cq,ab q.Kind,ab q.Node,ab q.bZ,ab q.N,ah q.Old,ah q.ai,ae q.Words q.cQ q.cJ,ah q.Key,ab q.cq] 158 λC B=>f B/\db 125 (ae s a b) (ae (bo C) 2 2) B λg n o E=>f E/\v .normal (ur A g n o t c d i (i64.wrap (k+1)) (aO j 0::aO j 1::aO j 2::jp (af h 0)::ag j 4 9 (ad (k<i)::jp D::r.val::ae s a b::jp A::x.val::jp A::jp A::jp A::bL A 5::ab e::ab l::p.val::jp A::F.val::jp A::jp A::jp A::bL A 5::ab u::ab m::q.val::ae (bo C) 2 2::ae g n o::ab (i64.wrap (k+1))::ag j 38 84 []))) E) (v (.exit 0) (Al A s a b (ag j 0 13 (ae t c d::ab i::ab k::ad (k<i)::ag j 14 108 []))) w)):=by kernel_rfl
theorem SZ (t:Exit->ar->aF):W prog (sb f181 [1,1,1]) (Al A s a b j) (bI prog f181 R t) w=(cw w λC c=>hp c (bY A 9) λq=>cV c (bY A 5) λd=>ct 225 #[ab d] C λf v=>c v/\eM 220 #[.pointer (some A),q.val,ab f,ab 1] v λr B=>c B/\aS B r.cells.toArray 158 λy z=>c z/\db 125 (ae s a b) (ae (bo y) 1 1) z λe g h x=>c x/\jD 221 #[.pointer (some A),ae e g h] x λi k l m u=>cond (!m) (R (ad false) u) (b_ u (af A.block (A.off+3+1)) λn o p=>cG prog (c7 f181 [1,1,1,1,1,1,1,0,1,0,0]) (sh A i k l true (o:Nat) 0 (aO j 0::aO j 1::ae e g h::aO j 2::aO j 3::ad m::ag j 7 34 (ae s a b::jp A::jp A::jp A::bL A 9::q.val::jp A::jp A::jp A::bL A 5::ab d::ab f::r.val::ae (bo y) 1 1::ae e g h::.tuple #[ae i k l,ad m]::jp A::ae e g h::.tuple #[ae i k l,ad m]::ae i k l::ad m::ad m::ad (!m)::jp A::jp A::jp A::bL A 3::jp (af A.block (A.off+3+1))::ae n o p::ag j 72 53 []))) (aP 2 (aZ (λD w=>W prog (sb f181 [1,1,1,1,1,1,1,1]) D (bI prog f181 R t) w) (bI prog f181 R t))) u)):=by kernel_rfl
theorem RX (c:Exit->ar->aF):W prog (sb f181 [1,1,1,1,1,1,1,0,1,0,0]) (sh A s a b F i k j) (bI prog f181 R c) w=(cond (k<i) (cw w λl e=>cond F (bA s a (i64.wrap (2 * k)) 2 λm=>xZ e m λr=>cV e (bY A 6) λf=>jB 196 #[r.val] l λg h=>e h/\W prog (sb f181 [1,1,1,1,1,1,1,0,1,0,0,1,1,0,0,1,1]) (uu A s a b ((g:Int) == (u64.wrap f)) k i k (ag j 0 6 (ag j 7 62 (ad (k<i)::ab k::ad F::ad true::ae s a b::ab k::ab (i64.wrap (2 * k))::jp m::r.val::ah g::jp A::jp A::jp A::bL A 6::ab f::ah (u64.wrap f)::ad ((g:Int) == (u64.wrap f))::ad ((g:Int) == (u64.wrap f))::ag j 87 35 [])))) (aP 3 (aZ (λd w=>W prog (sb f181 [1,1,1,1,1,1,1,0,1,0,0,1,1,1]) d (bI prog f181 R c) w) (bI prog f181 R c))) h) (W prog (sb f181 [1,1,1,1,1,1,1,0,1,0,0,1,1,0,0,1,1]) (uu A s a b false k i k (ag j 0 6 (ag j 7 62 (ad (k<i)::ab k::ad F::ad false::bD 13 (ad false::ag j 87 35 []))))) (aP 3 (aZ (λd w=>W prog (sb f181 [1,1,1,1,1,1,1,0,1,0,0,1,1,1]) d (bI prog f181 R c) w) (bI prog f181 R c))) l)) (c (.exit 2) (Am A s a b F (ag j 0 69 (ab i::ab k::ad (k<i)::ag j 70 52 []))) w)):=by kernel_rfl
theorem S0 (u:Exit->ar->aF):W prog (sb f181 [1,1,1,1,1,1,1,0,1,0,0,1,1,0,0,1,1]) (uu A s a b F i k l j) (bI prog f181 R u) w=(cw w λx f=>e6 f (bY A 13) λg h c=>bA s a (i64.wrap ((i64.wrap (2 * i))+1)) 2 λq=>e6 f (bY q 1) λp d m=>aS x #[ae p d m] 94 λt r=>f r/\db 218 (ae g h c) (ae (bo t) 1 1) r λe n o v=>f v/\cP v (bY A 13) (ae e n o) λy=>u .normal (An A s a b F k l (ag j 0 6 (ab i::ag j 6 80 (jp A::jp A::jp A::bL A 13::ae g h c::ae s a b::ab i::ab (i64.wrap (2 * i))::ab (i64.wrap ((i64.wrap (2 * i))+1))::jp q::bL q 1::ae p d m::ae (bo t) 1 1::ae e n o::jp A::bL A 13::ag j 102 19 [])))) y):=by kernel_rfl
theorem S1 (i:Exit->ar->aF):W prog (sb f181 [1,1,1,1,1,1,1,1]) (Am A s a b F j) (bI prog f181 R i) w=(bA s a (i64.wrap ((a:Nat) - 1)) 2 λl=>pN w l λr=>jB 196 #[r.val] w λd h=>cP h (bY A 14) (ah d) λe=>cond (!F) (dn 183 #[.pointer (some A)] e λf c=>cond f (dn 222 #[.pointer (some A),ab 11] c λg k=>R (ad g) k) (R (ad false) c)) (R (ad true) e)):=by kernel_rfl
theorem S2 (c:Exit->ar->aF):W prog (sb f181 [1,1,1,1,1,1,1,0,1,0,0,1,1,1]) (An A s a b F i k j) (bI prog f181 R c) w=(c .normal (sh A s a b F i (i64.wrap (k+1)) (ag j 0 103 (ab (i64.wrap (k+1))::ag j 104 18 []))) w):=by kernel_rfl
theorem Tn:bf prog f183 [ba a] R w=(cw w λp e=>hp e (af a 9) λi=>cV e (af a 5) λj=>j1 e (af a 12) λb=>ct 224 #[ab j] p λc l=>e l/\eM 223 #[ba a,i.val,ab c,ah b,ah 0] l λk o=>e o/\aS o k.cells.toArray 158 λq n=>e n/\jD 221 #[ba a,ae (bo q) 1 1] n λd f g h m=>e m/\R (ad h) m):=by kernel_rfl
end
end Go.Proofs.YtmkljjbioomepaaGreat
