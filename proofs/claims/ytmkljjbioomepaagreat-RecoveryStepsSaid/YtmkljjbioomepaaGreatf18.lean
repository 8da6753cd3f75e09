import Derived.Test.YtmkljjbioomepaaGreatf16
import Derived.Test.YtmkljjbioomepaaGreatf17
import Derived.Test.YtmkljjbioomepaaGreatf11
import Derived.Test.YtmkljjbioomepaaGreatProg
import Derived.Test.YtmkljjbioomepaaGreatf02
import Derived.Test.YtmkljjbioomepaaGreatf12
set_option linter.all false
set_option maxHeartbeats 4000000
set_option maxRecDepth 100000
namespace Go.Proofs.YtmkljjbioomepaaGreat
open Go.Proofs.Tryz Go.bd
variable {A M:a6}{R:bg}{a iX a2 pb:an}{kr n pc gR aN tb:Nat}{o:Int×Int}{u bF w0 z:aj}
section
structure A4 (j:bM):Prop where
 a3:0<=j.a3/\j.a3<6
 inc:1<=j.inc/\j.inc<=59
 num:0<=j.v.number/\j.v.number<16
 mem:0<j.v.mem.length/\j.v.mem.length<=5
 eS:∀ m ∈ j.v.mem,1<=m.cB/\m.cB<=31
 lines:98<=j.lines/\j.lines<=256
 dead:0<=j.dead/\j.dead<6
 fk:1<=j.fk/\j.fk<=60
 prev:ch j.prev
theorem Pm {j:bM}(h:j.valid=0)(hu:ch j.prev):A4 j:=by
 unfold bM.valid at h;split at h
 ·omega
 rename_i e;have e:ga j.inc j.a3=0:=by omega
 split at h
 ·omega
 rename_i n;split at h
 ·omega
 rename_i a;have a:j.v.valid 5=0:=by omega
 obtain⟨g,f⟩:=vM e;have b:=h;unfold bM.tail at b;split at b
 ·omega
 rename_i t1;split at b
 ·omega
 rename_i t2;split at b
 ·omega
 rename_i t3;unfold jj.valid at a;split at a
 ·omega
 split at a
 ·omega
 rename_i i;split at a
 ·omega
 rename_i k;split at a
 ·omega
 rename_i c;split at a
 ·omega
 rename_i d;have d:j.v.mem.all mU=true:=by grind
 have c:(List.range j.v.mem.length).all (kb (5:Nat) j.v.mem)=true:=vT _▸c;have l:=F' c;refine⟨f,g,by omega,by omega,λm hm=>?_,by omega,by omega,?_,hu⟩
 ·have:=iz.1 d m hm;unfold mU at this
  grind
 grind
abbrev ou:bU:=220
abbrev pr:bU:=175
structure eI where
 fs:an
 j2:Nat
 lc:Nat
 clock:Int
def iG (o:Int×Int):dA:=⟨o.1,0,0,0,o.2⟩
def pY (r:c3)(tb:Nat)(m:aU)(tag:Int)(V:eI)(o:Int×Int):au:=r.cells++(ptr tb::m.cells)++[.int .u64 tag,.slice V.fs V.j2 V.lc,.int .u64 V.clock]++(iG o).cells
structure dt (w0 u:aj)(aN tb:Nat)(r:c3)(m:aU)(j:bM)(V:eI)(o:Int×Int):Prop where
 ak:aq u aN (pY r tb m (gv j.inc j.a3) V o) ou
 job:qj w0 r j
 ct:A4 j
 mem:j.v.mem[0]?=some m
 new:ai w0 u
 pX:w0.heap.size<=aN
 kJ:w0.heap.size<=tb
 ne:aN≠tb
theorem dt.bK {r:c3}{m:aU}{j:bM}{V:eI}(h:dt w0 u aN tb r m j V o)(a:ai u bF):dt w0 bF aN tb r m j V o:=
 ⟨ai.ak a h.ak,h.job,h.ct,h.mem,h.new.new a,h.pX,h.kJ,h.ne⟩
theorem dt.aC {r:c3}{m:aU}{j:bM}{V:eI}(h:dt w0 u aN tb r m j V o)(a:ao M u bF)(b:∀ k,M k->w0.heap.size<=k/\k≠aN):dt w0 bF aN tb r m j V o:=
 ⟨a.ak h.ak λe=>(b _ e).2 rfl,h.job,h.ct,h.mem,h.new.trans a λk c e=>by grind,h.pX,h.kJ,h.ne⟩
theorem dt.num {w0 u:aj}{aN tb:Nat}{r:c3}{m:aU}{j:bM}{V:eI}{o:Int×Int}(h:dt w0 u aN tb r m j V o):r.View.Number=j.v.number:=by obtain⟨M,ar⟩:=h.job.view;exact ar.num
section
variable {w0 w:aj}{aN tb:Nat}{r:c3}{bP:aU}{j:bM}{V:eI}{o:Int×Int}
theorem Lk (h:dt w0 w aN tb r bP j V o){m:aU}(H:eb m.cB){v:aI}{x:bE}(ar:cQ M w v x) :
  a9 245 [ptr aN,m.val,v.val] w λy w'=>∃ l:aI,y=l.val/\cQ (λk=>k<w.heap.size) w' l (addr j.v.number m x)/\ai w w':=by
 refine a' Tryz.func245 ?_;rw[ptr,VI];rintro b1 w1 E u;obtain⟨g,p⟩:=bo E u;have g:aq w1 b1 m.cells eF:=g;clear u;rintro az U F z;obtain⟨i,f⟩:=bo F z;have i:aq U az v.cells cK:=i;clear z;rintro N L G A;obtain⟨d,c⟩:=bo G A;have d:aq L N (aI.cells ⟨0,0,0,0,0,0,none,0,0,0,0⟩) cK:=d;clear A;rintro D B;have b:ai L D:=by rw[B];exact cC _
 clear B;have a:=((p.new f).new c).new b;have Q:=p.size;have R:=f.size;have S:=c.size;have T:=b.size;have O:=h.bK a;have s:=h.num;have X:=h.ct.num;refine⟨λy=>ai D y,ao.refl _ _,c1.aT r.View ⟨λy C=>bJ (ai.ak C O.ak) rfl,aU.aT m ⟨λy C=>bJ (ai.ak (((f.new c).new b).new C) g) rfl,aI.aT v ⟨λy C=>bJ (ai.ak ((c.new b).new C) i) rfl,?_⟩⟩⟩⟩;refine aE (C1 D (by omega) (by omega) H (ar.aC (ao.b7 a) λ_ _ e=>e)) ?_;rintro y Y ⟨l,rfl,t,q⟩;refine aI.aT l ⟨rfl,dI (ai.ak (b.new q) d) rfl (aI.single _) λW J n=>?_⟩;have K:=d.lt;refine aI.aT l ⟨bJ J rfl,rfl,l,rfl,?_,(a.new q).trans n λk P e=>by omega⟩;rw[s]at t;have I:cQ (λk=>k<D.heap.size) W l (addr j.v.number m x):=t.aC (n.mono λk _ e=>by omega) λ_ _ e=>e
 exact I.aC (ao.refl _ _) λk _ e=>by omega
theorem A5 (h:dt w0 w aN tb r bP j V o){m:aU}(A:eb m.cB){v:aI}{x:bE}(ar:cQ M w v x) :
  ∀ b1 w1,b1=w.heap.size->w1=w.alloc (.cells m.cells.toArray eF)->∀ az l,az=w1.heap.size->l=w1.alloc (.cells #[.int .i64 0,.int .i64 0,.int .i64 0,.int .i64 0,.int .u64 0,.int .u64 0,.slice none 0 0,.int .u64 0,.int .i64 0] cK)->aU.ex λr=>b6 l ⟨b1,0,none⟩ 0 r.cells/\
   Calls prog 245 #[ptr aN,r.val,v.val] l λe E=>aI.ex λa=>e=.returned a.val/\dT E ⟨az,0,none⟩ 0 a.cells/\∀ d,d=cv E ⟨az,0,none⟩ 0 a.cells->aI.ex λres=>b6 d ⟨az,0,none⟩ 0 res.cells/\d=d/\
    (∃ i:aI,res.val=i.val/\cQ (λk=>k<w.heap.size) d i (addr j.v.number m x)/\ai w d):=by
 rintro b1 w1 u s;obtain⟨g,p⟩:=bo u s;have g:aq w1 b1 m.cells eF:=g;clear s;rintro az l z t;obtain⟨c,f⟩:=bo z t;have c:aq l az (aI.cells ⟨0,0,0,0,0,0,none,0,0,0,0⟩) cK:=c;clear t;have b:=p.new f;have H:=p.size;have I:=f.size;refine aU.aT m ⟨bJ (ai.ak f g) rfl,?_⟩;refine aE (Lk (h.bK b) A (ar.aC (ao.b7 b) λ_ _ e=>e)) ?_;rintro y E ⟨i,rfl,B,q⟩;refine aI.aT i ⟨rfl,dI (ai.ak q c) rfl (aI.single _) λd D n=>?_⟩;have F:=c.lt;refine aI.aT i ⟨bJ D rfl,rfl,i,rfl,?_,(b.new q).trans n λk G e=>by omega⟩;have C:cQ (λk=>k<l.heap.size) d i (addr j.v.number m x):=B.aC (n.mono λk _ e=>by omega) λ_ _ e=>e
 exact C.aC (ao.refl _ _) λk _ e=>by omega
abbrev A6 (w:aj)(x:bE)(y:bl)(w':aj):Prop:=∃ a:aI,y=a.val/\cQ (λk=>k<w.heap.size) w' a x/\ai w w'
def lU (j:bM)(m:aU)(at_:Int)(ws:ba):bE:=addr j.v.number m ⟨2,0,at_,0,0,0,ws,0,0⟩
def m0 (j:bM)(m:aU)(at_ n:Int):bE:=addr j.v.number m ⟨1,0,at_,n,0,0,[],0,0⟩
def si (j:bM)(m:aU)(at_ old new:Int):bE:=addr j.v.number m ⟨3,0,at_,0,old,new,[],0,0⟩
theorem v9 (h:dt w0 w aN tb r bP j V o){m:aU}(b:eb m.cB)(at_:Int){c:Nat}{ws:ba}(i:bh w a (us ws))(g:n=ws.length)(e:n<=c)(d:a=none->ws=[])(hu:∀ x ∈ ws,ch x)(f:ws.length<=1000000) :
  a9 250 [ptr aN,m.val,.int .i64 at_,.slice a n c] w (A6 w (lU j m at_ ws)):=by
 refine a' Tryz.func250 ?_;rw[ptr,W1];exact A5 h b (v:=⟨2,0,at_,0,0,0,a,n,c,0,0⟩) (x:=⟨2,0,at_,0,0,0,ws,0,0⟩) (p9 (k:=2) (at_:=at_) (nn:=0) (old:=0) (new:=0) i g e d hu f gU gU)
theorem tM (h:dt w0 w aN tb r bP j V o){m:aU}(b:eb m.cB)(at_ n:Int):a9 220 [ptr aN,m.val,.int .i64 at_,.int .i64 n] w (A6 w (m0 j m at_ n)):=by refine a' Tryz.func220 ?_;rw[ptr,Xi];exact A5 h b (v:=⟨1,0,at_,n,0,0,none,0,0,0,0⟩) (x:=⟨1,0,at_,n,0,0,[],0,0⟩) (p9 (k:=1) (at_:=at_) (nn:=n) (old:=0) (new:=0) (a:=none) (n:=0) (c:=0) (ws:=[]) (.inl rfl) rfl (by omega) (λ_=>rfl) (λx d=>by cases d) (by simp) gU gU)
theorem wK (h:dt w0 w aN tb r bP j V o){m:aU}(b:eb m.cB)(at_:Int){old new:Int}(e:ch old)(d:ch new):a9 223 [ptr aN,m.val,.int .i64 at_,.int .u64 old,.int .u64 new] w (A6 w (si j m at_ old new)):=by refine a' Tryz.func223 ?_;rw[ptr,X'];exact A5 h b (v:=⟨3,0,at_,0,old,new,none,0,0,0,0⟩) (x:=⟨3,0,at_,0,old,new,[],0,0⟩) (p9 (k:=3) (at_:=at_) (nn:=0) (old:=old) (new:=new) (a:=none) (n:=0) (c:=0) (ws:=[]) (.inl rfl) rfl (by omega) (λ_=>rfl) (λx f=>by cases f) (by simp) e d)
theorem Ge (h:dt w0 w aN tb r bP j V o)(c:Int×Int){K:aK}(d:∀ w',ao (λk=>k=aN) w w'->dt w0 w' aN tb r bP j V c->K w') :
  dT w ⟨aN,15,none⟩ 0 (iG c).cells/\∀ w1,w1=cv w ⟨aN,15,none⟩ 0 (iG c).cells->K w1:=by
 refine⟨fU h.ak (dr 20) (dA.single _),λw1 b=>?_⟩;have a:ao (λk=>k=aN) w w1:=by rw[b];exact hD _ _ _ _ _
 refine d w1 a ⟨?_,h.job,h.ct,h.mem,h.new.trans a λk f e=>by have:=h.pX;omega,h.pX,h.kJ,h.ne⟩;rw[b];exact h.ak.cv (vs:=(iG c).cells) (o:=15) (i:=0)
theorem wo (h:dt w0 w aN tb r bP j V o)(e:Int):a9 222 [ptr aN,.int .i64 e] w λv w'=>v=.bool false/\ao (λk=>k=aN) w w'/\dt w0 w' aN tb r bP j V (e,0):=by refine a' Tryz.func222 ?_;rw[ptr,Xk];exact Ge h (e,0) λw' b a=>⟨rfl,b,a⟩
end
structure eE (A:a6)(w0 u:aj)(aN tb B:Nat)(r:c3)(m:aU)(j:bM)(V:eI)(R:cq)(bF:aj):Prop where
 aC:ao (λk=>k=tb\/k=aN) u bF
 eD:dt w0 bF aN tb r m j V R.out
 fN:∃ ib:eG,eJ A w0 bF tb ib R.a_/\ib.dC=R.dC/\(match R.ask with
  |none=>ib.e4=0
  |some vs=>0<vs.length/\∃ w1,ai w0 w1/\B<=w1.heap.size/\bO w1 bF ib.aa ib.e4 ib.ac vs)
theorem nM {r:c3}{m:aU}{j:bM}{V:eI}(w:dt w0 u aN tb r m j V (0,0)){T:eG}{G:bn}(z:eJ A w0 u tb T G)(C:f8 T){w1:aj}(Y:ai w0 w1)(aL:tb<w1.heap.size)(aI:aN<w1.heap.size){cap:Nat}{vs:bu}(ar:bO w1 u a n cap vs)(ae:vs.length<=100000) :
  a9 221 [ptr aN,.slice a n cap] u λv bF=>∃ (dB:an) (dc:Nat) (raw:List bR),v=.tuple #[.slice dB raw.length dc,.bool (cm G vs 0).ok]/\
   eE A w0 u aN tb w1.heap.size r m j V (cm G vs 0) bF/\bh w0 dB (fL raw).flatten/\gX A w0 raw (cm G vs 0).done/\((cm G vs 0).ok=true->raw.length=vs.length):=by
 refine a' Tryz.func221 ?_;rw[ptr,Xj];obtain⟨K,p,J⟩:=ar.ex;have aR:=J.1;have U:=ar.len;have aM:=z.ak.lt;have S:=w.ne;refine⟨_,w.ak.cell (i:=8) rfl,?_⟩;have E:n=K.length:=by omega
 rw[E]at p;have ad:=Fi (A:=A) w.new w.kJ z.ak z.a_ z.fw z.gc (aa:=a) (ac:=cap) p.rd J (by omega);rw[<-E]at ad;refine aE ad ?_;rintro v b3 ⟨ab,dB,dc,raw,rfl,N,s,I,g,D,Q,P,Z,f⟩;rw[C.dC,Bool.false_or]at Z;have q:dt w0 b3 aN tb r m j V (0,0):=w.aC s λk e=>⟨by have:=w.kJ;omega,by omega⟩
 have aP:bO w1 b3 a n cap vs:=ar.aC s λk e=>by omega
 refine⟨_,_,_,_,rfl,?_⟩;have fin:∀ {y:aj},ao (λk=>k=aN) b3 y->∀ {R:cq},R.a_=(batch G vs).a_->R.dC=(batch G vs).dC->R.ask=(batch G vs).ask->dt w0 y aN tb r m j V R.out->eE A w0 u aN tb w1.heap.size r m j V R y:=by
  intro y l R af aV ag W;have o:ao (λk=>k=tb\/k=aN) u y:=(s.mono λ_ _ e=>Or.inl e).trans l λk _ e=>.inr e
  refine⟨o,W,ab,?_,by grind,?_⟩
  ·rw[af];exact⟨l.ak N (λe=>S e.symm),D,Q,P⟩
  ·rw[ag];cases L:(batch G vs).ask with
   |none=>rw[L]at f;obtain⟨_,M,_⟩:=f;show ab.e4=0;rw[M];exact C.e4
   |some ws=>rw[L]at f;obtain⟨ah,M,aq⟩:=f;have:=Dt L;subst this;refine⟨Fl L,w1,Y,dr _,?_⟩;rw[ah,M,aq,<-U];exact ar.aC o λk e=>by grind
 unfold cm;refine eu (λc=>?_) (λc=>?_)
 ·rw[bm c];exact⟨none,0,[],rfl,fin (ao.refl _ _) rfl rfl rfl q,.inl rfl,⟨rfl,λi v x ar=>by grind⟩,λh=>by cases h⟩
 ·rw[aW (by grind)];obtain⟨F,H⟩:=EL c;refine aE (EP q.new rfl I g (by have:=g.1;grind[ri])) ?_;rintro v bz ⟨rfl,t⟩;have B:=q.bK t;refine⟨_,rfl,dw (λe=>?_) (λe=>?_)⟩
  ·rw[bm e];refine aE (wo B (ho (batch G vs).done)) ?_;rintro v y ⟨rfl,l,O⟩;exact⟨_,rfl,none,0,[],rfl,fin ((ao.b7 t).trans l λ_ _ e=>e) rfl H.symm F.symm O,.inl rfl,⟨rfl,λi v x ar=>by grind⟩,λh=>by cases h⟩
  ·rw[aW (by grind)];refine⟨dB,dc,raw,rfl,fin (ao.b7 t) rfl H.symm F.symm B,I,g,λ_=>?_⟩
   by_cases X:vs.length=0
   ·have:=g.1;grind[ri]
   ·have b:=g.1;unfold batch at c b;rw[aW X]at c b;cases G with
    |nil=>grind
    |cons d aT=>
     simp only at c b;split at c
     ·rename_i aB;rw[bm aB]at b
      grind[wk]
     grind
end
section
open IntKind
variable (w:aj)(R:bg){a b c d e f g h:Nat}{A B:aw}{s t u v:an}{i k l m:Int}{j:al}{F:Bool}
def uV (e:aw)(l:an)(a b:Nat)(n:an)(c d:Nat)(f:an)(g h:Nat)(i k:Int)(j:al):al:=.pointer (some e)::ae j 0 2 (af l a b::af n c d::ae j 2 24 (af f g h::ab i::ab k::ae j 26 136 []))
def BB (a:aw)(e:an)(b c:Nat)(g:an)(d f:Nat)(j:al):al:=.pointer (some a)::ae j 0 2 (af e b c::af g d f::ae j 2 163 [])
def xG (e:aw)(q:an)(a b:Nat)(r:an)(c d:Nat)(s:aw)(f:an)(g h:Nat)(i k:Int)(l:an)(m n:Nat)(o p:Int)(j:al):al:=.pointer (some e)::ae j 0 2 (af q a b::af r c d::ae j 2 1 (.pointer (some s)::ae j 3 22 (af f g h::ab i::ab k::ae j 25 3 (af l m n::ab o::ab p::ae j 28 130 []))))
def Hb (a:aw)(e:an)(b c:Nat)(n:an)(d f:Nat)(g:an)(h i:Nat)(k l:Int)(j:al):al:=.pointer (some a)::ae j 0 2 (af e b c::af n d f::ae j 2 24 (af g h i::ab k::ab l::ae j 26 136 []))
def qM (e:aw)(p:an)(a b:Nat)(c:an)(d f:Nat)(g:an)(h i:Nat)(k:an)(l m:Nat)(n o:Int)(j:al):al:=.pointer (some e)::ae j 0 2 (af p a b::ae j 2 7 (af c d f::af g h i::ae j 9 47 (af k l m::ab n::ab o::ae j 56 105 [])))
def qN (a:aw)(e:an)(b c:Nat)(d:an)(f g:Nat)(h:an)(i k:Nat)(l:Int)(m:aw)(n:Int)(o:an)(p q:Nat)(r s:Int)(t:Bool)(j:al):al:=.pointer (some a)::ae j 0 2 (af e b c::ae j 2 7 (af d f g::af h i k::ab l::ae j 9 1 (.pointer (some m)::ag n::ae j 10 43 (af o p q::ab r::ab s::ae j 53 13 (ad t::ae j 66 91 [])))))
def xH (a:aw)(b:an)(c d:Nat)(f:an)(g h:Nat)(j:al):al:=.pointer (some a)::ae j 0 10 (af b c d::af f g h::ae j 10 155 [])
def xI (a:aw)(e:an)(b c:Nat)(d:an)(f g:Nat)(h:an)(i k:Nat)(l:an)(m n:Nat)(o p:Int)(j:al):al:=.pointer (some a)::ae j 0 2 (af e b c::ae j 2 7 (af d f g::af h i k::ae j 9 47 (af l m n::ab o::ab p::ae j 56 105 [])))
def sw (e:aw)(a:an)(b c:Nat)(d:an)(f g:Nat)(h:an)(i k:Nat)(l m:Int)(j:al):al:=.pointer (some e)::ae j 0 10 (af a b c::af d f g::ae j 10 116 (af h i k::ab l::ab m::ae j 126 36 []))
def nv (a:aw)(b:an)(c d:Nat)(f:an)(g h:Nat)(i:an)(k l:Nat)(m n:Int)(o:Bool)(j:al):al:=.pointer (some a)::ae j 0 10 (af b c d::af f g h::ae j 10 116 (af i k l::ab m::ab n::ae j 126 32 (ad o::ae j 158 3 [])))
def By  (j:al):al:=ae j 0 168 []
def Hc (a:aw)(b:an)(c d:Nat)(f:an)(g h:Nat)(i:an)(k l:Nat)(m n:Int)(j:al):al:=.pointer (some a)::ae j 0 10 (af b c d::af f g h::ae j 10 116 (af i k l::ab m::ab n::ae j 126 36 []))
theorem W2:bc prog f179 [bb a] R w=(eV 219 #[bb a] w λe b c h=>bY h (ah a 4) λd f g=>cj prog (cN f179 [1,1,1,0,1,0,0]) (uV (ah a 0) e b c none 0 0 d f g (f:Nat) 0 (undef::ad false::a1 17 (jp (ah a 0)::af e b c::jp (ah a 0)::jp (ah a 0)::jp (ah a 0)::jp (ah a 3)::jp (ah a 4)::a1 136 []))) (aL 0 (aS f179 [1,1,1,1] R)) h):=by kernel_rfl
theorem T6 (g:bH):W prog (sb f179 [1,1,1,0,1,0,0]) (uV A s a b t c d u e f i k j) (aV prog f179 R g) w=(cond (k<i) (bk u e k 3 λh=>iq w h λr=>aR w #[ab 0,ab 0,ad false] 116 λl n=>a8 n (ah l 0) 0 r.cells λo=>cj prog (cN f179 [1,1,1,0,1,0,0,1,1,0,0,1,1,0,0]) (xG A s a b t c d (ah l 0) u e f i k s a b (a:Nat) 0 (aB j 0::aB j 1::aB j 2::ae j 4 22 (ad (k<i)::jp h::r.val::ae j 32 130 []))) (aL 2 (aL 1 (aM (λm w=>W prog (sb f179 [1,1,1,0,1,0,0,1,1,1]) m (aV prog f179 R g) w) (aV prog f179 R g)))) o) (g (.exit 0) (BB A s a b t c d (ae j 0 26 (af u e f::ab i::ab k::ad (k<i)::ae j 27 135 []))) w)):=by kernel_rfl
theorem UU (e:bH):W prog (sb f179 [1,1,1,1]) (BB A s a b t c d j) (aV prog f179 R e) w=(h4 221 #[.pointer (some A),af t c d] w λg h i k f=>cond (!k) (R (ad false) f) (cj prog (cN f179 [1,1,1,1,1,1,1,1,0,1,0,0]) (qM A s a b none 0 0 none 0 0 g h i (h:Nat) 0 (aB j 0::aB j 1::af t c d::ae j 2 4 (af g h i::ad k::ae j 10 39 (.tuple #[af g h i,ad k]::jp A::af t c d::.tuple #[af g h i,ad k]::af g h i::ad k::ad k::ad (!k)::ae j 60 105 [])))) (aL 4 (aM (λl w=>W prog (sb f179 [1,1,1,1,1,1,1,1,1]) l (aV prog f179 R e) w) (aV prog f179 R e))) f)):=by kernel_rfl
theorem T7 (D:bH):W prog (sb f179 [1,1,1,0,1,0,0,1,1,0,0,1,1,0,0]) (xG A s a b t c d B u e f i k v g h l m j) (aV prog f179 R D) w=(cond (m<l) (bk v g m 3 λK=>Iu w K λr=>aR w #[ab 0,ag 0,ad false] 309 λz N=>a8 N (ah z 0) 0 r.cells λL=>ck L λM p=>hf p B λH=>cA p (ah z 0) λq=>cx 106 #[ab q] M λn E=>p E/\eH 220 #[.pointer (some A),H.val,ab n,ab 1] E λx I=>p I/\aR I x.cells.toArray 158 λF G=>p G/\da 125 (af t c d) (af (bs F) 1 1) G λC o y bf=>p bf/\D .normal (xG A s a b C o y B u e f i k v g h l (i64.wrap (m+1)) (ae j 0 4 (jp (ah z 0)::ae j 5 23 (ad (m<l)::jp K::r.val::af t c d::jp A::H.val::jp (ah z 0)::ab q::ab n::x.val::af (bs F) 1 1::af C o y::ab (i64.wrap (m+1))::ae j 41 117 [])))) bf) (D (.exit 2) (Hb A s a b t c d u e f i k (aB j 0::aB j 1::aB j 2::jp B::ae j 3 25 (af v g h::ab l::ab m::ad (m<l)::ae j 29 129 []))) w)):=by kernel_rfl
theorem UW (g:bH):W prog (sb f179 [1,1,1,0,1,0,0,1,1,1]) (Hb A s a b t c d u e f i k j) (aV prog f179 R g) w=(g .normal (uV A s a b t c d u e f i (i64.wrap (k+1)) (ae j 0 45 (ab (i64.wrap (k+1))::ae j 46 116 []))) w):=by kernel_rfl
theorem T8 (o:bH):W prog (sb f179 [1,1,1,1,1,1,1,1,0,1,0,0]) (qM A s a b t c d u e f v g h i k j) (aV prog f179 R o) w=(cond (k<i) (bk v g k 2 λI=>pU w I λr=>aR w #[ab 0,a4] 131 λE Q=>a8 Q (ah E 0) 0 r.cells λP=>ck P λN B=>IntKind.i64=IntKind.i64/\(a:Int)≠0/\bk s a (Int.tmod k (a:Nat)) 3 λy=>Iv B y λF=>yS B (ah E 0) λG=>(iJ 196 #[G.val] N λp K=>B K/\aR K #[ab 0,ag 0,ad false] 309 λz M=>B M/\a8 M (ah z 0) 0 F.cells λH=>B H/\js H (ah z 2) λq=>cond q (dp H (ah z 1) λl=>W prog (sb f179 [1,1,1,1,1,1,1,1,0,1,0,0,1,1,0,0,1,1,0,1]) (qN A s a b t c d u e f k (ah z 0) p v g h i k (decide ((p:Int)>l)) (ae j 0 9 (jp (ah E 0)::ae j 13 43 (ad (k<i)::ab k::jp I::r.val::af s a b::ab k::af s a b::cd a::ab (Int.tmod k (a:Nat))::jp y::F.val::G.val::ag p::jp (ah z 2)::ad q::ad true::ag p::jp (ah z 1)::ag l::ad (p>l)::ad (p>l)::ae j 78 83 [])))) (aL 6 (aL 5 (aM (λD w=>W prog (sb f179 [1,1,1,1,1,1,1,1,0,1,0,0,1,1,1]) D (aV prog f179 R o) w) (aV prog f179 R o)))) H) (W prog (sb f179 [1,1,1,1,1,1,1,1,0,1,0,0,1,1,0,0,1,1,0,1]) (qN A s a b t c d u e f k (ah z 0) p v g h i k false (ae j 0 9 (jp (ah E 0)::ae j 13 43 (ad (k<i)::ab k::jp I::r.val::af s a b::ab k::af s a b::cd a::ab (Int.tmod k (a:Nat))::jp y::F.val::G.val::ag p::jp (ah z 2)::ad q::ad false::a1 4 (ad false::ae j 78 83 []))))) (aL 6 (aL 5 (aM (λD w=>W prog (sb f179 [1,1,1,1,1,1,1,1,0,1,0,0,1,1,1]) D (aV prog f179 R o) w) (aV prog f179 R o)))) H))/\aR N #[ab 0,ag 0,ad false] 309 λC L=>B L/\iJ 196 #[G.val] L λm O=>B O/\a8 O (ah C 0) 0 F.cells λbf=>B bf/\js bf (ah C 2) λn=>cond n (dp bf (ah C 1) λx=>W prog (sb f179 [1,1,1,1,1,1,1,1,0,1,0,0,1,1,0,0,1,1,0,1]) (qN A s a b t c d u e f k (ah C 0) m v g h i k (decide ((m:Int)>x)) (ae j 0 9 (jp (ah E 0)::ae j 13 43 (ad (k<i)::ab k::jp I::r.val::af s a b::ab k::af s a b::cd a::ab (Int.tmod k (a:Nat))::jp y::F.val::G.val::ag m::jp (ah C 2)::ad n::ad true::ag m::jp (ah C 1)::ag x::ad (m>x)::ad (m>x)::ae j 78 83 [])))) (aL 6 (aL 5 (aM (λD w=>W prog (sb f179 [1,1,1,1,1,1,1,1,0,1,0,0,1,1,1]) D (aV prog f179 R o) w) (aV prog f179 R o)))) bf) (W prog (sb f179 [1,1,1,1,1,1,1,1,0,1,0,0,1,1,0,0,1,1,0,1]) (qN A s a b t c d u e f k (ah C 0) m v g h i k false (ae j 0 9 (jp (ah E 0)::ae j 13 43 (ad (k<i)::ab k::jp I::r.val::af s a b::ab k::af s a b::cd a::ab (Int.tmod k (a:Nat))::jp y::F.val::G.val::ag m::jp (ah C 2)::ad n::ad false::a1 4 (ad false::ae j 78 83 []))))) (aL 6 (aL 5 (aM (λD w=>W prog (sb f179 [1,1,1,1,1,1,1,1,0,1,0,0,1,1,1]) D (aV prog f179 R o) w) (aV prog f179 R o)))) bf)) (o (.exit 4) (xH A t c d u e f (aB j 0::aB j 1::af s a b::ae j 2 54 (af v g h::ab i::ab k::ad (k<i)::ae j 57 104 []))) w)):=by kernel_rfl
theorem UX (E:bH):W prog (sb f179 [1,1,1,1,1,1,1,1,0,1,0,0,1,1,0,0,1,1,0,1]) (qN A s a b t c d u e f i B k v g h l m F j) (aV prog f179 R E) w=(cond F (c6 222 #[.pointer (some A),ab 11] w λx aI=>R (ad x) aI) (dp w (br B 1) λy=>cond (k<y) (ck w λaq n=>dS n (ah A.block (A.off+3+1)) λz X aM=>IntKind.i64=IntKind.i64/\(a:Int)≠0/\bk z X (i64.wrap (Int.tdiv i (a:Nat))) 3 λN=>hf n N λr=>aR aq #[ab 0,ab 0,ad false] 116 λC O=>n O/\a8 O (ah C 0) 0 r.cells λU=>ck U λaL p=>hf p (ah C 0) λH=>cA p B λS=>hd p (br B 1) λY=>cx 106 #[ab S] aL λG T=>p T/\eH 223 #[.pointer (some A),H.val,ab G,ag k,ag Y] T λo I=>p I/\aR I o.cells.toArray 158 λQ P=>p P/\da 125 (af t c d) (af (bs Q) 1 1) P λq J bf D=>p D/\Iu D B λK=>aR D K.cells.toArray 309 λM ao=>da 306 (af u e f) (af (bs M) 1 1) ao λZ V L aE=>E .normal (xI A s a b q J bf Z V L v g h l m (ae j 0 9 (ab i::aB j 9::jp B::ag k::jp (ah C 0)::ae j 11 55 (ad F::ae j 66 10 (ad (k<y)::ag k::a7 B 1::ag y::ad (k<y)::jp A::jp A::jp A::a7 A 3::jp (ah A.block (A.off+3+1))::af z X aM::ab i::af s a b::cd a::ab (i64.wrap (Int.tdiv i (a:Nat)))::jp N::r.val::af t c d::jp A::H.val::jp B::ab S::ab G::ag k::a7 B 1::ag Y::o.val::af (bs Q) 1 1::af q J bf::af u e f::K.val::af (bs M) 1 1::af Z V L::ae j 109 48 []))))) aE) (E .normal (xI A s a b t c d u e f v g h l m (ae j 0 9 (ab i::aB j 9::jp B::ag k::ae j 10 56 (ad F::ae j 66 10 (ad (k<y)::ag k::a7 B 1::ag y::ad (k<y)::ae j 81 76 []))))) w))):=by kernel_rfl
theorem UY (e:bH):W prog (sb f179 [1,1,1,1,1,1,1,1,1]) (xH A s a b t c d j) (aV prog f179 R e) w=(h4 221 #[.pointer (some A),af s a b] w λi k l m f=>cond (!m) (R (ad false) f) (cj prog (cN f179 [1,1,1,1,1,1,1,1,1,1,1,0,1,0,0]) (sw A s a b t c d i k l (k:Nat) 0 (ae j 0 8 (af i k l::ad m::ae j 10 108 (.tuple #[af i k l,ad m]::jp A::af s a b::.tuple #[af i k l,ad m]::af i k l::ad m::ad m::ad (!m)::ae j 129 36 [])))) (aL 7 (aM (λg w=>W prog (sb f179 [1,1,1,1,1,1,1,1,1,1,1,1]) g (aV prog f179 R e) w) (aV prog f179 R e))) f)):=by kernel_rfl
theorem UZ (l:bH):W prog (sb f179 [1,1,1,1,1,1,1,1,0,1,0,0,1,1,1]) (xI A s a b t c d u e f v g h i k j) (aV prog f179 R l) w=(l .normal (qM A s a b t c d u e f v g h i (i64.wrap (k+1)) (ae j 0 113 (ab (i64.wrap (k+1))::ae j 114 47 []))) w):=by kernel_rfl
theorem T9 (l:bH):W prog (sb f179 [1,1,1,1,1,1,1,1,1,1,1,0,1,0,0]) (sw A s a b t c d u e f i k j) (aV prog f179 R l) w=(cond (k<i) (bk u e k 2 λG=>pU w G λr=>aR w #[ab 0,a4] 131 λD J=>a8 J (ah D 0) 0 r.cells λT=>ck T λP M=>yS M (ah D 0) λE=>bk t c k 3 λbf=>Iv M bf λF=>(iJ 196 #[E.val] P λn N=>M N/\aR N #[ab 0,ag 0,ad false] 309 λC S=>M S/\a8 S (ah C 0) 0 F.cells λL=>bk s a k 9 λI=>dp L (br I 4) λo=>cond (n != o) (dp L (ah C 1) λp=>cond (n != p) (js L (ah C 2) λq=>cond q (W prog (sb f179 [1,1,1,1,1,1,1,1,1,1,1,0,1,0,0,1,1,0,0,1,1,1]) (nv A s a b t c d u e f i k true (ae j 0 15 (ab k::jp (ah D 0)::ag n::jp (ah C 0)::ae j 19 107 (ad (k<i)::ab k::jp G::r.val::E.val::ag n::af t c d::ab k::jp bf::F.val::ag n::af s a b::ab k::jp I::a7 I 4::ag o::ad ((n:Int) != o)::ad true::ag n::jp (ah C 1)::ag p::ad ((n:Int) != p)::ad ((n:Int) != p)::ad true::jp (ah C 2)::ad q::ad true::a1 4 [ad true,aB j 159,aB j 160,aB j 161])))) (aL 8 (aM (λm w=>W prog (sb f179 [1,1,1,1,1,1,1,1,1,1,1,0,1,0,0,1,1,1]) m (aV prog f179 R l) w) (aV prog f179 R l))) L) (dp L (ah C 1) λh=>W prog (sb f179 [1,1,1,1,1,1,1,1,1,1,1,0,1,0,0,1,1,0,0,1,1,1]) (nv A s a b t c d u e f i k (decide ((n:Int)<h)) (ae j 0 15 (ab k::jp (ah D 0)::ag n::jp (ah C 0)::ae j 19 107 [ad (k<i),ab k,jp G,r.val,E.val,ag n,af t c d,ab k,jp bf,F.val,ag n,af s a b,ab k,jp I,a7 I 4,ag o,ad ((n:Int) != o),ad true,ag n,jp (ah C 1),ag p,ad ((n:Int) != p),ad ((n:Int) != p),ad true,jp (ah C 2),ad q,ad false,ag n,jp (ah C 1),ag h,ad (n<h),ad (n<h),aB j 159,aB j 160,aB j 161]))) (aL 8 (aM (λm w=>W prog (sb f179 [1,1,1,1,1,1,1,1,1,1,1,0,1,0,0,1,1,1]) m (aV prog f179 R l) w) (aV prog f179 R l))) L)) (W prog (sb f179 [1,1,1,1,1,1,1,1,1,1,1,0,1,0,0,1,1,0,0,1,1,1]) (nv A s a b t c d u e f i k false (ae j 0 15 (ab k::jp (ah D 0)::ag n::jp (ah C 0)::ae j 19 107 (ad (k<i)::ab k::jp G::r.val::E.val::ag n::af t c d::ab k::jp bf::F.val::ag n::af s a b::ab k::jp I::a7 I 4::ag o::ad ((n:Int) != o)::ad true::ag n::jp (ah C 1)::ag p::ad ((n:Int) != p)::ad ((n:Int) != p)::ad false::a1 8 [aB j 159,aB j 160,aB j 161])))) (aL 8 (aM (λm w=>W prog (sb f179 [1,1,1,1,1,1,1,1,1,1,1,0,1,0,0,1,1,1]) m (aV prog f179 R l) w) (aV prog f179 R l))) L)) (W prog (sb f179 [1,1,1,1,1,1,1,1,1,1,1,0,1,0,0,1,1,0,0,1,1,1]) (nv A s a b t c d u e f i k false (ae j 0 15 (ab k::jp (ah D 0)::ag n::jp (ah C 0)::ae j 19 107 (ad (k<i)::ab k::jp G::r.val::E.val::ag n::af t c d::ab k::jp bf::F.val::ag n::af s a b::ab k::jp I::a7 I 4::ag o::ad ((n:Int) != o)::ad false::a1 4 (ad false::ad false::a1 8 [aB j 159,aB j 160,aB j 161]))))) (aL 8 (aM (λm w=>W prog (sb f179 [1,1,1,1,1,1,1,1,1,1,1,0,1,0,0,1,1,1]) m (aV prog f179 R l) w) (aV prog f179 R l))) L))/\aR P #[ab 0,ag 0,ad false] 309 λB O=>M O/\iJ 196 #[E.val] O λg Q=>M Q/\a8 Q (ah B 0) 0 F.cells λK=>bk s a k 9 λH=>dp K (br H 4) λv=>cond (g != v) (dp K (ah B 1) λx=>cond (g != x) (js K (ah B 2) λy=>cond y (W prog (sb f179 [1,1,1,1,1,1,1,1,1,1,1,0,1,0,0,1,1,0,0,1,1,1]) (nv A s a b t c d u e f i k true (ae j 0 15 (ab k::jp (ah D 0)::ag g::jp (ah B 0)::ae j 19 107 (ad (k<i)::ab k::jp G::r.val::E.val::ag g::af t c d::ab k::jp bf::F.val::ag g::af s a b::ab k::jp H::a7 H 4::ag v::ad ((g:Int) != v)::ad true::ag g::jp (ah B 1)::ag x::ad ((g:Int) != x)::ad ((g:Int) != x)::ad true::jp (ah B 2)::ad y::ad true::a1 4 [ad true,aB j 159,aB j 160,aB j 161])))) (aL 8 (aM (λm w=>W prog (sb f179 [1,1,1,1,1,1,1,1,1,1,1,0,1,0,0,1,1,1]) m (aV prog f179 R l) w) (aV prog f179 R l))) K) (dp K (ah B 1) λz=>W prog (sb f179 [1,1,1,1,1,1,1,1,1,1,1,0,1,0,0,1,1,0,0,1,1,1]) (nv A s a b t c d u e f i k (decide ((g:Int)<z)) (ae j 0 15 (ab k::jp (ah D 0)::ag g::jp (ah B 0)::ae j 19 107 [ad (k<i),ab k,jp G,r.val,E.val,ag g,af t c d,ab k,jp bf,F.val,ag g,af s a b,ab k,jp H,a7 H 4,ag v,ad ((g:Int) != v),ad true,ag g,jp (ah B 1),ag x,ad ((g:Int) != x),ad ((g:Int) != x),ad true,jp (ah B 2),ad y,ad false,ag g,jp (ah B 1),ag z,ad (g<z),ad (g<z),aB j 159,aB j 160,aB j 161]))) (aL 8 (aM (λm w=>W prog (sb f179 [1,1,1,1,1,1,1,1,1,1,1,0,1,0,0,1,1,1]) m (aV prog f179 R l) w) (aV prog f179 R l))) K)) (W prog (sb f179 [1,1,1,1,1,1,1,1,1,1,1,0,1,0,0,1,1,0,0,1,1,1]) (nv A s a b t c d u e f i k false (ae j 0 15 (ab k::jp (ah D 0)::ag g::jp (ah B 0)::ae j 19 107 (ad (k<i)::ab k::jp G::r.val::E.val::ag g::af t c d::ab k::jp bf::F.val::ag g::af s a b::ab k::jp H::a7 H 4::ag v::ad ((g:Int) != v)::ad true::ag g::jp (ah B 1)::ag x::ad ((g:Int) != x)::ad ((g:Int) != x)::ad false::a1 8 [aB j 159,aB j 160,aB j 161])))) (aL 8 (aM (λm w=>W prog (sb f179 [1,1,1,1,1,1,1,1,1,1,1,0,1,0,0,1,1,1]) m (aV prog f179 R l) w) (aV prog f179 R l))) K)) (W prog (sb f179 [1,1,1,1,1,1,1,1,1,1,1,0,1,0,0,1,1,0,0,1,1,1]) (nv A s a b t c d u e f i k false (ae j 0 15 (ab k::jp (ah D 0)::ag g::jp (ah B 0)::ae j 19 107 (ad (k<i)::ab k::jp G::r.val::E.val::ag g::af t c d::ab k::jp bf::F.val::ag g::af s a b::ab k::jp H::a7 H 4::ag v::ad ((g:Int) != v)::ad false::a1 4 (ad false::ad false::a1 8 [aB j 159,aB j 160,aB j 161]))))) (aL 8 (aM (λm w=>W prog (sb f179 [1,1,1,1,1,1,1,1,1,1,1,0,1,0,0,1,1,1]) m (aV prog f179 R l) w) (aV prog f179 R l))) K)) (l (.exit 7) (By  (jp A::ae j 0 10 (af s a b::af t c d::ae j 10 116 (af u e f::ab i::ab k::ad (k<i)::ae j 127 35 [])))) w)):=by kernel_rfl
theorem U0 (g:bH):W prog (sb f179 [1,1,1,1,1,1,1,1,1,1,1,0,1,0,0,1,1,0,0,1,1,1]) (nv A s a b t c d u e f i k F j) (aV prog f179 R g) w=(cond F (c6 222 #[.pointer (some A),ab 11] w λp h=>R (ad p) h) (g .normal (Hc A s a b t c d u e f i k (ae j 0 158 [ad F,aB j 158,aB j 159,aB j 160])) w)):=by kernel_rfl
theorem UI (a:bH):W prog (sb f179 [1,1,1,1,1,1,1,1,1,1,1,1]) (By  j) (aV prog f179 R a) w=(R (ad true) w):=by kernel_rfl
theorem UJ (g:bH):W prog (sb f179 [1,1,1,1,1,1,1,1,1,1,1,0,1,0,0,1,1,1]) (Hc A s a b t c d u e f i k j) (aV prog f179 R g) w=(g .normal (sw A s a b t c d u e f i (i64.wrap (k+1)) (ae j 0 161 [ab (i64.wrap (k+1))])) w):=by kernel_rfl
theorem V6:bc prog f219 [bb a] R w=(ck w λs o=>cA o (ah a 5) λe=>cA o (ah a 6) λb=>aR s #[ab e,ag (u64.wrap b),ad true] 309 λm n=>o n/\dp n (ah a 7) λc=>B3 177 #[ag c] n λd f g j=>cond g (bN j (ah a 5) λh=>cond (f != h) (aR j #[ab f,ag (u64.wrap (i64.wrap (d+1))),ad false] 309 λq p=>da 306 (af (bs m) 1 1) (af (bs q) 1 1) p λl i k r=>R (af l i k) r) (R (af (bs m) 1 1) j)) (R (af (bs m) 1 1) j)):=by kernel_rfl
end
section
open IntKind
variable (w:aj)(R:bg){a b c d:Nat}{A:aw}{s t:an}{i k l:Int}{j:al}{F:Bool}
theorem W3:bc prog f180 [bb a] R w=(ck w λz j=>hf j (ah a 9) λn=>cA j (ah a 5) λe=>hd j (ah a 7) λb=>hd j (ah a 12) λc=>cx 224 #[ab e] z λd t=>j t/\eH 223 #[bb a,n.val,ab d,ag b,ag c] t λo u=>j u/\aR u o.cells.toArray 158 λv s=>j s/\h4 221 #[bb a,af (bs v) 1 1] s λf g h i q=>j q/\cond (!i) (R (ad false) q) (bk f g 0 2 λy=>pU q y λr=>iJ 196 #[r.val] q λk p=>dp p (ah a 7) λl=>cond (k != l) (dp p (ah a 12) λm=>cond (k != m) (a8 p (ah a 15) 0 [ab 3,ab 0,ab 0,ab 0,ag k] λx=>R (ad false) x) (R (ad true) p)) (R (ad true) p))):=by kernel_rfl
def uX (e:aw)(i:an)(a b:Nat)(c:an)(d f:Nat)(g h:Int)(j:al):al:=.pointer (some e)::ae j 0 2 (af i a b::ae j 2 11 (af c d f::ab g::ab h::ae j 13 109 []))
def BF (a:aw)(d:an)(b c:Nat)(j:al):al:=.pointer (some a)::ae j 0 2 (af d b c::ae j 2 123 [])
def sx (e:aw)(f:an)(a b:Nat)(s8:Bool)(c d:Int)(j:al):al:=.pointer (some e)::ae j 0 5 (af f a b::ae j 5 1 (ad s8::ae j 6 63 (ab c::ab d::ae j 69 53 [])))
def uY (a:aw)(e:an)(b c:Nat)(s8:Bool)(g d f:Int)(j:al):al:=.pointer (some a)::ae j 0 5 (af e b c::ae j 5 1 (ad s8::ab g::ae j 6 62 (ab d::ab f::ae j 68 53 [])))
def BG (a:aw)(d:an)(b c:Nat)(s8:Bool)(j:al):al:=.pointer (some a)::ae j 0 5 (af d b c::ae j 5 1 (ad s8::ae j 6 118 []))
def BH (a:aw)(e:an)(b c:Nat)(s8:Bool)(d f:Int)(j:al):al:=.pointer (some a)::ae j 0 5 (af e b c::ae j 5 1 (ad s8::ae j 6 63 (ab d::ab f::ae j 69 53 [])))
theorem Xl:bc prog f181 [bb a] R w=(bY w (ah a 4) λd b c=>cj prog (cN f181 [1,1,0,1,0,0]) (uX (ah a 0) none 0 0 d b c (b:Nat) 0 (undef::ad false::a1 6 (jp (ah a 0)::jp (ah a 0)::jp (ah a 0)::jp (ah a 3)::jp (ah a 4)::a1 109 []))) (aL 0 (aS f181 [1,1,1] R)) w):=by kernel_rfl
theorem mt (u:bH):W prog (sb f181 [1,1,0,1,0,0]) (uX A s a b t c d i k j) (aV prog f181 R u) w=(cond (k<i) (bk t c k 3 λG=>iq w G λr=>aR w #[ab 0,ab 0,ad false] 116 λg K=>a8 K (ah g 0) 0 r.cells λbf=>ck bf λI f=>hf f (ah g 0) λB=>cA f (br A 5) λe=>hf f (ah g 0) λE=>cA f (br A 5) λv=>cx 106 #[ab e] I λl x=>f x/\eH 220 #[.pointer (some A),B.val,ab l,ab 1] x λp F=>f F/\cx 215 #[ab v] F λm z=>f z/\eH 220 #[.pointer (some A),E.val,ab m,ab 120] z λq D=>f D/\aR D #[ab p.Kind,ab p.Node,ab p.cI,ab p.N,ag p.Old,ag p.ai,af p.Words p.dd p.c0,ag p.Key,ab p.cB,ab q.Kind,ab q.Node,ab q.cI,ab q.N,ag q.Old,ag q.ai,af q.Words q.dd q.c0,ag q.Key,ab q.cB] 158 λy H=>f H/\da 125 (af s a b) (af (bs y) 2 2) H λh n o C=>f C/\u .normal (uX A h n o t c d i (i64.wrap (k+1)) (aB j 0::aB j 1::aB j 2::jp (ah g 0)::ae j 4 9 (ad (k<i)::jp G::r.val::af s a b::jp A::B.val::jp A::jp A::jp A::a7 A 5::ab e::ab l::p.val::jp A::E.val::jp A::jp A::jp A::a7 A 5::ab v::ab m::q.val::af (bs y) 2 2::af h n o::ab (i64.wrap (k+1))::ae j 38 84 []))) C) (u (.exit 0) (BF A s a b (ae j 0 13 (af t c d::ab i::ab k::ad (k<i)::ae j 14 108 []))) w)):=by kernel_rfl
theorem Ve (t:bH):W prog (sb f181 [1,1,1]) (BF A s a b j) (aV prog f181 R t) w=(ck w λD c=>hf c (br A 9) λq=>cA c (br A 5) λd=>cx 225 #[ab d] D λf y=>c y/\eH 220 #[.pointer (some A),q.val,ab f,ab 1] y λr B=>c B/\aR B r.cells.toArray 158 λx v=>c v/\da 125 (af s a b) (af (bs x) 1 1) v λe g h z=>c z/\h4 221 #[.pointer (some A),af e g h] z λi k l m u=>cond (!m) (R (ad false) u) (bY u (ah A.block (A.off+3+1)) λn o p=>cj prog (cN f181 [1,1,1,1,1,1,1,0,1,0,0]) (sx A i k l true (o:Nat) 0 (aB j 0::aB j 1::af e g h::aB j 2::aB j 3::ad m::ae j 7 34 (af s a b::jp A::jp A::jp A::a7 A 9::q.val::jp A::jp A::jp A::a7 A 5::ab d::ab f::r.val::af (bs x) 1 1::af e g h::.tuple #[af i k l,ad m]::jp A::af e g h::.tuple #[af i k l,ad m]::af i k l::ad m::ad m::ad (!m)::jp A::jp A::jp A::a7 A 3::jp (ah A.block (A.off+3+1))::af n o p::ae j 72 53 []))) (aL 2 (aM (λC w=>W prog (sb f181 [1,1,1,1,1,1,1,1]) C (aV prog f181 R t) w) (aV prog f181 R t))) u)):=by kernel_rfl
theorem Uy (c:bH):W prog (sb f181 [1,1,1,1,1,1,1,0,1,0,0]) (sx A s a b F i k j) (aV prog f181 R c) w=(cond (k<i) (ck w λl e=>cond F (bk s a (i64.wrap (2*k)) 2 λh=>yS e h λr=>cA e (br A 6) λf=>iJ 196 #[r.val] l λg m=>e m/\W prog (sb f181 [1,1,1,1,1,1,1,0,1,0,0,1,1,0,0,1,1]) (uY A s a b ((g:Int) == (u64.wrap f)) k i k (ae j 0 6 (ae j 7 62 (ad (k<i)::ab k::ad F::ad true::af s a b::ab k::ab (i64.wrap (2*k))::jp h::r.val::ag g::jp A::jp A::jp A::a7 A 6::ab f::ag (u64.wrap f)::ad ((g:Int) == (u64.wrap f))::ad ((g:Int) == (u64.wrap f))::ae j 87 35 [])))) (aL 3 (aM (λd w=>W prog (sb f181 [1,1,1,1,1,1,1,0,1,0,0,1,1,1]) d (aV prog f181 R c) w) (aV prog f181 R c))) m) (W prog (sb f181 [1,1,1,1,1,1,1,0,1,0,0,1,1,0,0,1,1]) (uY A s a b false k i k (ae j 0 6 (ae j 7 62 (ad (k<i)::ab k::ad F::ad false::a1 13 (ad false::ae j 87 35 []))))) (aL 3 (aM (λd w=>W prog (sb f181 [1,1,1,1,1,1,1,0,1,0,0,1,1,1]) d (aV prog f181 R c) w) (aV prog f181 R c))) l)) (c (.exit 2) (BG A s a b F (ae j 0 69 (ab i::ab k::ad (k<i)::ae j 70 52 []))) w)):=by kernel_rfl
theorem ol (t:bH):W prog (sb f181 [1,1,1,1,1,1,1,0,1,0,0,1,1,0,0,1,1]) (uY A s a b F i k l j) (aV prog f181 R t) w=(ck w λy f=>dS f (br A 13) λg h c=>bk s a (i64.wrap ((i64.wrap (2*i))+1)) 2 λq=>dS f (br q 1) λp d m=>aR y #[af p d m] 94 λr u=>f u/\da 218 (af g h c) (af (bs r) 1 1) u λe n o v=>f v/\cM v (br A 13) (af e n o) λx=>t .normal (BH A s a b F k l (ae j 0 6 (ab i::ae j 6 80 (jp A::jp A::jp A::a7 A 13::af g h c::af s a b::ab i::ab (i64.wrap (2*i))::ab (i64.wrap ((i64.wrap (2*i))+1))::jp q::a7 q 1::af p d m::af (bs r) 1 1::af e n o::jp A::a7 A 13::ae j 102 19 [])))) x):=by kernel_rfl
theorem Vm (i:bH):W prog (sb f181 [1,1,1,1,1,1,1,1]) (BG A s a b F j) (aV prog f181 R i) w=(bk s a (i64.wrap ((a:Nat)-1)) 2 λk=>pU w k λr=>iJ 196 #[r.val] w λd l=>cM l (br A 14) (ag d) λe=>cond (!F) (c6 183 #[.pointer (some A)] e λf c=>cond f (c6 222 #[.pointer (some A),ab 11] c λg h=>R (ad g) h) (R (ad false) c)) (R (ad true) e)):=by kernel_rfl
theorem Vn (c:bH):W prog (sb f181 [1,1,1,1,1,1,1,0,1,0,0,1,1,1]) (BH A s a b F i k j) (aV prog f181 R c) w=(c .normal (sx A s a b F i (i64.wrap (k+1)) (ae j 0 103 (ab (i64.wrap (k+1))::ae j 104 18 []))) w):=by kernel_rfl
theorem VJ:bc prog f183 [bb a] R w=(ck w λq e=>hf e (ah a 9) λi=>cA e (ah a 5) λj=>hd e (ah a 12) λb=>cx 224 #[ab j] q λc m=>e m/\eH 223 #[bb a,i.val,ab c,ag b,ag 0] m λk o=>e o/\aR o k.cells.toArray 158 λp l=>e l/\h4 221 #[bb a,af (bs p) 1 1] l λd f g h n=>e n/\R (ad h) n):=by kernel_rfl
end
section
section
attribute [local irreducible] iv i_ l5
theorem Am (w:aj){i:Int}(g:0<=i/\i<6):a9 106 [.int .i64 i] w λv w'=>v=.int .i64 (24+i)/\ai w w':=by
 refine a' Tryz.func106 ?_;rw[Je];refine aE (wh _ _ _) ?_;rintro v w1 ⟨cz,d,rfl,a,b,e⟩;have c:=wi;refine⟨_,rfl,?_⟩;have f:(#[]++#[.int .i64 i]++#[ptr cz,ptr d]:en)=#[.int .i64 i,ptr cz,ptr d]:=by simp
 refine rz c f ?_;refine aE (zh w1 a b (by omega) (by omega) i) ?_;rintro v h ⟨rfl,rfl⟩;refine⟨_,rfl,?_,e⟩;unfold ng
 grind
end
theorem Gf (w:aj){c:Int}(a:0<=c/\c<6):a9 224 [.int .i64 c] w λv w'=>v=.int .i64 (fl c+1)/\w'=w:=by
 refine a' Tryz.func224 ?_;rw[KC];refine aE (zZ w a (i:=1) (by omega)) ?_
 grind
theorem bO.one {u bp b3:aj}{v:aI}{x:bE}{b:Nat}(hu:ai u bp)(ar:cQ (λk=>k<u.heap.size) bp v x)(g:b=bp.heap.size)(ax:aq b3 b v.cells cK)(d:ai bp b3):bO u b3 (some ⟨b,0,none⟩) 1 1 [x]:=by
 have h:=hu.size;refine⟨⟨[v],⟨by simp[dQ];rfl,.inr ⟨b,v.cells,rfl,ax,dr 1,by decide,by rw[aI.len],by grind[dQ,List.take_of_length_le,aI.len]⟩⟩,er.one ?_⟩,rfl,λk a=>?_⟩
 ·exact ar.aC (ao.b7 d) λk c e=>by
   rcases e with e | ⟨o,f⟩
   ·exact e
   grind
 ·obtain⟨o,f⟩:=a
  grind
abbrev lC (A:a6)(w0 u:aj)(aN tb:Nat)(r:c3)(m:aU)(j:bM)(V:eI)(R:cq)(v:bl)(bF:aj):Prop:=v=.bool R.ok/\eE A w0 u aN tb u.heap.size r m j V R bF
theorem eE.of {bp:aj}{B B':Nat}{r:c3}{m:aU}{j:bM}{V:eI}{R:cq}(h:eE A w0 bp aN tb B r m j V R bF)(a:ai u bp)(g:B'<=B):eE A w0 u aN tb B' r m j V R bF:=by
 refine⟨(ao.b7 a).trans h.aC λ_ _ e=>e,h.eD,?_⟩;obtain⟨b,c,d,f⟩:=h.fN
 grind
def bQ (G:bn)(vs:bu):cq:=cm G vs 0
def Gx (j:bM):Int:=fl j.dead+1
def hF (j:bM)(m:aU)(G:bn):cq:=bQ G [si j m (Gx j) (gv j.inc j.a3) 0]
def jr (j:bM)(m:aU):bE:=si j m (Gx j) j.prev (gv j.inc j.a3)
def mc (ds:cw):Int:=match ds with | []=>0 | d::_=>d_ d
def hZ (j:bM)(m:aU)(G:bn):cq:=
 if(bQ G [jr j m]).ok=false then bQ G [jr j m]
 else if mc (bQ G [jr j m]).done≠j.prev/\mc (bQ G [jr j m]).done≠gv j.inc j.a3 then⟨false,[],(3,mc (bQ G [jr j m]).done),(bQ G [jr j m]).a_,none,false⟩
 else⟨true,[],(0,0),(bQ G [jr j m]).a_,none,false⟩
theorem Gg (i c:Int):ch (gv i c):=by
 unfold gv;split
 ·rename_i h;obtain⟨a,b⟩:=vM h;exact⟨by omega,by omega⟩
 ·exact gU
theorem oL {G:bn}{vs:bu}(h:(bQ G vs).ok=true):(bQ G vs).out=(0,0)/\(bQ G vs).ask=none/\(bQ G vs).dC=false:=by
 unfold bQ cm at h ⊢
 grind
section
variable {A:a6}{w0 u:aj}{aN tb:Nat}{r:c3}{m:aU}{j:bM}{V:eI}{T:eG}{G:bn}
theorem dt.eS {o:Int×Int}(h:dt w0 u aN tb r m j V o):eb m.cB:=by
 have:=h.ct.eS m (cu h.mem)
 grind[eb]
def iS (r:c3)(tb:Nat)(m:aU)(j:bM)(aN:Nat)(y:aj):Prop:=∃ V o,aq y aN (pY r tb m (gv j.inc j.a3) V o) ou
theorem D1 (d:dt w0 u aN tb r m j V (0,0))(z:eJ A w0 u tb T G)(p:f8 T):a9 183 [ptr aN] u (lC A w0 u aN tb r m j V (hF j m G)):=by
 refine a' Tryz.func183 ?_;rw[ptr,VJ];rintro w1 n;have e:ai u w1:=by rw[n];exact cC _
 clear n;have b:=d.bK e;have C:=d.ak.lt;have D:=z.ak.lt;have H:=d.job.dead;have q:=d.ct.dead;refine⟨iS r tb m j aN,⟨_,_,b.ak⟩,aU.aT m ⟨λy c=>by obtain⟨x,E,c⟩:=c;exact bJ c rfl,r.eX,λy c=>by obtain⟨x,E,c⟩:=c;exact c.cell (i:=5) rfl,_,λy c=>by obtain⟨x,E,c⟩:=c;exact c.cell (i:=12) rfl,?_⟩⟩;rw[H];refine aE (Gf w1 q) ?_;rintro v J ⟨rfl,rfl⟩;refine⟨_,rfl,⟨_,_,b.ak⟩,?_⟩;refine aE (wK b d.eS _ (Gg _ _) gU) ?_;rintro v K ⟨F,rfl,t,f⟩;refine aI.aT F ⟨rfl,⟨_,_,(b.bK f).ak⟩,?_⟩;rintro b1 I h o;obtain⟨g,l⟩:=bo h o;have g:aq I b1 F.cells cK:=g;clear o;have k:=f.new l;have a:=e.new k;have s:=e.size;have w:=bO.one f t h g l;refine⟨⟨_,_,(d.bK a).ak⟩,?_⟩;refine aE (nM (d.bK a) (z.new a) p b.new (by omega) (by omega) w (by simp)) ?_;rintro v L ⟨dB,dc,raw,rfl,B,_⟩;exact⟨_,_,_,_,rfl,⟨_,_,B.eD.ak⟩,rfl,B.of a s⟩
theorem Qi (z:dt w0 u aN tb r m j V (0,0))(a4:eJ A w0 u tb T G)(ad:f8 T):a9 180 [ptr aN] u (lC A w0 u aN tb r m j V (hZ j m G)):=by
 refine a' Tryz.func180 ?_;rw[ptr,W3];rintro w1 P;have E:ai u w1:=by rw[P];exact cC _
 clear P;have p:=z.bK E;have a5:=z.ak.lt;have a7:=a4.ak.lt;have bx:=z.job.dead;have bH:=z.job.prev;have af:=z.ct.dead;refine⟨iS r tb m j aN,⟨_,_,p.ak⟩,aU.aT m ⟨λy g=>by obtain⟨X,a1,g⟩:=g;exact bJ g rfl,r.eX,λy g=>by obtain⟨X,a1,g⟩:=g;exact g.cell (i:=5) rfl,r.hU,λy g=>by obtain⟨X,a1,g⟩:=g;exact g.cell (i:=7) rfl,_,λy g=>by obtain⟨X,a1,g⟩:=g;exact g.cell (i:=12) rfl,?_⟩⟩;rw[bx,bH];refine aE (Gf w1 af) ?_;rintro v bL ⟨rfl,rfl⟩;refine⟨_,rfl,⟨_,_,p.ak⟩,?_⟩;refine aE (wK p z.eS _ z.ct.prev (Gg _ _)) ?_;rintro v bV ⟨bb,rfl,aP,F⟩;refine aI.aT bb ⟨rfl,⟨_,_,(p.bK F).ak⟩,?_⟩;rintro b1 bh K Q;obtain⟨I,M⟩:=bo K Q;have I:aq bh b1 bb.cells cK:=I;clear Q;have L:=F.new M;have f:=E.new L;have O:=E.size;have aR:=bO.one F aP K I M;refine⟨⟨_,_,(z.bK f).ak⟩,?_⟩;refine aE (nM (z.bK f) (a4.new f) ad p.new (by omega) (by omega) aR (by simp)) ?_;rintro v bk ⟨dB,dc,raw,rfl,s,aL,q,aM⟩;have s:eE A w0 bh aN tb bL.heap.size r m j V (bQ G [jr j m]) bk:=s;have q:gX A w0 raw (bQ G [jr j m]).done:=q;show∃ a b c d,_/\_;refine⟨_,_,_,_,rfl,⟨_,_,s.eD.ak⟩,?_⟩;unfold hZ;refine eu (λU=>?_) (λW=>?_)
 ·have U:(bQ G [jr j m]).ok=false:=U;rw[bm U];exact⟨by rw[U],s.of f O⟩
 have W:(bQ G [jr j m]).ok=true:=W;rw[aW (by grind)];obtain⟨bG,bD,aZ⟩:=oL W;have H:=s.of f O;have B:=H.eD;rw[bG]at B;have aB:raw.length=1:=aM W;obtain⟨d,rfl⟩:∃ d,raw=[d]:=Js.1 aB;obtain⟨x,a8⟩:∃ x,(bQ G [jr j m]).done=[x]:=Js.1 (by rw[<-q.1];rfl);rw[a8]at q;rw[a8];have ae:=q.2 0 d x rfl rfl;refine ei (cells:=bR.cells) bR.len (by decide) (aL.new B.new) (i:=0) (x:=d) (l:=[d]) rfl rfl rfl λb o ab _=>bR.aT d ⟨ab,?_⟩
 refine aE (rA (ae.aC (ao.b7 B.new) λ_ _ e=>e)) ?_;rintro v bq ⟨rfl,N⟩;have n:=B.bK N;obtain⟨br,Y,aV,Z⟩:=H.fN;rw[bD]at Z;rw[aZ]at aV;have w:∀ {bF:aj} {R:cq},ao (λk=>k=aN) bq bF->dt w0 bF aN tb r m j V R.out->R.a_=(bQ G [jr j m]).a_->R.ask=none->R.dC=false->eE A w0 u aN tb u.heap.size r m j V R bF:=by
  intro bF R ah t J S bN;have D:ao (λk=>k=aN) bk bF:=(ao.b7 N).trans ah λ_ _ e=>e
  refine⟨H.aC.trans D λk _ e=>.inr e,t,br,?_,by grind,?_⟩
  ·rw[J];exact Y.aC D λe=>z.ne e.symm
  grind
 have bs:mc [x]=d_ x:=rfl;rw[bs];have C:¬ (d_ x≠j.prev/\d_ x≠gv j.inc j.a3)->lC A w0 u aN tb r m j V (if d_ x≠j.prev/\d_ x≠gv j.inc j.a3 then⟨false,[],(3,d_ x),(bQ G [jr j m]).a_,none,false⟩else⟨true,[],(0,0),(bQ G [jr j m]).a_,none,false⟩) (.bool true) bq:=by intro h;rw[aW h];exact⟨rfl,w (ao.refl _ _) n rfl rfl rfl⟩
 refine⟨_,rfl,r.hU,n.ak.cell (i:=7) rfl,dw (λJ=>⟨_,n.ak.cell (i:=12) rfl,dw (λS=>?_) (λS=>C λe=>e.2 S)⟩) (λJ=>C λe=>e.1 (by grind))⟩;have J:d_ x≠j.prev:=by grind
 rw[bm ⟨J,S⟩];exact Ge n (3,d_ x) λw' ag t=>⟨rfl,w ag t rfl rfl rfl⟩
end
end
section
abbrev ji:bU:=309
def nZ (l:List dq):List au:=l.map dq.cells
def c_ (j:bM):List dq:=
 ⟨j.dead,j.fk,true⟩::(if mZ j.prev=true/\lu j.prev≠j.dead then[⟨lu j.prev,lr j.prev+1,false⟩]else[])
theorem D2 {j:bM}(h:A4 j):∀ f ∈ c_ j,0<=f.a3/\f.a3<6/\0<=f.least/\f.least<=60:=by
 intro f a;have e:=h.dead;have g:=h.fk;unfold c_ at a;rcases gw.1 a with rfl | a
 ·grind
 split at a
 ·rename_i b;have b:=qa (show mZ j.prev=true from b.1);obtain⟨c,d⟩:=vM b
  grind[zR,lu,lr]
 grind
section
variable {A:a6}{w0 u:aj}{aN tb:Nat}{r:c3}{m:aU}{j:bM}{V:eI}{T:eG}{G:bn}
theorem Pn (l:dt w0 u aN tb r m j V o):a9 219 [ptr aN] u λv bF=>∃ a cap,v=.slice a (c_ j).length cap/\ai u bF/\bh bF a (nZ (c_ j)).flatten/\∀ k,aP a k->u.heap.size<=k:=by
 refine a' Tryz.func219 ?_;rw[ptr,V6];rintro w1 w;have b:ai u w1:=by rw[w];exact cC _
 clear w;have f:=l.bK b;have W:=l.job.dead;have I:=l.job.fk;have L:=l.job.prev;have X:=l.ct.fk;refine⟨λy=>ai w1 y,ao.refl _ _,r.eX,λy M=>(ai.ak M f.ak).cell (i:=5) rfl,r.fR,λy M=>(ai.ak M f.ak).cell (i:=6) rfl,?_⟩;dsimp only;rw[W,I,jx (x:=j.fk) (by omega) (by omega)];rintro b1 O G A;obtain⟨d,c⟩:=bo G A;have d:aq O b1 (dq.cells ⟨j.dead,j.fk,true⟩) ji:=d;clear A;have s:=f.bK c;refine⟨c,r.hU,s.ak.cell (i:=7) rfl,?_⟩;rw[L];refine aE (CJ O l.ct.prev) ?_;rintro v P ⟨rfl,rfl⟩;have aJ:∀ k,aP (some ⟨b1,0,none⟩) k->u.heap.size<=k:=λk C=>by obtain⟨ag,K⟩:=C;simp at K;have:=b.size;omega
 have one:∀ F,c_ j=F->F=[⟨j.dead,j.fk,true⟩]->∃ a cap,Value.slice (some ⟨b1,0,none⟩) 1 1=.slice a (c_ j).length cap/\ai u P/\bh P a (nZ (c_ j)).flatten/\∀ k,aP a k->u.heap.size<=k:=by intro F D E;rw[D,E];exact⟨_,_,rfl,b.new c,e6 d rfl,aJ⟩
 refine⟨_,_,_,rfl,ek (λN=>⟨r.eX,s.ak.cell (i:=5) rfl,dw (λJ=>?_) (λhe=>?_)⟩) (λN=>?_)⟩
 ·have J:lu j.prev≠j.dead:=by grind
  have S:c_ j=[⟨j.dead,j.fk,true⟩]++[⟨lu j.prev,lr j.prev+1,false⟩]:=by unfold c_;grind
  have q:=qa (show mZ j.prev=true from N);obtain⟨ae,af⟩:=vM q;obtain⟨ab,ad,_⟩:=zR q;rw[bq (x:=lr j.prev+1) (by omega) (by omega),jx (x:=lr j.prev+1) (by omega) (by omega)];rintro az Q H B;obtain⟨h,g⟩:=bo H B;have h:aq Q az (dq.cells ⟨lu j.prev,lr j.prev+1,false⟩) ji:=h;clear B;obtain⟨inf,Y,ax,t,U⟩:=ft (T:=ji) (z:=dq.val ⟨0,0,false⟩) (n:=3) (m:=24) (by kernel_rfl);have Z:aZ Q ji 3 (some ⟨b1,0,none⟩) 1 1 ([(⟨j.dead,j.fk,true⟩:dq)].map dq.cells).flatten:=⟨rfl,.inr ⟨b1,_,rfl,ai.ak g d,dr 1,by decide,rfl,rfl⟩⟩;refine qn (cells:=dq.cells) (sz:=3) dq.len dq.single Tryz.underlying306 Y ax (by rw[t];rfl) t (by decide) (by grind) Z (l2:=[⟨lu j.prev,lr j.prev+1,false⟩]) (m:=1) (e6 h rfl) rfl (by decide) λap p ah D E R=>?_
  rw[S];refine⟨ap,p,rfl,?_,D.rd,λk C=>by
   rcases R k C with e | e
   ·grind
   ·have:=((b.new c).new g).size;omega⟩
  refine((b.new c).new g).trans E λk C e=>?_
  grind
 ·exact one _ rfl (by unfold c_;grind)
 ·exact one _ rfl (by unfold c_;grind)
def sj (j:bM)(bD:aU)(f:dq):bE:=m0 j bD (24+f.a3) 1
def hq (j:bM):bu:=(j.v.mem.map λbD=>(c_ j).map (sj j bD)).flatten
theorem M5 (D:dt w0 u aN tb r m j V o)(bL:bh u iX (nZ (c_ j)).flatten)(t:au)
  (aB:∀ bF a2 n pc t,ai u bF->bO u bF a2 n pc (hq j)->Go.bd.W prog (sub (ay f179) [1,1,1,1]) (BB ⟨aN,0,none⟩ iX (c_ j).length kr a2 n pc t) (cS prog f179 R) bF) :
  cj prog (.loop (sub (ay f179) [1,1,1,0,1,0,0])) (uV ⟨aN,0,none⟩ iX (c_ j).length kr none 0 0 r.View.fr r.View.e_ r.View.fS r.View.e_ 0 t)
   (aL 0 (aM (λenv w=>Go.bd.W prog (sub (ay f179) [1,1,1,1]) env (cS prog f179 R) w) (cS prog f179 R))) u:=by
 obtain⟨b_,s⟩:=D.job.view;have hlen:=s.len;have bR:=D.ct.mem;have bN:(c_ j).length<=2:=by grind[c_]
 have ag:=D2 D.ct;have a':=D.ak.lt;refine cP mix (λq env z=>∃ (i:Nat) (a2:an) (n pc:Nat) (t:au),q=j.v.mem.length - i/\i<=j.v.mem.length/\env=uV ⟨aN,0,none⟩ iX (c_ j).length kr a2 n pc r.View.fr r.View.e_ r.View.fS r.View.e_ i t/\ai u z/\n<=2 * i/\
   bO u z a2 n pc ((j.v.mem.take i).map λbD=>(c_ j).map (sj j bD)).flatten) j.v.mem.length
  ⟨0,none,0,0,_,by omega,by omega,rfl,ao.refl _ _,by omega,bO.nil _ _⟩ ?_
 rintro q env z ⟨i,a2,n,pc,t,rfl,ch,rfl,F,b4,G⟩;refine ha (fn:=f179) (R:=R) (λ_ _=>rfl) ?_;rw[T6,hlen];have K:=D.new.new F;refine a5 (λbX=>?_) (λbQ=>?_)
 ·obtain⟨bD,hm⟩:∃ bD,j.v.mem[i]?=some bD:=⟨_,bW (by omega)⟩;have bY:=D.ct.eS bD (cu hm);refine ei (cells:=aU.cells) aU.len (by omega) (s.rd.new K) hm rfl rfl λb ck ae _=>aU.aT bD ⟨ae,?_⟩
  refine dP (vs:=bD.cells) rfl (aU.single _) λab cr bG a4 L=>?_
  refine cP mix (λq env y=>∃ (k:Nat) (a2:an) (n pc:Nat) (t:au),q=(c_ j).length - k/\k<=(c_ j).length/\env=xG ⟨aN,0,none⟩ iX (c_ j).length kr a2 n pc ⟨ab,0,none⟩ r.View.fr j.v.mem.length r.View.fS j.v.mem.length i iX (c_ j).length kr (c_ j).length k t/\ai u y/\aq y ab bD.cells eF/\n<=2 * i+k/\
    bO u y a2 n pc (((j.v.mem.take i).map λbD=>(c_ j).map (sj j bD)).flatten++((c_ j).take k).map (sj j bD))) (c_ j).length
   ⟨0,a2,n,pc,_,by omega,by omega,rfl,F.new L,a4,by omega,by simpa using G.new L⟩ ?_
  rintro q env y ⟨k,a2,n,pc,t,rfl,bV,rfl,h,Y,b5,S⟩;refine ha (fn:=f179) (R:=R) (λ_ _=>rfl) ?_;rw[T7];refine a5 (λa9=>?_) (λa8=>?_)
  ·obtain⟨f,A⟩:∃ f,(c_ j)[k]?=some f:=⟨_,bW (by omega)⟩;have B:=ag f (cu A);refine ei (cells:=dq.cells) dq.len (by omega) (bL.new h) A rfl rfl λca cl I _=>dq.aT f ⟨I,?_⟩
   refine dP (vs:=f.cells) rfl (dq.single _) λbo b7 bH a7 aV=>?_
   rintro bk X;have M:ai b7 bk:=by rw[X];exact cC _
   clear X;have g:=aV.new M;have c:=ai.ak g Y;have d:=ai.ak M a7;refine⟨λx=>aq x ab bD.cells eF/\aq x bo f.cells ji,⟨c,d⟩,aU.aT bD ⟨λx a1=>bJ a1.1 rfl,f.a3,λx a1=>a1.2.cell (i:=0) rfl,?_⟩⟩;refine aE (Am bk ⟨B.1,B.2.1⟩) ?_;rintro v cm ⟨rfl,p⟩;refine⟨_,rfl,⟨ai.ak p c,ai.ak p d⟩,?_⟩;refine aE (tM (D.bK ((h.new g).new p)) (m:=bD) (by grind[eb]) (24+f.a3) 1) ?_;rintro v bm ⟨b6,rfl,aW,E⟩;have a:=p.new E;refine aI.aT b6 ⟨rfl,⟨ai.ak a c,ai.ak a d⟩,?_⟩;rintro cd b9 ad U;have O:ai bm b9:=by rw[U];exact hn _ _
   have l:=(g.new p);refine⟨⟨ai.ak (a.new O) c,ai.ak (a.new O) d⟩,bO.lX (S.new l) (h.new l) E aW (by omega) ad U λap H cq cf J N=>?_⟩;obtain⟨bb,P,_⟩:=S.ex;have off:∀ {b:Nat} {cs:au} {T:bU},T≠cK->aq bm b cs T->¬ aP a2 b:=λbs bx aB=>by obtain⟨br,af⟩:=gj (aZ.new ((l.new E)) P) aB;exact af.ne bx (λe=>bs e.symm) rfl
   have C:=J.ak (ai.ak a c) (off (by decide) (ai.ak a c));have Z:=J.ak (ai.ak a d) (off (by decide) (ai.ak a d));refine⟨⟨C,Z⟩,cb ?_⟩;rw[bq (x:=(k:Int)+1) (by omega) (by omega)];refine⟨(c_ j).length-(k+1),by omega,k+1,ap,n+1,H,_,rfl,by omega,rfl,N,C,by omega,?_⟩
   grind[c_,sj,List.take_add_one]
  ·have aR:k=(c_ j).length:=by omega
   subst aR;refine j9 (j0 (k9 (cb ?_)));rw[UW,bq (x:=(i:Int)+1) (by omega) (by omega)];refine cb (Q:=aL 0 (aM (λenv w=>Go.bd.W prog (sub (ay f179) [1,1,1,1]) env (cS prog f179 R) w) (cS prog f179 R))) ⟨j.v.mem.length-(i+1),by omega,i+1,a2,n,pc,_,rfl,by omega,by rw[<-hlen];rfl,h,by omega,?_⟩
   grind[List.take_length,c_,sj,List.take_add_one]
 ·have ah:i=j.v.mem.length:=by omega
  subst ah;refine j9 (j0 (cb ?_));rw[jC]at G;exact aB z a2 n pc _ F G
end
end
section
def q8:dq:=⟨0,0,false⟩
def dE (ds:cw)(i:Nat):Int:=d_ (ds.getD i ⟨0,[]⟩)
def gk (j:bM)(i:Nat):dq:=(c_ j).getD (i % (c_ j).length) q8
def nJ (j:bM)(i:Nat):aU:=j.v.mem.getD (i / (c_ j).length) jL
def jz (j:bM)(ds:cw)(i:Nat):Bool:=(gk j i).exact && decide (dE ds i>(gk j i).least)
def uk (j:bM)(ds:cw)(i:Nat):bE:=si j (nJ j i) (24+(gk j i).a3) (dE ds i) (gk j i).least
def rO (j:bM)(ds:cw)(i:Nat):List (bE×dq):=if dE ds i<(gk j i).least then[(uk j ds i,gk j i)]else[]
def h0 (j:bM)(ds:cw)(n:Nat):List (bE×dq):=((List.range n).map (rO j ds)).flatten
theorem Ch (j:bM)(ds:cw)(n:Nat):h0 j ds (n+1)=h0 j ds n++rO j ds n:=by
 grind[h0,List.range_succ]
theorem zI (j:bM):0<(c_ j).length/\(c_ j).length<=2:=by grind[c_]
noncomputable abbrev g1:Func:=f179
structure n9 (w0 u z:aj)(aN tb:Nat)(r:c3)(m:aU)(j:bM)(V:eI)(a2:an)(n pc:Nat)(pb:an)(gR:Nat)(L:List (bE×dq)):Prop where
 eD:dt w0 z aN tb r m j V (0,0)
 new:ai u z
 j_:bO u z a2 n pc (L.map Prod.fst)
 sR:aZ z ji 3 pb n gR (nZ (L.map Prod.snd)).flatten
 gB:∀ k,aP pb k->u.heap.size<=k
 le:w0.heap.size<=u.heap.size
theorem n9.j5 {b:aj}{r:c3}{m:aU}{j:bM}{V:eI}{L:List (bE×dq)}(h:n9 w0 u z aN tb r m j V a2 n pc pb gR L)(a:ai z b):n9 w0 u b aN tb r m j V a2 n pc pb gR L:=
 ⟨h.eD.bK a,h.new.new a,h.j_.new a,aZ.new a h.sR,h.gB,h.le⟩
theorem M6 {j:bM}{ds:cw}:∀ x ∈ (h0 j ds n).map Prod.fst,x.words=[]:=by
 intro x c;obtain⟨p,a,rfl⟩:=dD.1 c;unfold h0 at a;obtain⟨l,b,a⟩:=rJ.1 a;obtain⟨i,_,rfl⟩:=dD.1 b;unfold rO at a;split at a
 ·simp at a;rw[a];rfl
 grind
theorem M7 {r:c3}{m:aU}{j:bM}{V:eI}{ds:cw}{i:Nat}(h:n9 w0 u z aN tb r m j V a2 n pc pb gR (h0 j ds i))(c5:i<j.v.mem.length * (c_ j).length)(dv:n<=i)
  {az:Nat} (af:aq z az (gk j i).cells ji) (cq:u.heap.size<=az/\¬ aP pb az) (bY:ch (dE ds i)) {flag:Bool} (p:flag=jz j ds i) {dB:an} {dl dc:Nat} {ck:au} {Q:Exit->au->aK} (c4:∀ env w,Q .ret env w=cS prog g1 R .ret env w)
  (cr:jz j ds i=true->∀ ab,ao (λk=>k=aN) z ab->dt w0 ab aN tb r m j V (11,0)->R (.bool false) ab)
  (bD:jz j ds i=false->∀ ab bk n' bs br M ck,n9 w0 u ab aN tb r m j V bk n' bs br M (h0 j ds (i+1))->n'<=i+1->Q .normal (xI ⟨aN,0,none⟩ iX (c_ j).length kr bk n' bs br n' M dB dl dc dl i ck) ab) :
  Go.bd.W prog (sub (ay g1) [1,1,1,1,1,1,1,1,0,1,0,0,1,1,0,0,1,1,0,1]) (qN ⟨aN,0,none⟩ iX (c_ j).length kr a2 n pc pb n gR i ⟨az,0,none⟩ (dE ds i) dB dl dc dl i flag ck) Q z:=by
 refine ha (fn:=g1) (R:=R) c4 ?_;rw[UX];have g:=h.eD;obtain⟨b4,cZ⟩:=zI j;have c1:=g.ct.mem;have ag:(gk j i) ∈ c_ j:=by
  unfold gk
  grind[c_,Nat.mod_lt,List.getElem?_eq_getElem,List.getElem_mem]
 have s:=D2 g.ct _ ag;cases flag with
 |true=>
  refine fq rfl ?_;refine aE (wo g 11) ?_
  grind
 |false=>
  refine dm rfl ⟨_,af.cell (i:=1) rfl,a5 (λah=>?_) (λb5=>?_)⟩
  ·rintro cA bh;have aB:ai z cA:=by rw[bh];exact cC _
   clear bh;have bx:=h.j5 aB;obtain⟨dp,A⟩:=g.job.view;have hlen:=A.len;have b9:i / (c_ j).length<j.v.mem.length:=(Nat.div_lt_iff_lt_mul b4).2 c5;have hm:j.v.mem[i / (c_ j).length]?=some (nJ j i):=by
    grind[nJ,List.getElem?_eq_getElem]
   have c6:=g.ct.eS _ (cu hm);have hdiv:Int.tdiv (i:Int) ((c_ j).length:Int)=((i / (c_ j).length:Nat):Int):=rfl;generalize i / (c_ j).length=q at b9 hm hdiv;have cv:i<=10:=by
    grind[c_,Nat.mul_le_mul]
   refine⟨λy=>∃ V o,dt w0 y aN tb r m j V o,⟨_,_,bx.eD⟩,r.View.fr,r.View.e_,r.View.fS,λy P=>by obtain⟨cM,df,P⟩:=P;exact P.ak.cell (i:=4) rfl,rfl,by omega,?_⟩;rw[hdiv];refine io (cells:=aU.cells) aU.len (by omega) A.rd hm (bq (by omega) (by omega)) hlen λb o cY=>aU.aT (nJ j i) ⟨λy P=>by obtain⟨cM,df,P⟩:=P;exact jk (i:=0) λq v ar=>by simpa using cY y P.new q v ar,?_⟩
   rintro b1 dk bV a9;obtain⟨S,aM⟩:=bo bV a9;have S:aq dk b1 (aU.cells ⟨0,0,false⟩) eF:=S;clear a9;refine⟨⟨_,_,(bx.j5 aM).eD⟩,dI (vs:=(nJ j i).cells) S rfl (aU.single _) λcD cf b7=>?_⟩;have aL:ai cA cD:=aM.trans b7 λk ah e=>by omega
   rintro cG a';have aR:ai cD cG:=by rw[a'];exact cC _
   clear a';have J:=aL.new aR;have F:=ai.ak aR cf;have d:=ai.ak (aB.new J) af;refine⟨λx=>aq x b1 (nJ j i).cells eF/\aq x az (gk j i).cells ji,⟨F,d⟩,aU.aT (nJ j i) ⟨λx Z=>bJ Z.1 rfl,(gk j i).a3,λx Z=>Z.2.cell (i:=0) rfl,(gk j i).least,λx Z=>Z.2.cell (i:=1) rfl,?_⟩⟩;refine aE (Am cG ⟨s.1,s.2.1⟩) ?_;rintro v dw ⟨rfl,E⟩;refine⟨_,rfl,⟨ai.ak E F,ai.ak E d⟩,?_⟩;have K:=J.new E;refine aE (wK (bx.j5 K).eD (m:=nJ j i) (by grind[eb]) (24+(gk j i).a3) bY ⟨s.2.2.1,by omega⟩) ?_;rintro v cH ⟨dh,rfl,cb,N⟩;have f:=E.new N;refine aI.aT dh ⟨rfl,⟨ai.ak f F,ai.ak f d⟩,?_⟩;rintro dr dn bW bb;have aV:ai cH dn:=by rw[bb];exact hn _ _
   have bN:=bx.j5 K;have Y:=bN.j5 N;have U:=ai.ak f F;have l:=ai.ak f d;refine⟨⟨ai.ak aV U,ai.ak aV l⟩,bO.lX bN.j_ bN.new N cb (by omega) bW bb λap G cL cQ D O=>?_⟩;obtain⟨cy,a1,_⟩:=Y.j_.ex;have off:∀ {b:Nat} {cs:au} {T:bU},T≠cK->aq cH b cs T->¬ aP a2 b:=λbQ bR bD=>by obtain⟨bH,C⟩:=gj a1 bD;exact C.ne bR (λe=>bQ e.symm) rfl
   have cj:=D.ak U (off (by decide) U);have H:=D.ak l (off (by decide) l);have a7:dt w0 cL aN tb r m j V (0,0):=Y.eD.aC D λk a=>by have:=Y.j_.gB k a;have:=g.new.size;have hu:=h.new.size;have:=h.le;exact⟨by omega,λe=>off (by decide) Y.eD.ak (e▸a)⟩
   have I:aZ cL ji 3 pb n gR (nZ ((h0 j ds i).map Prod.snd)).flatten:=Y.sR.aC D λk a e=>by
    obtain⟨cs,C⟩:=gj Y.sR a
    grind
   refine⟨⟨cj,H⟩,dq.aT (gk j i) ⟨bJ H rfl,?_⟩⟩;rintro cN X bX L;obtain⟨B,c⟩:=bo bX L;have B:aq X cN (gk j i).cells ji:=B;clear L;obtain⟨inf,b6,cd,a8,cX⟩:=ft (T:=ji) (z:=dq.val ⟨0,0,false⟩) (n:=3) (m:=24) (by kernel_rfl);refine qn (cells:=dq.cells) (sz:=3) dq.len dq.single Tryz.underlying306 b6 cd (by rw[a8];rfl) a8 (by decide) (by grind) (aZ.new c I) (l2:=[gk j i]) (m:=1) (e6 B rfl) rfl (by omega) λbG ad cm cO bL cP=>?_
   have a4:h0 j ds (i+1)=h0 j ds i++[(uk j ds i,gk j i)]:=by rw[Ch,show rO j ds i=[(uk j ds i,gk j i)] from bm ah]
   have ca:∀ {b:Nat} {cs:au} {T:bU},T≠ji->aq X b cs T->¬ aP pb b:=λbQ bR a=>by obtain⟨bH,C⟩:=gj (aZ.new c I) a;exact C.ne bR (λe=>bQ e.symm) rfl
   have t:=a7.bK c;have hle:=h.le;have c9:=h.new.size;have da:=O.size;refine bD p.symm cm ap (n+1) G bG ad _ ⟨t.aC bL λk a=>⟨by have:=h.gB k a;omega,λe=>ca (by decide) t.ak (e▸a)⟩,(O.new c).trans bL λk cx e=>by have:=h.gB k e;omega,?_,?_,λk a=>?_,hle⟩ (by omega)
   ·rw[a4,lG];have ae:bO u X ap (n+1) G ((h0 j ds i).map Prod.fst++[uk j ds i]):=cQ.new c;obtain⟨cl,b_,_⟩:=ae.ex;refine ae.BO (λx Z=>?_) bL λk a e=>?_
    ·grind[M6]
    grind[gj]
   ·rw[a4,lG];exact cO
   ·rcases cP k a with e | e
    ·exact h.gB k e
    ·have:=O.size;have:=c.size;omega
  ·refine bD p.symm z a2 n pc pb gR _ ?_ (by omega);rw[Ch,show rO j ds i=[] from aW b5,lE];exact h
end
end Go.Proofs.YtmkljjbioomepaaGreat
