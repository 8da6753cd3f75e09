import Derived.Test.YtmkljjbioomepaaGreate25
import Derived.Test.YtmkljjbioomepaaGreate27
import Derived.Test.YtmkljjbioomepaaGreate19
import Derived.Test.YtmkljjbioomepaaGreatProg
import Derived.Test.YtmkljjbioomepaaGreate03
set_option linter.all false
set_option maxHeartbeats 4000000
set_option maxRecDepth 100000
namespace Go.Proofs.YtmkljjbioomepaaGreat
open Go.Proofs.Tryz Go.bn
variable {M:a2} {a:an} {n aI tb:Nat} {o:Int×Int} {u bo w0:al}
section
structure yd (j:bz):Prop where
 aP:0<=j.aP/\j.aP<6
 inc:1<=j.inc/\j.inc<=59
 num:0<=j.v.number/\j.v.number<16
 mem:0<j.v.mem.length/\j.v.mem.length<=5
 dQ:∀ m ∈ j.v.mem,1<=m.ch/\m.ch<=31
 lines:98<=j.lines/\j.lines<=256
 dead:0<=j.dead/\j.dead<6
 dL:1<=j.dL/\j.dL<=60
 prev:b3 j.prev
theorem Km {j:bz} (h:j.valid=0) (hu:b3 j.prev):yd j:=by
 unfold bz.valid at h;split at h
 ·omega
 rename_i g;have g:fE j.inc j.aP=0:=by omega
 split at h
 ·omega
 rename_i p;split at h
 ·omega
 rename_i a;have a:j.v.valid 5=0:=by omega
 obtain ⟨k,i⟩:=tj g;have c:=h;unfold bz.tail at c;split at c
 ·omega
 rename_i t1;split at c
 ·omega
 rename_i t2;split at c
 ·omega
 rename_i t3;unfold iI.valid at a;split at a
 ·omega
 split at a
 ·omega
 rename_i l;split at a
 ·omega
 rename_i n;split at a
 ·omega
 rename_i d;split at a
 ·omega
 rename_i f;have f:j.v.mem.all l1=true:=by simpa using f
 have d:(List.range j.v.mem.length).all (t8 (5:Nat) j.v.mem)=true:=o4 _▸d;have o:=CQ d;refine ⟨i,k,by omega,by omega,λm hm=>?_,by omega,by omega,?_,hu⟩
 ·have:=gd.1 f m hm;unfold l1 at this;exact of_decide_eq_true this
 ·by_cases e:j.dead=j.aP
  ·have:j.dL=j.inc:=by
    by_cases b:j.dL=j.inc
    ·exact b
    ·exact absurd ⟨e,b⟩ t2
   omega
  ·have:¬ (j.dL<2\/60<j.dL\/Int.tmod j.dL 2≠0):=λb=>t3 ⟨e,b⟩
   omega
abbrev nv:TypeId:=220
abbrev oc:TypeId:=175
structure ej where
 fs:an
 jG:Nat
 lc:Nat
 clock:Int
def h5 (o:Int×Int):dj:=⟨o.1,0,0,0,o.2⟩
def oL (r:cN) (tb:Nat) (m:aO) (tag:Int) (V:ej) (o:Int×Int):aw:=r.cells++(ptr tb::m.cells)++[.int .u64 tag,.slice V.fs V.jG V.lc,.int .u64 V.clock]++(h5 o).cells
structure c6 (w0 u:al) (aI tb:Nat) (r:cN) (m:aO) (j:bz) (V:ej) (o:Int×Int):Prop where
 ak:av u aI (oL r tb m (f_ j.inc j.aP) V o) nv
 bs:p6 w0 r j
 ca:yd j
 mem:j.v.mem[0]?=some m
 new:ai w0 u
 oK:w0.heap.size<=aI
 ki:w0.heap.size<=tb
 ne:aI≠tb
theorem c6.bw {r:cN} {m:aO} {j:bz} {V:ej} (h:c6 w0 u aI tb r m j V o) (a:ai u bo):c6 w0 bo aI tb r m j V o:=
 ⟨ai.ak a h.ak,h.bs,h.ca,h.mem,h.new.new a,h.oK,h.ki,h.ne⟩
theorem c6.ax {r:cN} {m:aO} {j:bz} {V:ej} (h:c6 w0 u aI tb r m j V o) (b:ao M u bo) (a:∀ k,M k->w0.heap.size<=k/\k≠aI):c6 w0 bo aI tb r m j V o:=
 ⟨b.ak h.ak λe=>(a _ e).2 rfl,h.bs,h.ca,h.mem,h.new.trans b λk c e=>by have:=(a k e).1;omega,h.oK,h.ki,h.ne⟩
theorem c6.num {w0 u:al} {aI tb:Nat} {r:cN} {m:aO} {j:bz} {V:ej} {o:Int×Int} (h:c6 w0 u aI tb r m j V o):r.View.Number=j.v.number:=by obtain ⟨M,aj⟩:=h.bs.view;exact aj.num
section
variable {w0 w:al} {aI tb:Nat} {r:cN} {bJ:aO} {j:bz} {V:ej} {o:Int×Int}
theorem HC (h:c6 w0 w aI tb r bJ j V o) {m:aO} (H:dO m.ch) {v:aF} {x:aG} (aj:cA M w v x) :
  ba 245 [ptr aI,m.val,v.val] w λy w'=>∃ l:aF,y=l.val/\cA (λk=>k<w.heap.size) w' l (addr j.v.number m x)/\ai w w':=by
 refine bc Tryz.func245 ?_;rw [ptr,P1];rintro b1 w1 E u;obtain ⟨g,p⟩:=bk E u;have g:av w1 b1 m.cells ed:=g;clear u;rintro az U F z;obtain ⟨i,f⟩:=bk F z;have i:av U az v.cells cr:=i;clear z;rintro N L G A;obtain ⟨d,c⟩:=bk G A;have d:av L N (aF.cells ⟨0,0,0,0,0,0,none,0,0,0,0⟩) cr:=d;clear A;rintro D B;have b:ai L D:=by rw [B];exact cL _
 clear B;have a:=((p.new f).new c).new b;have Q:=p.size;have R:=f.size;have S:=c.size;have T:=b.size;have O:=h.bw a;have s:=h.num;have X:=h.ca.num;refine ⟨λy=>ai D y,ao.refl _ _,cO.aS r.View ⟨λy C=>bI (ai.ak C O.ak) rfl,aO.aS m ⟨λy C=>bI (ai.ak (((f.new c).new b).new C) g) rfl,aF.aS v ⟨λy C=>bI (ai.ak ((c.new b).new C) i) rfl,?_⟩⟩⟩⟩;refine aD (Ge D (by omega) (by omega) H (aj.ax (ao.bZ a) λ_ _ e=>e)) ?_;rintro y Y ⟨l,rfl,t,q⟩;refine aF.aS l ⟨rfl,dC (ai.ak (b.new q) d) rfl (aF.single _) λW J n=>?_⟩;have K:=d.lt;refine aF.aS l ⟨bI J rfl,rfl,l,rfl,?_,(a.new q).trans n λk P e=>by omega⟩;rw [s] at t;have I:cA (λk=>k<D.heap.size) W l (addr j.v.number m x):=t.ax (n.mono λk _ e=>by omega) λ_ _ e=>e
 exact I.ax (ao.refl _ _) λk _ e=>by omega
theorem ye (h:c6 w0 w aI tb r bJ j V o) {m:aO} (A:dO m.ch) {v:aF} {x:aG} (aj:cA M w v x) :
  ∀ b1 w1,b1=w.heap.size->w1=w.alloc (.cells m.cells.toArray ed)->∀ az l,az=w1.heap.size->l=w1.alloc (.cells #[.int .i64 0,.int .i64 0,.int .i64 0,.int .i64 0,.int .u64 0,.int .u64 0,.slice none 0 0,.int .u64 0,.int .i64 0] cr)->aO.ex λr=>b7 l ⟨b1,0,none⟩ 0 r.cells/\
   Calls prog 245 #[ptr aI,r.val,v.val] l λe E=>aF.ex λa=>e=.returned a.val/\dR E ⟨az,0,none⟩ 0 a.cells/\∀ d,d=cl E ⟨az,0,none⟩ 0 a.cells->aF.ex λres=>b7 d ⟨az,0,none⟩ 0 res.cells/\d=d/\
    (∃ i:aF,res.val=i.val/\cA (λk=>k<w.heap.size) d i (addr j.v.number m x)/\ai w d):=by
 rintro b1 w1 u s;obtain ⟨g,p⟩:=bk u s;have g:av w1 b1 m.cells ed:=g;clear s;rintro az l z t;obtain ⟨c,f⟩:=bk z t;have c:av l az (aF.cells ⟨0,0,0,0,0,0,none,0,0,0,0⟩) cr:=c;clear t;have b:=p.new f;have H:=p.size;have I:=f.size;refine aO.aS m ⟨bI (ai.ak f g) rfl,?_⟩;refine aD (HC (h.bw b) A (aj.ax (ao.bZ b) λ_ _ e=>e)) ?_;rintro y E ⟨i,rfl,B,q⟩;refine aF.aS i ⟨rfl,dC (ai.ak q c) rfl (aF.single _) λd D n=>?_⟩;have F:=c.lt;refine aF.aS i ⟨bI D rfl,rfl,i,rfl,?_,(b.new q).trans n λk G e=>by omega⟩;have C:cA (λk=>k<l.heap.size) d i (addr j.v.number m x):=B.ax (n.mono λk _ e=>by omega) λ_ _ e=>e
 exact C.ax (ao.refl _ _) λk _ e=>by omega
abbrev yf (w:al) (x:aG) (y:a0) (w':al):Prop:=∃ a:aF,y=a.val/\cA (λk=>k<w.heap.size) w' a x/\ai w w'
def lh (j:bz) (m:aO) (at_:Int) (ws:a4):aG:=addr j.v.number m ⟨2,0,at_,0,0,0,ws,0,0⟩
def l7 (j:bz) (m:aO) (at_ n:Int):aG:=addr j.v.number m ⟨1,0,at_,n,0,0,[],0,0⟩
def qs (j:bz) (m:aO) (at_ old new:Int):aG:=addr j.v.number m ⟨3,0,at_,0,old,new,[],0,0⟩
theorem we (h:c6 w0 w aI tb r bJ j V o) {m:aO} (b:dO m.ch) (at_:Int) {c:Nat} {ws:a4} (i:bg w a (us ws)) (g:n=ws.length) (e:n<=c) (d:a=none->ws=[]) (hu:∀ x ∈ ws,b3 x) (f:ws.length<=1000000) :
  ba 250 [ptr aI,m.val,.int .i64 at_,.slice a n c] w (yf w (lh j m at_ ws)):=by
 refine bc Tryz.func250 ?_;rw [ptr,Qc];exact ye h b (v:=⟨2,0,at_,0,0,0,a,n,c,0,0⟩) (x:=⟨2,0,at_,0,0,0,ws,0,0⟩) (oP (k:=2) (at_:=at_) (nn:=0) (old:=0) (new:=0) i g e d hu f gQ gQ)
theorem tq (h:c6 w0 w aI tb r bJ j V o) {m:aO} (b:dO m.ch) (at_ n:Int):ba 220 [ptr aI,m.val,.int .i64 at_,.int .i64 n] w (yf w (l7 j m at_ n)):=by refine bc Tryz.func220 ?_;rw [ptr,QB];exact ye h b (v:=⟨1,0,at_,n,0,0,none,0,0,0,0⟩) (x:=⟨1,0,at_,n,0,0,[],0,0⟩) (oP (k:=1) (at_:=at_) (nn:=n) (old:=0) (new:=0) (a:=none) (n:=0) (c:=0) (ws:=[]) (.inl rfl) rfl (by omega) (λ_=>rfl) (λx d=>by cases d) (by simp) gQ gQ)
theorem uc (h:c6 w0 w aI tb r bJ j V o) {m:aO} (b:dO m.ch) (at_:Int) {old new:Int} (e:b3 old) (d:b3 new):ba 223 [ptr aI,m.val,.int .i64 at_,.int .u64 old,.int .u64 new] w (yf w (qs j m at_ old new)):=by refine bc Tryz.func223 ?_;rw [ptr,Re];exact ye h b (v:=⟨3,0,at_,0,old,new,none,0,0,0,0⟩) (x:=⟨3,0,at_,0,old,new,[],0,0⟩) (oP (k:=3) (at_:=at_) (nn:=0) (old:=old) (new:=new) (a:=none) (n:=0) (c:=0) (ws:=[]) (.inl rfl) rfl (by omega) (λ_=>rfl) (λx f=>by cases f) (by simp) e d)
theorem CY (h:c6 w0 w aI tb r bJ j V o) (c:Int×Int) {K:aE} (d:∀ w',ao (λk=>k=aI) w w'->c6 w0 w' aI tb r bJ j V c->K w') :
  dR w ⟨aI,15,none⟩ 0 (h5 c).cells/\∀ w1,w1=cl w ⟨aI,15,none⟩ 0 (h5 c).cells->K w1:=by
 refine ⟨fI h.ak (dd 20) (dj.single _),λw1 b=>?_⟩;have a:ao (λk=>k=aI) w w1:=by rw [b];exact ht _ _ _ _ _
 refine d w1 a ⟨?_,h.bs,h.ca,h.mem,h.new.trans a λk f e=>by have:=h.oK;omega,h.oK,h.ki,h.ne⟩;rw [b];exact h.ak.cl (vs:=(h5 c).cells) (o:=15) (i:=0)
theorem wL (h:c6 w0 w aI tb r bJ j V o) (e:Int):ba 222 [ptr aI,.int .i64 e] w λv w'=>v=.bool false/\ao (λk=>k=aI) w w'/\c6 w0 w' aI tb r bJ j V (e,0):=by refine bc Tryz.func222 ?_;rw [ptr,QD];exact CY h (e,0) λw' b a=>⟨rfl,b,a⟩
end
structure ec (A:a2) (w0 u:al) (aI tb B:Nat) (r:cN) (m:aO) (j:bz) (V:ej) (R:b2) (bo:al):Prop where
 ax:ao (λk=>k=tb\/k=aI) u bo
 eb:c6 w0 bo aI tb r m j V R.out
 hp:∃ hM:ee,ek A w0 bo tb hM R.a7/\hM.di=R.di/\(match R.ask with
  |none=>hM.cW=0
  |some vs=>0<vs.length/\∃ w1,ai w0 w1/\B<=w1.heap.size/\bD w1 bo hM.aa hM.cW hM.ac vs)
theorem mJ {A:a2} {r:cN} {m:aO} {j:bz} {V:ej} (w:c6 w0 u aI tb r m j V (0,0)) {T:ee} {G:List (List aC)} (z:ek A w0 u tb T G) (C:fz T) {w1:al} (Z:ai w0 w1) (Us:tb<w1.heap.size) (Ur:aI<w1.heap.size) {cap:Nat} {vs:List aG} (aj:bD w1 u a n cap vs) (Ul:vs.length<=100000) :
  ba 221 [ptr aI,.slice a n cap] u λv bo=>∃ (dk:an) (dc:Nat) (raw:List bF),v=.tuple #[.slice dk raw.length dc,.bool (cd G vs 0).ok]/\
   ec A w0 u aI tb w1.heap.size r m j V (cd G vs 0) bo/\bg w0 dk (fq raw).flatten/\gi A w0 raw (cd G vs 0).done/\((cd G vs 0).ok=true->raw.length=vs.length):=by
 refine bc Tryz.func221 ?_;rw [ptr,QC];obtain ⟨L,p,J⟩:=aj.ex;have Uv:=J.1;have W:=aj.len;have Ut:=z.ak.lt;have U:=w.ne;refine ⟨_,w.ak.cell (i:=8) rfl,?_⟩;have E:n=L.length:=by omega
 rw [E] at p;have Uj:=Cb (A:=A) w.new w.ki z.ak z.a7 z.dA z.gc (aa:=a) (ac:=cap) p.rd J (by omega);rw [<-E] at Uj;refine aD Uj ?_;rintro v bY ⟨Ui,dk,dc,raw,rfl,O,s,I,g,D,S,Q,K,f⟩;rw [C.di,Bool.false_or] at K;have q:c6 w0 bY aI tb r m j V (0,0):=w.ax s λk e=>⟨by have:=w.ki;omega,by omega⟩
 have Uu:bD w1 bY a n cap vs:=aj.ax s λk e=>by omega
 refine ⟨_,_,_,_,rfl,?_⟩;have fin:∀ {y:al},ao (λk=>k=aI) bY y->∀ {R:b2},R.a7=(batch G vs).a7->R.di=(batch G vs).di->R.ask=(batch G vs).ask->c6 w0 y aI tb r m j V R.out->ec A w0 u aI tb w1.heap.size r m j V R y:=by
  intro y l R Um Un Uo X;have o:ao (λk=>k=tb\/k=aI) u y:=(s.mono λ_ _ e=>Or.inl e).trans l λk _ e=>.inr e
  refine ⟨o,X,Ui,?_,by rw [K,Un],?_⟩
  ·rw [Um];exact ⟨l.ak O (λe=>U e.symm),D,S,Q⟩
  ·rw [Uo];cases M:(batch G vs).ask with
   |none=>rw [M] at f;obtain ⟨_,N,_⟩:=f;show Ui.cW=0;rw [N];exact C.cW
   |some ws=>rw [M] at f;obtain ⟨Up,N,Uq⟩:=f;have:=Ab M;subst this;refine ⟨Ce M,w1,Z,dd _,?_⟩;rw [Up,N,Uq,<-W];exact aj.ax o λk e=>by rcases e with e | e<;>omega
 unfold cd;refine dZ (λc=>?_) (λc=>?_)
 ·rw [if_pos c];exact ⟨none,0,[],rfl,fin (ao.refl _ _) rfl rfl rfl q,.inl rfl,⟨rfl,λi v x aj=>by simp at aj⟩,λh=>by cases h⟩
 ·rw [if_neg (by rw [c];simp)];obtain ⟨F,H⟩:=BC c;refine aD (BH q.new rfl I g (by have:=g.1;have:=@pP G vs;omega)) ?_;rintro v br ⟨rfl,t⟩;have B:=q.bw t;refine ⟨_,rfl,dt (λe=>?_) (λe=>?_)⟩
  ·rw [if_pos e];refine aD (wL B (jm (batch G vs).done)) ?_;rintro v y ⟨rfl,l,P⟩;exact ⟨_,rfl,none,0,[],rfl,fin ((ao.bZ t).trans l λ_ _ e=>e) rfl H.symm F.symm P,.inl rfl,⟨rfl,λi v x aj=>by simp at aj⟩,λh=>by cases h⟩
  ·rw [if_neg (by simpa using e)];refine ⟨dk,dc,raw,rfl,fin (ao.bZ t) rfl H.symm F.symm B,I,g,λ_=>?_⟩
   by_cases Y:vs.length=0
   ·have:=g.1;have:=@pP G vs;omega
   ·have b:=g.1;unfold batch at c b;rw [if_neg Y] at c b;cases G with
    |nil=>cases c
    |cons d G'=>
     simp only at c b;split at c
     ·rename_i Uk;rw [if_pos Uk] at b;have:=wH Uk;simp only at b;omega
     ·cases c
end
section
open IntKind
variable (w:al) (R:cp) {a b c d e f g h:Nat} {A B:aV} {s t u v:an} {i k l m:Int} {j:aq} {F:Bool}
def sH (e:aV) (l:an) (a b:Nat) (n:an) (c d:Nat) (f:an) (g h:Nat) (i k:Int) (j:aq):aq:=.pointer (some e)::ag j 0 2 (ae l a b::ae n c d::ag j 2 24 (ae f g h::ab i::ab k::ag j 26 136 []))
def yF (a:aV) (e:an) (b c:Nat) (g:an) (d f:Nat) (j:aq):aq:=.pointer (some a)::ag j 0 2 (ae e b c::ae g d f::ag j 2 163 [])
def u_ (e:aV) (q:an) (a b:Nat) (r:an) (c d:Nat) (s:aV) (f:an) (g h:Nat) (i k:Int) (l:an) (m n:Nat) (o p:Int) (j:aq):aq:=.pointer (some e)::ag j 0 2 (ae q a b::ae r c d::ag j 2 1 (.pointer (some s)::ag j 3 22 (ae f g h::ab i::ab k::ag j 25 3 (ae l m n::ab o::ab p::ag j 28 130 []))))
def D1 (a:aV) (e:an) (b c:Nat) (n:an) (d f:Nat) (g:an) (h i:Nat) (k l:Int) (j:aq):aq:=.pointer (some a)::ag j 0 2 (ae e b c::ae n d f::ag j 2 24 (ae g h i::ab k::ab l::ag j 26 136 []))
def pv (e:aV) (p:an) (a b:Nat) (c:an) (d f:Nat) (g:an) (h i:Nat) (k:an) (l m:Nat) (n o:Int) (j:aq):aq:=.pointer (some e)::ag j 0 2 (ae p a b::ag j 2 7 (ae c d f::ae g h i::ag j 9 47 (ae k l m::ab n::ab o::ag j 56 105 [])))
def pw (a:aV) (e:an) (b c:Nat) (d:an) (f g:Nat) (h:an) (i k:Nat) (l:Int) (m:aV) (n:Int) (o:an) (p q:Nat) (r s:Int) (t:Bool) (j:aq):aq:=.pointer (some a)::ag j 0 2 (ae e b c::ag j 2 7 (ae d f g::ae h i k::ab l::ag j 9 1 (.pointer (some m)::ah n::ag j 10 43 (ae o p q::ab r::ab s::ag j 53 13 (ad t::ag j 66 91 [])))))
def u' (a:aV) (b:an) (c d:Nat) (f:an) (g h:Nat) (j:aq):aq:=.pointer (some a)::ag j 0 10 (ae b c d::ae f g h::ag j 10 155 [])
def va (a:aV) (e:an) (b c:Nat) (d:an) (f g:Nat) (h:an) (i k:Nat) (l:an) (m n:Nat) (o p:Int) (j:aq):aq:=.pointer (some a)::ag j 0 2 (ae e b c::ag j 2 7 (ae d f g::ae h i k::ag j 9 47 (ae l m n::ab o::ab p::ag j 56 105 [])))
def qI (e:aV) (a:an) (b c:Nat) (d:an) (f g:Nat) (h:an) (i k:Nat) (l m:Int) (j:aq):aq:=.pointer (some e)::ag j 0 10 (ae a b c::ae d f g::ag j 10 116 (ae h i k::ab l::ab m::ag j 126 36 []))
def mx (a:aV) (b:an) (c d:Nat) (f:an) (g h:Nat) (i:an) (k l:Nat) (m n:Int) (o:Bool) (j:aq):aq:=.pointer (some a)::ag j 0 10 (ae b c d::ae f g h::ag j 10 116 (ae i k l::ab m::ab n::ag j 126 32 (ad o::ag j 158 3 [])))
def yG  (j:aq):aq:=ag j 0 168 []
def D2 (a:aV) (b:an) (c d:Nat) (f:an) (g h:Nat) (i:an) (k l:Nat) (m n:Int) (j:aq):aq:=.pointer (some a)::ag j 0 10 (ae b c d::ae f g h::ag j 10 116 (ae i k l::ab m::ab n::ag j 126 36 []))
theorem Qd:bd prog f179 [a' a] R w=(eF 219 #[a' a] w λe b c h=>b0 h (af a 4) λd f g=>cx prog (cY f179 [1,1,1,0,1,0,0]) (sH (af a 0) e b c none 0 0 d f g (f:Nat) 0 (undef::ad false::bx 17 (jp (af a 0)::ae e b c::jp (af a 0)::jp (af a 0)::jp (af a 0)::jp (af a 3)::jp (af a 4)::bx 136 []))) (aW 0 (aZ f179 [1,1,1,1] R)) h):=by kernel_rfl
theorem Pa (g:Exit->aq->aE):W prog (sb f179 [1,1,1,0,1,0,0]) (sH A s a b t c d u e f i k j) (bC prog f179 R g) w=(cond (k<i) (bB u e k 3 λl=>hX w l λr=>aQ w #[ab 0,ab 0,ad false] 116 λh o=>a_ o (af h 0) 0 r.cells λm=>cx prog (cY f179 [1,1,1,0,1,0,0,1,1,0,0,1,1,0,0]) (u_ A s a b t c d (af h 0) u e f i k s a b (a:Nat) 0 (aN j 0::aN j 1::aN j 2::ag j 4 22 (ad (k<i)::jp l::r.val::ag j 32 130 []))) (aW 2 (aW 1 (a1 (λn w=>W prog (sb f179 [1,1,1,0,1,0,0,1,1,1]) n (bC prog f179 R g) w) (bC prog f179 R g)))) m) (g (.exit 0) (yF A s a b t c d (ag j 0 26 (ae u e f::ab i::ab k::ad (k<i)::ag j 27 135 []))) w)):=by kernel_rfl
theorem Po (e:Exit->aq->aE):W prog (sb f179 [1,1,1,1]) (yF A s a b t c d j) (bC prog f179 R e) w=(iX 221 #[.pointer (some A),ae t c d] w λg h i k f=>cond (!k) (R (ad false) f) (cx prog (cY f179 [1,1,1,1,1,1,1,1,0,1,0,0]) (pv A s a b none 0 0 none 0 0 g h i (h:Nat) 0 (aN j 0::aN j 1::ae t c d::ag j 2 4 (ae g h i::ad k::ag j 10 39 (.tuple #[ae g h i,ad k]::jp A::ae t c d::.tuple #[ae g h i,ad k]::ae g h i::ad k::ad k::ad (!k)::ag j 60 105 [])))) (aW 4 (a1 (λl w=>W prog (sb f179 [1,1,1,1,1,1,1,1,1]) l (bC prog f179 R e) w) (bC prog f179 R e))) f)):=by kernel_rfl
theorem Pb (D:Exit->aq->aE):W prog (sb f179 [1,1,1,0,1,0,0,1,1,0,0,1,1,0,0]) (u_ A s a b t c d B u e f i k v g h l m j) (bC prog f179 R D) w=(cond (m<l) (bB v g m 3 λa8=>E2 w a8 λr=>aQ w #[ab 0,ah 0,ad false] 309 λz L=>a_ L (af z 0) 0 r.cells λM=>cu M λN y=>gO y B λF=>cP y (af z 0) λq=>cm 106 #[ab q] N λn E=>y E/\eh 220 #[.pointer (some A),F.val,ab n,ab 1] E λx G=>y G/\aQ G x.cells.toArray 158 λa5 K=>y K/\cZ 125 (ae t c d) (ae (bj a5) 1 1) K λC o p H=>y H/\D .normal (u_ A s a b C o p B u e f i k v g h l (i64.wrap (m+1)) (ag j 0 4 (jp (af z 0)::ag j 5 23 (ad (m<l)::jp a8::r.val::ae t c d::jp A::F.val::jp (af z 0)::ab q::ab n::x.val::ae (bj a5) 1 1::ae C o p::ab (i64.wrap (m+1))::ag j 41 117 [])))) H) (D (.exit 2) (D1 A s a b t c d u e f i k (aN j 0::aN j 1::aN j 2::jp B::ag j 3 25 (ae v g h::ab l::ab m::ad (m<l)::ag j 29 129 []))) w)):=by kernel_rfl
theorem Pp (g:Exit->aq->aE):W prog (sb f179 [1,1,1,0,1,0,0,1,1,1]) (D1 A s a b t c d u e f i k j) (bC prog f179 R g) w=(g .normal (sH A s a b t c d u e f i (i64.wrap (k+1)) (ag j 0 45 (ab (i64.wrap (k+1))::ag j 46 116 []))) w):=by kernel_rfl
theorem Pc (o:Exit->aq->aE):W prog (sb f179 [1,1,1,1,1,1,1,1,0,1,0,0]) (pv A s a b t c d u e f v g h i k j) (bC prog f179 R o) w=(cond (k<i) (bB v g k 2 λa5=>oI w a5 λr=>aQ w #[ab 0,a3] 131 λE P=>a_ P (af E 0) 0 r.cells λQ=>cu Q λO z=>IntKind.i64=IntKind.i64/\(a:Int)≠0/\bB s a (Int.tmod k (a:Nat)) 3 λy=>E3 z y λF=>vY z (af E 0) λG=>(iV 196 #[G.val] O λp L=>z L/\aQ L #[ab 0,ah 0,ad false] 309 λC M=>z M/\a_ M (af C 0) 0 F.cells λa8=>z a8/\jM a8 (af C 2) λq=>cond q (dN a8 (af C 1) λl=>W prog (sb f179 [1,1,1,1,1,1,1,1,0,1,0,0,1,1,0,0,1,1,0,1]) (pw A s a b t c d u e f k (af C 0) p v g h i k (decide ((p:Int)>l)) (ag j 0 9 (jp (af E 0)::ag j 13 43 (ad (k<i)::ab k::jp a5::r.val::ae s a b::ab k::ae s a b::du a::ab (Int.tmod k (a:Nat))::jp y::F.val::G.val::ah p::jp (af C 2)::ad q::ad true::ah p::jp (af C 1)::ah l::ad (p>l)::ad (p>l)::ag j 78 83 [])))) (aW 6 (aW 5 (a1 (λD w=>W prog (sb f179 [1,1,1,1,1,1,1,1,0,1,0,0,1,1,1]) D (bC prog f179 R o) w) (bC prog f179 R o)))) a8) (W prog (sb f179 [1,1,1,1,1,1,1,1,0,1,0,0,1,1,0,0,1,1,0,1]) (pw A s a b t c d u e f k (af C 0) p v g h i k false (ag j 0 9 (jp (af E 0)::ag j 13 43 (ad (k<i)::ab k::jp a5::r.val::ae s a b::ab k::ae s a b::du a::ab (Int.tmod k (a:Nat))::jp y::F.val::G.val::ah p::jp (af C 2)::ad q::ad false::bx 4 (ad false::ag j 78 83 []))))) (aW 6 (aW 5 (a1 (λD w=>W prog (sb f179 [1,1,1,1,1,1,1,1,0,1,0,0,1,1,1]) D (bC prog f179 R o) w) (bC prog f179 R o)))) a8))/\aQ O #[ab 0,ah 0,ad false] 309 λB N=>z N/\iV 196 #[G.val] N λm K=>z K/\a_ K (af B 0) 0 F.cells λH=>z H/\jM H (af B 2) λn=>cond n (dN H (af B 1) λx=>W prog (sb f179 [1,1,1,1,1,1,1,1,0,1,0,0,1,1,0,0,1,1,0,1]) (pw A s a b t c d u e f k (af B 0) m v g h i k (decide ((m:Int)>x)) (ag j 0 9 (jp (af E 0)::ag j 13 43 (ad (k<i)::ab k::jp a5::r.val::ae s a b::ab k::ae s a b::du a::ab (Int.tmod k (a:Nat))::jp y::F.val::G.val::ah m::jp (af B 2)::ad n::ad true::ah m::jp (af B 1)::ah x::ad (m>x)::ad (m>x)::ag j 78 83 [])))) (aW 6 (aW 5 (a1 (λD w=>W prog (sb f179 [1,1,1,1,1,1,1,1,0,1,0,0,1,1,1]) D (bC prog f179 R o) w) (bC prog f179 R o)))) H) (W prog (sb f179 [1,1,1,1,1,1,1,1,0,1,0,0,1,1,0,0,1,1,0,1]) (pw A s a b t c d u e f k (af B 0) m v g h i k false (ag j 0 9 (jp (af E 0)::ag j 13 43 (ad (k<i)::ab k::jp a5::r.val::ae s a b::ab k::ae s a b::du a::ab (Int.tmod k (a:Nat))::jp y::F.val::G.val::ah m::jp (af B 2)::ad n::ad false::bx 4 (ad false::ag j 78 83 []))))) (aW 6 (aW 5 (a1 (λD w=>W prog (sb f179 [1,1,1,1,1,1,1,1,0,1,0,0,1,1,1]) D (bC prog f179 R o) w) (bC prog f179 R o)))) H)) (o (.exit 4) (u' A t c d u e f (aN j 0::aN j 1::ae s a b::ag j 2 54 (ae v g h::ab i::ab k::ad (k<i)::ag j 57 104 []))) w)):=by kernel_rfl
theorem Pq (E:Exit->aq->aE):W prog (sb f179 [1,1,1,1,1,1,1,1,0,1,0,0,1,1,0,0,1,1,0,1]) (pw A s a b t c d u e f i B k v g h l m F j) (bC prog f179 R E) w=(cond F (dm 222 #[.pointer (some A),ab 11] w λx Ul=>R (ad x) Ul) (dN w (bS B 1) λy=>cond (k<y) (cu w λUi n=>e1 n (af A.block (A.off+3+1)) λz V Um=>IntKind.i64=IntKind.i64/\(a:Int)≠0/\bB z V (i64.wrap (Int.tdiv i (a:Nat))) 3 λL=>gO n L λr=>aQ Ui #[ab 0,ab 0,ad false] 116 λD M=>n M/\a_ M (af D 0) 0 r.cells λUj=>cu Uj λJ p=>gO p (af D 0) λZ=>cP p B λQ=>js p (bS B 1) λG=>cm 106 #[ab Q] J λY a8=>p a8/\eh 223 #[.pointer (some A),Z.val,ab Y,ah k,ah G] a8 λo H=>p H/\aQ H o.cells.toArray 158 λX N=>p N/\cZ 125 (ae t c d) (ae (bj X) 1 1) N λq S O C=>p C/\E2 C B λa5=>aQ C a5.cells.toArray 309 λT U=>cZ 306 (ae u e f) (ae (bj T) 1 1) U λP I K Uk=>E .normal (va A s a b q S O P I K v g h l m (ag j 0 9 (ab i::aN j 9::jp B::ah k::jp (af D 0)::ag j 11 55 (ad F::ag j 66 10 (ad (k<y)::ah k::bE B 1::ah y::ad (k<y)::jp A::jp A::jp A::bE A 3::jp (af A.block (A.off+3+1))::ae z V Um::ab i::ae s a b::du a::ab (i64.wrap (Int.tdiv i (a:Nat)))::jp L::r.val::ae t c d::jp A::Z.val::jp B::ab Q::ab Y::ah k::bE B 1::ah G::o.val::ae (bj X) 1 1::ae q S O::ae u e f::a5.val::ae (bj T) 1 1::ae P I K::ag j 109 48 []))))) Uk) (E .normal (va A s a b t c d u e f v g h l m (ag j 0 9 (ab i::aN j 9::jp B::ah k::ag j 10 56 (ad F::ag j 66 10 (ad (k<y)::ah k::bE B 1::ah y::ad (k<y)::ag j 81 76 []))))) w))):=by kernel_rfl
theorem Pr (e:Exit->aq->aE):W prog (sb f179 [1,1,1,1,1,1,1,1,1]) (u' A s a b t c d j) (bC prog f179 R e) w=(iX 221 #[.pointer (some A),ae s a b] w λi k l m f=>cond (!m) (R (ad false) f) (cx prog (cY f179 [1,1,1,1,1,1,1,1,1,1,1,0,1,0,0]) (qI A s a b t c d i k l (k:Nat) 0 (ag j 0 8 (ae i k l::ad m::ag j 10 108 (.tuple #[ae i k l,ad m]::jp A::ae s a b::.tuple #[ae i k l,ad m]::ae i k l::ad m::ad m::ad (!m)::ag j 129 36 [])))) (aW 7 (a1 (λg w=>W prog (sb f179 [1,1,1,1,1,1,1,1,1,1,1,1]) g (bC prog f179 R e) w) (bC prog f179 R e))) f)):=by kernel_rfl
theorem Ps (l:Exit->aq->aE):W prog (sb f179 [1,1,1,1,1,1,1,1,0,1,0,0,1,1,1]) (va A s a b t c d u e f v g h i k j) (bC prog f179 R l) w=(l .normal (pv A s a b t c d u e f v g h i (i64.wrap (k+1)) (ag j 0 113 (ab (i64.wrap (k+1))::ag j 114 47 []))) w):=by kernel_rfl
theorem Pd (l:Exit->aq->aE):W prog (sb f179 [1,1,1,1,1,1,1,1,1,1,1,0,1,0,0]) (qI A s a b t c d u e f i k j) (bC prog f179 R l) w=(cond (k<i) (bB u e k 2 λG=>oI w G λr=>aQ w #[ab 0,a3] 131 λE I=>a_ I (af E 0) 0 r.cells λT=>cu T λP M=>vY M (af E 0) λF=>bB t c k 3 λa5=>E3 M a5 λD=>(iV 196 #[F.val] P λn S=>M S/\aQ S #[ab 0,ah 0,ad false] 309 λC N=>M N/\a_ N (af C 0) 0 D.cells λL=>bB s a k 9 λa8=>dN L (bS a8 4) λo=>cond (n != o) (dN L (af C 1) λp=>cond (n != p) (jM L (af C 2) λq=>cond q (W prog (sb f179 [1,1,1,1,1,1,1,1,1,1,1,0,1,0,0,1,1,0,0,1,1,1]) (mx A s a b t c d u e f i k true (ag j 0 15 (ab k::jp (af E 0)::ah n::jp (af C 0)::ag j 19 107 (ad (k<i)::ab k::jp G::r.val::F.val::ah n::ae t c d::ab k::jp a5::D.val::ah n::ae s a b::ab k::jp a8::bE a8 4::ah o::ad ((n:Int) != o)::ad true::ah n::jp (af C 1)::ah p::ad ((n:Int) != p)::ad ((n:Int) != p)::ad true::jp (af C 2)::ad q::ad true::bx 4 [ad true,aN j 159,aN j 160,aN j 161])))) (aW 8 (a1 (λm w=>W prog (sb f179 [1,1,1,1,1,1,1,1,1,1,1,0,1,0,0,1,1,1]) m (bC prog f179 R l) w) (bC prog f179 R l))) L) (dN L (af C 1) λh=>W prog (sb f179 [1,1,1,1,1,1,1,1,1,1,1,0,1,0,0,1,1,0,0,1,1,1]) (mx A s a b t c d u e f i k (decide ((n:Int)<h)) (ag j 0 15 (ab k::jp (af E 0)::ah n::jp (af C 0)::ag j 19 107 [ad (k<i),ab k,jp G,r.val,F.val,ah n,ae t c d,ab k,jp a5,D.val,ah n,ae s a b,ab k,jp a8,bE a8 4,ah o,ad ((n:Int) != o),ad true,ah n,jp (af C 1),ah p,ad ((n:Int) != p),ad ((n:Int) != p),ad true,jp (af C 2),ad q,ad false,ah n,jp (af C 1),ah h,ad (n<h),ad (n<h),aN j 159,aN j 160,aN j 161]))) (aW 8 (a1 (λm w=>W prog (sb f179 [1,1,1,1,1,1,1,1,1,1,1,0,1,0,0,1,1,1]) m (bC prog f179 R l) w) (bC prog f179 R l))) L)) (W prog (sb f179 [1,1,1,1,1,1,1,1,1,1,1,0,1,0,0,1,1,0,0,1,1,1]) (mx A s a b t c d u e f i k false (ag j 0 15 (ab k::jp (af E 0)::ah n::jp (af C 0)::ag j 19 107 (ad (k<i)::ab k::jp G::r.val::F.val::ah n::ae t c d::ab k::jp a5::D.val::ah n::ae s a b::ab k::jp a8::bE a8 4::ah o::ad ((n:Int) != o)::ad true::ah n::jp (af C 1)::ah p::ad ((n:Int) != p)::ad ((n:Int) != p)::ad false::bx 8 [aN j 159,aN j 160,aN j 161])))) (aW 8 (a1 (λm w=>W prog (sb f179 [1,1,1,1,1,1,1,1,1,1,1,0,1,0,0,1,1,1]) m (bC prog f179 R l) w) (bC prog f179 R l))) L)) (W prog (sb f179 [1,1,1,1,1,1,1,1,1,1,1,0,1,0,0,1,1,0,0,1,1,1]) (mx A s a b t c d u e f i k false (ag j 0 15 (ab k::jp (af E 0)::ah n::jp (af C 0)::ag j 19 107 (ad (k<i)::ab k::jp G::r.val::F.val::ah n::ae t c d::ab k::jp a5::D.val::ah n::ae s a b::ab k::jp a8::bE a8 4::ah o::ad ((n:Int) != o)::ad false::bx 4 (ad false::ad false::bx 8 [aN j 159,aN j 160,aN j 161]))))) (aW 8 (a1 (λm w=>W prog (sb f179 [1,1,1,1,1,1,1,1,1,1,1,0,1,0,0,1,1,1]) m (bC prog f179 R l) w) (bC prog f179 R l))) L))/\aQ P #[ab 0,ah 0,ad false] 309 λB O=>M O/\iV 196 #[F.val] O λg Q=>M Q/\a_ Q (af B 0) 0 D.cells λK=>bB s a k 9 λH=>dN K (bS H 4) λv=>cond (g != v) (dN K (af B 1) λx=>cond (g != x) (jM K (af B 2) λy=>cond y (W prog (sb f179 [1,1,1,1,1,1,1,1,1,1,1,0,1,0,0,1,1,0,0,1,1,1]) (mx A s a b t c d u e f i k true (ag j 0 15 (ab k::jp (af E 0)::ah g::jp (af B 0)::ag j 19 107 (ad (k<i)::ab k::jp G::r.val::F.val::ah g::ae t c d::ab k::jp a5::D.val::ah g::ae s a b::ab k::jp H::bE H 4::ah v::ad ((g:Int) != v)::ad true::ah g::jp (af B 1)::ah x::ad ((g:Int) != x)::ad ((g:Int) != x)::ad true::jp (af B 2)::ad y::ad true::bx 4 [ad true,aN j 159,aN j 160,aN j 161])))) (aW 8 (a1 (λm w=>W prog (sb f179 [1,1,1,1,1,1,1,1,1,1,1,0,1,0,0,1,1,1]) m (bC prog f179 R l) w) (bC prog f179 R l))) K) (dN K (af B 1) λz=>W prog (sb f179 [1,1,1,1,1,1,1,1,1,1,1,0,1,0,0,1,1,0,0,1,1,1]) (mx A s a b t c d u e f i k (decide ((g:Int)<z)) (ag j 0 15 (ab k::jp (af E 0)::ah g::jp (af B 0)::ag j 19 107 [ad (k<i),ab k,jp G,r.val,F.val,ah g,ae t c d,ab k,jp a5,D.val,ah g,ae s a b,ab k,jp H,bE H 4,ah v,ad ((g:Int) != v),ad true,ah g,jp (af B 1),ah x,ad ((g:Int) != x),ad ((g:Int) != x),ad true,jp (af B 2),ad y,ad false,ah g,jp (af B 1),ah z,ad (g<z),ad (g<z),aN j 159,aN j 160,aN j 161]))) (aW 8 (a1 (λm w=>W prog (sb f179 [1,1,1,1,1,1,1,1,1,1,1,0,1,0,0,1,1,1]) m (bC prog f179 R l) w) (bC prog f179 R l))) K)) (W prog (sb f179 [1,1,1,1,1,1,1,1,1,1,1,0,1,0,0,1,1,0,0,1,1,1]) (mx A s a b t c d u e f i k false (ag j 0 15 (ab k::jp (af E 0)::ah g::jp (af B 0)::ag j 19 107 (ad (k<i)::ab k::jp G::r.val::F.val::ah g::ae t c d::ab k::jp a5::D.val::ah g::ae s a b::ab k::jp H::bE H 4::ah v::ad ((g:Int) != v)::ad true::ah g::jp (af B 1)::ah x::ad ((g:Int) != x)::ad ((g:Int) != x)::ad false::bx 8 [aN j 159,aN j 160,aN j 161])))) (aW 8 (a1 (λm w=>W prog (sb f179 [1,1,1,1,1,1,1,1,1,1,1,0,1,0,0,1,1,1]) m (bC prog f179 R l) w) (bC prog f179 R l))) K)) (W prog (sb f179 [1,1,1,1,1,1,1,1,1,1,1,0,1,0,0,1,1,0,0,1,1,1]) (mx A s a b t c d u e f i k false (ag j 0 15 (ab k::jp (af E 0)::ah g::jp (af B 0)::ag j 19 107 (ad (k<i)::ab k::jp G::r.val::F.val::ah g::ae t c d::ab k::jp a5::D.val::ah g::ae s a b::ab k::jp H::bE H 4::ah v::ad ((g:Int) != v)::ad false::bx 4 (ad false::ad false::bx 8 [aN j 159,aN j 160,aN j 161]))))) (aW 8 (a1 (λm w=>W prog (sb f179 [1,1,1,1,1,1,1,1,1,1,1,0,1,0,0,1,1,1]) m (bC prog f179 R l) w) (bC prog f179 R l))) K)) (l (.exit 7) (yG  (jp A::ag j 0 10 (ae s a b::ae t c d::ag j 10 116 (ae u e f::ab i::ab k::ad (k<i)::ag j 127 35 [])))) w)):=by kernel_rfl
theorem Pt (g:Exit->aq->aE):W prog (sb f179 [1,1,1,1,1,1,1,1,1,1,1,0,1,0,0,1,1,0,0,1,1,1]) (mx A s a b t c d u e f i k F j) (bC prog f179 R g) w=(cond F (dm 222 #[.pointer (some A),ab 11] w λp h=>R (ad p) h) (g .normal (D2 A s a b t c d u e f i k (ag j 0 158 [ad F,aN j 158,aN j 159,aN j 160])) w)):=by kernel_rfl
theorem Pu (a:Exit->aq->aE):W prog (sb f179 [1,1,1,1,1,1,1,1,1,1,1,1]) (yG  j) (bC prog f179 R a) w=(R (ad true) w):=by kernel_rfl
theorem Pv (g:Exit->aq->aE):W prog (sb f179 [1,1,1,1,1,1,1,1,1,1,1,0,1,0,0,1,1,1]) (D2 A s a b t c d u e f i k j) (bC prog f179 R g) w=(g .normal (qI A s a b t c d u e f i (i64.wrap (k+1)) (ag j 0 161 [ab (i64.wrap (k+1))])) w):=by kernel_rfl
theorem Qu:bd prog f219 [a' a] R w=(cu w λr n=>cP n (af a 5) λe=>cP n (af a 6) λb=>aQ r #[ab e,ah (u64.wrap b),ad true] 309 λm o=>n o/\dN o (af a 7) λc=>zc 177 #[ah c] o λd f g l=>cond g (bG l (af a 5) λh=>cond (f != h) (aQ l #[ab f,ah (u64.wrap (i64.wrap (d+1))),ad false] 309 λs p=>cZ 306 (ae (bj m) 1 1) (ae (bj s) 1 1) p λj i k q=>R (ae j i k) q) (R (ae (bj m) 1 1) l)) (R (ae (bj m) 1 1) l)):=by kernel_rfl
end
section
open IntKind
variable (w:al) (R:cp) {a b c d:Nat} {A:aV} {s t:an} {i k l:Int} {j:aq} {F:Bool}
theorem Qe:bd prog f180 [a' a] R w=(cu w λx j=>gO j (af a 9) λn=>cP j (af a 5) λe=>js j (af a 7) λb=>js j (af a 12) λc=>cm 224 #[ab e] x λd t=>j t/\eh 223 #[a' a,n.val,ab d,ah b,ah c] t λo u=>j u/\aQ u o.cells.toArray 158 λv s=>j s/\iX 221 #[a' a,ae (bj v) 1 1] s λf g h i q=>j q/\cond (!i) (R (ad false) q) (bB f g 0 2 λz=>oI q z λr=>iV 196 #[r.val] q λk p=>dN p (af a 7) λl=>cond (k != l) (dN p (af a 12) λm=>cond (k != m) (a_ p (af a 15) 0 [ab 3,ab 0,ab 0,ab 0,ah k] λy=>R (ad false) y) (R (ad true) p)) (R (ad true) p))):=by kernel_rfl
def sI (e:aV) (i:an) (a b:Nat) (c:an) (d f:Nat) (g h:Int) (j:aq):aq:=.pointer (some e)::ag j 0 2 (ae i a b::ag j 2 11 (ae c d f::ab g::ab h::ag j 13 109 []))
def yI (a:aV) (d:an) (b c:Nat) (j:aq):aq:=.pointer (some a)::ag j 0 2 (ae d b c::ag j 2 123 [])
def qK (e:aV) (f:an) (a b:Nat) (s8:Bool) (c d:Int) (j:aq):aq:=.pointer (some e)::ag j 0 5 (ae f a b::ag j 5 1 (ad s8::ag j 6 63 (ab c::ab d::ag j 69 53 [])))
def sJ (a:aV) (e:an) (b c:Nat) (s8:Bool) (g d f:Int) (j:aq):aq:=.pointer (some a)::ag j 0 5 (ae e b c::ag j 5 1 (ad s8::ab g::ag j 6 62 (ab d::ab f::ag j 68 53 [])))
def yJ (a:aV) (d:an) (b c:Nat) (s8:Bool) (j:aq):aq:=.pointer (some a)::ag j 0 5 (ae d b c::ag j 5 1 (ad s8::ag j 6 118 []))
def yK (a:aV) (e:an) (b c:Nat) (s8:Bool) (d f:Int) (j:aq):aq:=.pointer (some a)::ag j 0 5 (ae e b c::ag j 5 1 (ad s8::ag j 6 63 (ab d::ab f::ag j 69 53 [])))
theorem QE:bd prog f181 [a' a] R w=(b0 w (af a 4) λd b c=>cx prog (cY f181 [1,1,0,1,0,0]) (sI (af a 0) none 0 0 d b c (b:Nat) 0 (undef::ad false::bx 6 (jp (af a 0)::jp (af a 0)::jp (af a 0)::jp (af a 3)::jp (af a 4)::bx 109 []))) (aW 0 (aZ f181 [1,1,1] R)) w):=by kernel_rfl
theorem O1 (v:Exit->aq->aE):W prog (sb f181 [1,1,0,1,0,0]) (sI A s a b t c d i k j) (bC prog f181 R v) w=(cond (k<i) (bB t c k 3 λF=>hX w F λr=>aQ w #[ab 0,ab 0,ad false] 116 λg a5=>a_ a5 (af g 0) 0 r.cells λa8=>cu a8 λK f=>gO f (af g 0) λH=>cP f (bS A 5) λe=>gO f (af g 0) λD=>cP f (bS A 5) λh=>cm 106 #[ab e] K λl y=>f y/\eh 220 #[.pointer (some A),H.val,ab l,ab 1] y λp z=>f z/\cm 215 #[ab h] z λm G=>f G/\eh 220 #[.pointer (some A),D.val,ab m,ab 120] G λq B=>f B/\aQ B #[ab p.Kind,ab p.Node,ab p.bQ,ab p.N,ah p.Old,ah p.ai,ae p.Words p.cG p.cy,ah p.Key,ab p.ch,ab q.Kind,ab q.Node,ab q.bQ,ab q.N,ah q.Old,ah q.ai,ae q.Words q.cG q.cy,ah q.Key,ab q.ch] 158 λE x=>f x/\cZ 125 (ae s a b) (ae (bj E) 2 2) x λu n o C=>f C/\v .normal (sI A u n o t c d i (i64.wrap (k+1)) (aN j 0::aN j 1::aN j 2::jp (af g 0)::ag j 4 9 (ad (k<i)::jp F::r.val::ae s a b::jp A::H.val::jp A::jp A::jp A::bE A 5::ab e::ab l::p.val::jp A::D.val::jp A::jp A::jp A::bE A 5::ab h::ab m::q.val::ae (bj E) 2 2::ae u n o::ab (i64.wrap (k+1))::ag j 38 84 []))) C) (v (.exit 0) (yI A s a b (ag j 0 13 (ae t c d::ab i::ab k::ad (k<i)::ag j 14 108 []))) w)):=by kernel_rfl
theorem P6 (t:Exit->aq->aE):W prog (sb f181 [1,1,1]) (yI A s a b j) (bC prog f181 R t) w=(cu w λD c=>gO c (bS A 9) λq=>cP c (bS A 5) λd=>cm 225 #[ab d] D λf z=>c z/\eh 220 #[.pointer (some A),q.val,ab f,ab 1] z λr B=>c B/\aQ B r.cells.toArray 158 λx v=>c v/\cZ 125 (ae s a b) (ae (bj x) 1 1) v λe g h y=>c y/\iX 221 #[.pointer (some A),ae e g h] y λi k l m u=>cond (!m) (R (ad false) u) (b0 u (af A.block (A.off+3+1)) λn o p=>cx prog (cY f181 [1,1,1,1,1,1,1,0,1,0,0]) (qK A i k l true (o:Nat) 0 (aN j 0::aN j 1::ae e g h::aN j 2::aN j 3::ad m::ag j 7 34 (ae s a b::jp A::jp A::jp A::bE A 9::q.val::jp A::jp A::jp A::bE A 5::ab d::ab f::r.val::ae (bj x) 1 1::ae e g h::.tuple #[ae i k l,ad m]::jp A::ae e g h::.tuple #[ae i k l,ad m]::ae i k l::ad m::ad m::ad (!m)::jp A::jp A::jp A::bE A 3::jp (af A.block (A.off+3+1))::ae n o p::ag j 72 53 []))) (aW 2 (a1 (λC w=>W prog (sb f181 [1,1,1,1,1,1,1,1]) C (bC prog f181 R t) w) (bC prog f181 R t))) u)):=by kernel_rfl
theorem O2 (c:Exit->aq->aE):W prog (sb f181 [1,1,1,1,1,1,1,0,1,0,0]) (qK A s a b F i k j) (bC prog f181 R c) w=(cond (k<i) (cu w λm d=>cond F (bB s a (i64.wrap (2 * k)) 2 λl=>vY d l λr=>cP d (bS A 6) λf=>iV 196 #[r.val] m λg h=>d h/\W prog (sb f181 [1,1,1,1,1,1,1,0,1,0,0,1,1,0,0,1,1]) (sJ A s a b ((g:Int) == (u64.wrap f)) k i k (ag j 0 6 (ag j 7 62 (ad (k<i)::ab k::ad F::ad true::ae s a b::ab k::ab (i64.wrap (2 * k))::jp l::r.val::ah g::jp A::jp A::jp A::bE A 6::ab f::ah (u64.wrap f)::ad ((g:Int) == (u64.wrap f))::ad ((g:Int) == (u64.wrap f))::ag j 87 35 [])))) (aW 3 (a1 (λe w=>W prog (sb f181 [1,1,1,1,1,1,1,0,1,0,0,1,1,1]) e (bC prog f181 R c) w) (bC prog f181 R c))) h) (W prog (sb f181 [1,1,1,1,1,1,1,0,1,0,0,1,1,0,0,1,1]) (sJ A s a b false k i k (ag j 0 6 (ag j 7 62 (ad (k<i)::ab k::ad F::ad false::bx 13 (ad false::ag j 87 35 []))))) (aW 3 (a1 (λe w=>W prog (sb f181 [1,1,1,1,1,1,1,0,1,0,0,1,1,1]) e (bC prog f181 R c) w) (bC prog f181 R c))) m)) (c (.exit 2) (yJ A s a b F (ag j 0 69 (ab i::ab k::ad (k<i)::ag j 70 52 []))) w)):=by kernel_rfl
theorem P7 (t:Exit->aq->aE):W prog (sb f181 [1,1,1,1,1,1,1,0,1,0,0,1,1,0,0,1,1]) (sJ A s a b F i k l j) (bC prog f181 R t) w=(cu w λy f=>e1 f (bS A 13) λg h c=>bB s a (i64.wrap ((i64.wrap (2 * i))+1)) 2 λq=>e1 f (bS q 1) λp d m=>aQ y #[ae p d m] 94 λr u=>f u/\cZ 218 (ae g h c) (ae (bj r) 1 1) u λe n o v=>f v/\cE v (bS A 13) (ae e n o) λx=>t .normal (yK A s a b F k l (ag j 0 6 (ab i::ag j 6 80 (jp A::jp A::jp A::bE A 13::ae g h c::ae s a b::ab i::ab (i64.wrap (2 * i))::ab (i64.wrap ((i64.wrap (2 * i))+1))::jp q::bE q 1::ae p d m::ae (bj r) 1 1::ae e n o::jp A::bE A 13::ag j 102 19 [])))) x):=by kernel_rfl
theorem P8 (i:Exit->aq->aE):W prog (sb f181 [1,1,1,1,1,1,1,1]) (yJ A s a b F j) (bC prog f181 R i) w=(bB s a (i64.wrap ((a:Nat) - 1)) 2 λk=>oI w k λr=>iV 196 #[r.val] w λd l=>cE l (bS A 14) (ah d) λc=>cond (!F) (dm 183 #[.pointer (some A)] c λf e=>cond f (dm 222 #[.pointer (some A),ab 11] e λg h=>R (ad g) h) (R (ad false) e)) (R (ad true) c)):=by kernel_rfl
theorem P9 (c:Exit->aq->aE):W prog (sb f181 [1,1,1,1,1,1,1,0,1,0,0,1,1,1]) (yK A s a b F i k j) (bC prog f181 R c) w=(c .normal (qK A s a b F i (i64.wrap (k+1)) (ag j 0 103 (ab (i64.wrap (k+1))::ag j 104 18 []))) w):=by kernel_rfl
theorem P2:bd prog f183 [a' a] R w=(cu w λq e=>gO e (af a 9) λi=>cP e (af a 5) λj=>js e (af a 12) λb=>cm 224 #[ab j] q λc n=>e n/\eh 223 #[a' a,i.val,ab c,ah b,ah 0] n λk o=>e o/\aQ o k.cells.toArray 158 λp l=>e l/\iX 221 #[a' a,ae (bj p) 1 1] l λd f g h m=>e m/\R (ad h) m):=by kernel_rfl
end
end Go.Proofs.YtmkljjbioomepaaGreat
