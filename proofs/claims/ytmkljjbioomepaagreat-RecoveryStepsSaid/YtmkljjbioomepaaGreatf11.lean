import Derived.Test.YtmkljjbioomepaaGreatf10
import Derived.Test.YtmkljjbioomepaaGreatf03
import Derived.Test.YtmkljjbioomepaaGreatProg
import Derived.Test.YtmkljjbioomepaaGreatf02
set_option linter.all false
set_option maxHeartbeats 4000000
set_option maxRecDepth 100000
namespace Go.Proofs.YtmkljjbioomepaaGreat
open Go.Proofs.Tryz Go.bd
variable {A M:a6}{B b c cap a0 m n sz tb:Nat}{K:an->Nat->Nat->aK}{a s:an}{h i lines seq:Int}{u bF bp w w0 w1:aj}{ws:ba}{zs:au}
section
theorem nK {k:Nat}:¬ aP none k:=λh=>by obtain⟨o,a⟩:=h;cases a
theorem EM {α:Type}{cells:α->au}(h:∀ x,(cells x).length=sz)(l:List α):(l.map cells).flatten.length=l.length*sz:=by
 rw[lT (sz:=sz),jc]
 grind
theorem qn {α:Type}{cells:α->au}{S e:bU}{inf:TypeInfo}{z:bl}(G:∀ x,(cells x).length=sz)(L:∀ x,∀ v ∈ cells x,single v=true)
  (M:prog.underlying S=some (.slice e)) (H:prog.info? e=some inf) (ax:inf.zero=some z) (A:z.cells.size=inf.size) (r:inf.size=sz) (E:0<sz) (q:inf.bytes<=1000)
  {l:List α} (B:aZ u e sz a n cap (l.map cells).flatten) {l2:List α} (J:bh u s (l2.map cells).flatten) (hm:m=l2.length) (I:n+m<=1000000)
  (w:∀ ap b i,aZ i e sz ap (n+m) b ((l++l2).map cells).flatten->ao (aP a) u i->(∀ k,aP ap k->aP a k\/u.heap.size<=k)->K ap (n+m) b i) :
  ∃ (ap:an) (f d:Nat),∃ i,(Builtin.append_ #[S,S] S #[(.slice a n cap),(.slice s m c)]).run prog u=.ok (.slice ap f d) i/\K ap f d i:=by
 subst r;have F:(n+m)*inf.bytes<=1000000*1000:=vO I q;have h:∀ x ∈ (l2.map cells).flatten,single x=true:=by
  grind
 obtain⟨ap,b,C,j,g,y,p⟩:=aZ.append (P:=prog) (t:=S) (ty:=S) M H ax A E B (s:=s) (m:=m) (c:=c) (news:=(l2.map cells).flatten) (by grind[EM]) J h (by omega) (by omega);have D:(l.map cells).flatten++(l2.map cells).flatten=((l++l2).map cells).flatten:=by simp
 rw[D]at g;refine⟨ap,n+m,b,C,j,w ap b C g y λk w=>?_⟩;rcases p with e | e
 ·grind
 ·obtain⟨o,B⟩:=w
  grind
def uz (x:Int):au:=[.int .u64 x]
theorem wG (l:ba):(l.map uz).flatten=us l:=by
 induction l with
 |nil=>rfl
 |cons x l a=>grind[uz,us]
theorem uc {l:ba}(q:aZ u 30 1 a n cap (us l)){l2:ba}(r:bh u s (us l2))(hm:m=l2.length)(j:n+m<=1000000)
  (p:∀ ap e f,aZ f 30 1 ap (n+m) e (us (l++l2))->ao (aP a) u f->(∀ k,aP ap k->aP a k\/u.heap.size<=k)->K ap (n+m) e f) :
  ∃ (ap:an) (d b:Nat),∃ f,(Builtin.append_ #[94,94] 94 #[(.slice a n cap),(.slice s m c)]).run prog u=.ok (.slice ap d b) f/\K ap d b f:=by
 obtain⟨inf,i,ax,g,h⟩:=ft (T:=30) (z:=.int .u64 0) (n:=1) (m:=8) (by kernel_rfl);refine qn (cells:=uz) (sz:=1) (λ_=>rfl) (λx v ar=>by simp[uz]at ar;subst ar;rfl) Tryz.underlying94 i ax (by rw[g];rfl) g (by decide) (by grind) (l:=l) (by grind[wG]) (l2:=l2) (by grind[wG]) hm j λap e f o=>?_
 grind[wG]
def ew (h c:Int):Int:=iA .u64 h (c+1)
def kP (h:Int):Int:=hk .u64 (cD .u64 h 8+1) 8
def fZ (s:Int):Int:=iA .u64 (hk .u64 s 2) 2
def q3 (n:Int):Int:=2*n+1
theorem z6 (x:Int):ch (IntKind.u64.wrap x):=by
 unfold ch;simp only[IntKind.wrap,IntKind.bits,IntKind.signed]
 grind
theorem Fj (h c:Int):ch (ew h c):=z6 _
theorem Qw (h:Int):ch (kP h):=z6 _
theorem AD (s:Int):ch (fZ s):=z6 _
theorem R5 (w:aj){c:Int}(hu:l3 h=true)(b:0<=c/\c<6):a9 240 [.int .u64 h,.int .i64 c] w λv w'=>v=.tuple #[.int .u64 (ew h c),.int .i64 0]/\w'=w:=by
 refine a' Tryz.func240 ?_;rw[K'];refine aE (Mo w c) ?_;rintro v w1 ⟨rfl,rfl⟩;refine⟨_,rfl,eu (λa=>b_ (of_decide_eq_false a) (by omega)) (λ_=>?_)⟩
 refine aE (xb w1 h) ?_;rintro v d ⟨rfl,rfl⟩;refine⟨_,rfl,eu (λa=>by grind) (λ_=>⟨?_,rfl⟩)⟩
 rw[bq (x:=c+1) (by omega) (by omega),jx (x:=c+1) (by omega) (by omega)];rfl
theorem AP (w:aj){s:Int}(h:1<=s/\s<1073741824):a9 214 [.int .i64 s] w λv w'=>v=.tuple #[.int .u64 (fZ s),.int .i64 0]/\w'=w:=by
 refine a' Tryz.func214 ?_;rw[Cc];refine aE (tz w s 1 1073741823) ?_;rintro v w1 ⟨rfl,rfl⟩;refine⟨_,rfl,eu (λa=>b_ (of_decide_eq_false a) (by omega)) (λ_=>⟨?_,rfl⟩)⟩
 rw[jx (x:=s) (by omega) (by omega)];rfl
theorem Qx (w:aj)(hu:ch h)(a:ly h=true):a9 206 [.int .u64 h] w λv w'=>v=.tuple #[.int .u64 (kP h),.int .i64 0]/\w'=w:=by
 refine a' Tryz.func206 ?_;rw[CD];refine aE (Fg w h) ?_;rintro v w1 ⟨rfl,rfl⟩;refine⟨_,_,rfl,?_⟩;refine aE (zY w1 _ 1 281474976710654) ?_;rintro v d ⟨rfl,rfl⟩;have b:=Qp hu;unfold ly at a;refine⟨_,rfl,eu (λc=>by grind) (λ_=>⟨?_,rfl⟩)⟩
 rw[kT (x:=cD .u64 h 8+1) (by omega) (by omega)];rfl
theorem Tl (w:aj){n:Int}(a:0<=n)(b:n<16):a9 103 [.int .i64 n,.bool true] w λv w'=>v=.tuple #[.int .u64 (q3 n),.int .i64 0]/\w'=w:=by
 refine a' Tryz.func103 ?_;rw[CN];refine aE (tz w n 0 15) ?_
 grind[kT,q3,Int.mul_comm]
def fl (c:Int):Int:=48+120*c
theorem zZ (w:aj){c:Int}(a:0<=c/\c<6)(b:0<=i/\i<1000):a9 238 [.int .i64 c,.int .i64 i] w λv w'=>v=.int .i64 (fl c+i)/\w'=w:=by
 refine a' Tryz.func238 ?_;rw[JJ];refine a5 (λh=>b_ h (by omega)) (λ_=>a5 (λh=>b_ h (by omega)) (λ_=>⟨?_,rfl⟩))
 unfold fl;rw[bq (x:=c*15) (by omega) (by omega),bq (x:=6+c*15) (by omega) (by omega),bq (x:=(6+c*15)*8) (by omega) (by omega),bq (x:=(6+c*15)*8+i) (by omega) (by omega)]
 grind
theorem Fk (w:aj){c:Int}(a:0<=c/\c<6):a9 209 [.int .i64 c] w λv w'=>v=.int .i64 (fl c+8)/\w'=w:=by
 refine a' Tryz.func209 ?_;rw[Kw];refine aE (zZ w a (i:=8) (by omega)) ?_
 grind
theorem AE (w:aj){c:Int}(a:0<=c/\c<6):a9 215 [.int .i64 c] w λv w'=>v=.int .i64 (fl c)/\w'=w:=by
 refine a' Tryz.func215 ?_;rw[Kx];refine aE (zZ w a (i:=0) (by omega)) ?_
 grind
section
attribute [local irreducible] iv i_ l5
theorem wH (w:aj)(g:0<=i/\i<6):a9 225 [.int .i64 i] w λv w'=>v=.int .i64 (32+i)/\ai w w':=by
 refine a' Tryz.func225 ?_;rw[Kh];refine aE (wh _ _ _) ?_;rintro v w1 ⟨cz,d,rfl,a,b,e⟩;have c:=wi;refine⟨_,rfl,?_⟩;have f:(#[]++#[.int .i64 i]++#[ptr cz,ptr d]:en)=#[.int .i64 i,ptr cz,ptr d]:=by simp
 refine rz c f ?_;refine aE (zh w1 a b (by omega) (by omega) i) ?_;rintro v h ⟨rfl,rfl⟩;refine⟨_,rfl,?_,e⟩;unfold ng
 grind
end
theorem z7 (w:aj)(p:aD){c:Int}(hu:l3 p.Head=true)(d:0<=c/\c<6):a9 211 [p.val,.int .i64 c] w λv w'=>v=.tuple #[.int .u64 (ew p.Head c),.int .i64 0]/\ai w w':=by
 refine a' Tryz.func211 ?_;rw[JZ];rintro b1 w1 b a;obtain⟨ax,e⟩:=bo b a;have ax:aq w1 b1 p.cells eo:=ax;clear a;refine⟨_,ax.cell (i:=1) rfl,?_⟩;refine aE (R5 w1 hu d) ?_
 grind
def hE (p:aD):ba:=[p.qo,p.tU,p.tV,p.tW,p.tX,p.tY,p.tZ]
def ie (p:aD):ba:=kP p.Head::hE p
theorem Du (w:aj)(p:aD)(z:ch p.Head)(B:ly p.Head=true):a9 244 [p.val] w λv w'=>∃ (a:an) (cap:Nat),v=.tuple #[.slice a 8 cap,.int .i64 0]/\ai w w'/\aZ w' 30 1 a 8 cap (us (ie p))/\∀ k,aP a k->w.heap.size<=k:=by
 refine a' Tryz.func244 ?_;rw[JM];rintro b1 w1 j g;obtain⟨ax,f⟩:=bo j g;have ax:aq w1 b1 p.cells eo:=ax;clear g;refine⟨_,ax.cell (i:=1) rfl,?_⟩;refine aE (Qx w1 z B) ?_;rintro v E ⟨rfl,rfl⟩;refine⟨_,_,rfl,dw (λe=>b_ rfl e) (λ_=>?_)⟩
 rintro az t l h;obtain⟨c,b⟩:=bo l h;have c:aq t az (us [kP p.Head]) 30:=c;clear h;have C:=f.size;have D:=b.size;have s:aZ t 30 1 (some ⟨az,0,none⟩) 1 1 (us [kP p.Head]):=⟨rfl,.inr ⟨az,_,rfl,c,by omega,by decide,rfl,rfl⟩⟩;refine uc s (l2:=hE p) (m:=7) (e6 (ai.ak b ax) rfl) rfl (by omega) λap d F u n x=>?_
 have q:w.heap.size<=az:=by omega
 have y:∀ k,aP (some ⟨az,0,none⟩) k->w.heap.size<=k:=λk r=>by obtain⟨o,s⟩:=r;grind
 refine⟨ap,d,rfl,(f.new b).trans n λk A e=>by grind,u,λk r=>?_⟩
 grind
def nP (seq:Int)(cp:List aD):ba:=seq::(cp.length:Int)::(cp.map λp=>p.bw::p.Head::hE p).flatten
def fe (seq:Int)(cp:List aD):ba:=nP seq cp++[sE (nP seq cp)]
theorem Mq (cp:List aD):(cp.map λp=>p.bw::p.Head::hE p).flatten.length=9*cp.length:=by
 induction cp with
 |nil=>rfl
 |cons p cp a=>rw[jT,kR,hi,a];simp[hE];omega
theorem z8 (seq:Int)(cp:List aD):(nP seq cp).length=2+9*cp.length:=by grind[nP,List.length_cons,Mq]
theorem pT (seq:Int)(cp:List aD):(fe seq cp).length=3+9*cp.length:=by grind[fe,List.length_append,z8]
def rm (seq:Int)(cp:List aD)(i:Nat):ba:=seq::(cp.length:Int)::((cp.take i).map λp=>p.bw::p.Head::hE p).flatten
theorem z9 {r:bX}{W:List aD}(h:fm w r.de r.dj W)(ar:fJ r.Seq W 256=0)(br:1<=r.Seq/\r.Seq<1073741824)(eT:W.length<=12)(a1:∀ p ∈ W,96<=p.bw/\p.bw<256) :
  a9 210 [r.val] w λv w'=>∃ (a:an) (cap:Nat),v=.slice a (3+9*W.length) cap/\ai w w'/\aZ w' 30 1 a (3+9*W.length) cap (us (fe r.Seq W))/\∀ k,aP a k->w.heap.size<=k:=by
 refine a' Tryz.func210 ?_;rw[Jf];rintro b1 w1 Q I;obtain⟨ax,A⟩:=bo Q I;have ax:aq w1 b1 r.cells 271:=ax;clear I;refine bX.aT r ⟨bJ ax rfl,?_⟩;refine aE (wj (h.new A) 256) ?_;rintro v bx ⟨rfl,B⟩;rw[ar];have hlen:=h.len;have y:=ai.ak B ax;refine⟨_,rfl,dw (λe=>b_ rfl e) (λ_=>⟨_,y.cell (i:=0) rfl,_,_,_,y.cell (i:=1) rfl,?_⟩)⟩;dsimp only;rw[jx (x:=r.Seq) (by omega) (by omega),jx (x:=(r.dj:Int)) (by omega) (by omega)];rintro az aI R J;obtain⟨K,C⟩:=bo R J;have K:aq aI az (us (rm r.Seq W 0)) 30:=by grind[rm,us]
 clear J;have G:=(A.new B).new C;have a8:=A.size;have bb:=B.size;have bh:=C.size;refine⟨_,_,_,(ai.ak C y).cell (i:=1) rfl,?_⟩;have ah:aZ aI 30 1 (some ⟨az,0,none⟩) 2 2 (us (rm r.Seq W 0)):=⟨rfl,.inr ⟨az,_,rfl,K,by omega,by decide,rfl,rfl⟩⟩;have U:∀ k,aP (some ⟨az,0,none⟩) k->w.heap.size<=k:=λk t=>by obtain⟨o,ah⟩:=t;grind
 refine cP mix (λm env u=>∃ (i:Nat) (a2:an) (pc:Nat) (aB:au),m=W.length-i/\i<=W.length/\env=yH a2 (2+9*i) pc r.de r.dj r.fG r.dj i aB/\ai w u/\aZ u 30 1 a2 (2+9*i) pc (us (rm r.Seq W i))/\∀ k,aP a2 k->w.heap.size<=k) W.length
  ⟨0,_,_,_,rfl,by omega,rfl,G,ah,U⟩ ?_
 rintro m env u ⟨i,a2,pc,aB,rfl,bm,rfl,g,j,a4⟩;rw[Y5,hlen];refine a5 (λz=>?_) (λaW=>?_)
 ·obtain⟨p,ao⟩:∃ p,W[i]?=some p:=⟨_,bW (by omega)⟩;have a7:=a1 p (cu ao);refine ei (cells:=aD.cells) aD.len (by omega) (h.rd.new g) ao rfl rfl λb o T _=>aD.aT p ⟨T,?_⟩
  refine dP (vs:=p.cells) rfl (aD.single _) λM b3 F q d=>⟨_,q.cell (i:=0) rfl,_,q.cell (i:=1) rfl,?_⟩
  rw[jx (x:=p.bw) (by omega) (by omega)];rintro aL bz S l;obtain⟨f,c⟩:=bo S l;have f:aq bz aL (us [p.bw,p.Head]) 30:=f;clear l;have Z:=d.size;have ab:=c.size;have ad:=g.size;refine uc (aZ.new (d.new c) j) (l2:=[p.bw,p.Head]) (m:=2) (e6 f rfl) rfl (by omega) λap s ae N n P=>?_
  have af:∀ k,aP ap k->w.heap.size<=k:=λk t=>by
   grind
  have ag:=q.lt;have Y:∀ k,aP a2 k->k≠M:=λk t e=>by have:=j.lt t;omega
  have L:aq ae M p.cells eo:=n.ak (ai.ak c q) λe=>Y _ e rfl
  have H:ai w ae:=((g.new d).new c).trans n λk z e=>by grind
  refine uc N (l2:=hE p) (m:=7) (e6 L rfl) rfl (by omega) λO D bs bk X E=>?_
  rw[bq (x:=(i:Int)+1) (by omega) (by omega)];have aR:2+9*i+2+7=2+9*(i+1):=by omega
  refine⟨W.length-(i+1),by omega,i+1,O,D,_,rfl,by omega,by rw[<-aR,<-hlen];rfl,H.trans X λk z e=>by grind,?_,λk t=>?_⟩
  ·grind[rm,hE,List.take_add_one]
  ·rcases E k t with e | e
   ·grind
   ·have:=H.size;omega
 ·have V:i=W.length:=by omega
  subst V;have aV:rm r.Seq W W.length=nP r.Seq W:=by grind[rm,nP,List.take_length]
  rw[aV]at j;rw[Zv];refine aE (L' j.rd (by rw[z8]) (by omega)) ?_;rintro v bp ⟨rfl,d⟩;refine⟨_,rfl,?_⟩;rintro M b3 F l;obtain⟨f,c⟩:=bo F l;have f:aq b3 M (us [sE (nP r.Seq W)]) 30:=f;clear l;have Z:=d.size;have ab:=c.size;have ad:=g.size;refine uc (aZ.new (d.new c) j) (l2:=[sE (nP r.Seq W)]) (m:=1) (e6 f rfl) rfl (by omega) λap s ae N n P=>?_
  have aM:2+9*W.length+1=3+9*W.length:=by omega
  rw[aM]at N ⊢;refine⟨ap,s,rfl,((g.new d).new c).trans n λk z e=>by grind,N,λk t=>?_⟩
  grind
end
section
theorem kj {i:Nat}{cs:au}{T:bU}{v x:bl}{K:aK}(a:aq u b cs T)(c:cs[i]?=some x)(d:∀ w',aq w' b (cs.set i v) T->ao (λk=>k=b) u w'->K w') :
  (∃ y,u.cell? ⟨b,i,none⟩=some y)/\u.frozen? ⟨b,i,none⟩=false/\∀ w',w'=u.setCell ⟨b,i,none⟩ v->K w':=
 ⟨⟨x,a.cell c⟩,a.frozen,λw' e=>by subst e;exact d _ (a.setCell v) (eY _ _ _ _)⟩
def addr (num:Int)(m:aU)(x:bE):bE:={x with node:=m.Node,eS:=m.cB,key:=q3 num}
theorem C1 (w:aj){r:c1}{m:aU}(aL:0<=r.Number)(aM:r.Number<16)(U:eb m.cB){v:aI}{x:bE}(ar:cQ M w v x) :
  a9 241 [r.val,m.val,.bool true,v.val] w λy w'=>∃ ag:aI,y=ag.val/\cQ (λk=>k<w.heap.size) w' ag (addr r.Number m x)/\ai w w':=by
 refine a' Tryz.func241 ?_;rw[Kf];rintro b1 w1 Q I;obtain⟨q,G⟩:=bo Q I;have q:aq w1 b1 r.cells nr:=q;clear I;rintro az bq R J;obtain⟨s,C⟩:=bo R J;have s:aq bq az m.cells eF:=s;clear J;rintro P br S K;obtain⟨t,p⟩:=bo S K;have t:aq br P v.cells cK:=t;clear K;rintro ae ah T L;obtain⟨u,l⟩:=bo T L;have u:aq ah ae (aI.cells ⟨0,0,0,0,0,0,none,0,0,0,0⟩) cK:=u;clear L;rintro bs N;have c:ai ah bs:=by rw[N];exact cC _
 clear N;have a4:=G.size;have a5:=C.size;have a7:=p.size;have a8:=l.size;have bb:=c.size;have aR:=q.lt;have aV:=s.lt;have aW:=t.lt;have a1:=u.lt;have F:=(((G.new C).new p).new l).new c;have ad:=ai.ak (((C.new p).new l).new c) q;have aB:=ai.ak ((p.new l).new c) s;have d:=ai.ak (l.new c) t;have O:=ai.ak c u;refine⟨λy=>aq y az m.cells eF,aB,_,λy Y=>Y.cell (i:=0) rfl,_,λy Y=>Y.cell (i:=1) rfl,kj d (i:=1) rfl λbK d D=>⟨D.ak aB (by omega),kj d (i:=8) rfl λbx d V=>?_⟩⟩;have b:=D.trans V λ_ _ e=>e
 have ad:=b.ak ad (by omega);refine⟨_,ad.cell (i:=0) rfl,?_⟩;refine aE (Tl bx aL aM) ?_;rintro z bL ⟨rfl,rfl⟩;refine⟨_,_,rfl,kj d (i:=7) rfl λao d B=>⟨_,_,_,d.cell (i:=6) rfl,?_⟩⟩;have g:ai w ao:=F.trans (b.trans B λ_ _ e=>e) λk E e=>by omega
 have X:v.dd=x.words.length:=by rw[ar.eq];rfl
 refine aE (Cf (xs:=us x.words) (by grind[ht]) (ar.rd.new g) (oJ _) (by have:=ar.kM;omega) (λe=>by rw[X,ar.nil e];rfl)) ?_;rintro z bm ⟨bS,cap,rfl,j,o,aP,H⟩;have bk:=g.size;have af:=(b.trans B λ_ _ e=>e).size;refine⟨_,_,_,rfl,kj (ai.ak j d) (i:=6) rfl λZ d f=>?_⟩;have O:=f.ak (ai.ak j ((b.trans B λ_ _ e=>e).ak O (by omega))) (show¬ ae=P by omega);have d:aq Z P (aI.cells {v with Node:=m.Node,cB:=m.cB,Key:=q3 r.Number,Words:=bS,c0:=cap}) cK:=d;refine aI.aT _ ⟨bJ d rfl,dI O rfl (aI.single _) λab O A=>?_⟩;refine aI.aT _ ⟨bJ O rfl,rfl,_,rfl,?_,((g.new j).trans f λk E e=>by omega).trans A λk E e=>by omega⟩;have n:us x.words=[]\/gn (λk=>k<ao.heap.size) bS:=gF o.rd λk bD e=>by grind
 have W:bh ab bS (us x.words):=(o.rd.aC f (n.imp id λh=>by
  cases bS with
  |none=>trivial
  |some a=>exactλe=>h (by grind))).aC A (n.imp id λh=>by
  cases bS with
  |none=>trivial
  |some a=>exactλe=>h (by grind))
 refine⟨?_,W,λe=>ar.nil (H.1 e),?_,ar.wf,ar.new,ar.old,?_,U,aZ.le o,ar.kM⟩
 ·show({v with Node:=m.Node,cB:=m.cB,Key:=q3 r.Number,Words:=bS,c0:=cap}:aI)=_;have e:=ar.eq;generalize v.Words=bG at e;generalize v.c0=bH at e;subst e;rfl
 ·rcases n with h | h
  ·left;have:=eh List.length h;rw[ht]at this;exact hh this
  ·right;cases bS with
   |none=>trivial
   |some a=>exactλe=>h (by grind)
 ·show ch (q3 r.Number)
  grind[q3,ch]
theorem Dv (l:List aU):∀ r ∈ gG l,r.length=3:=by intro r a;obtain⟨x,_,rfl⟩:=dD.1 a;rfl
theorem KT (l:List aU):∀ u ∈ (gG l).flatten,single u=true:=by
 intro u hu;obtain⟨r,a,b⟩:=rJ.1 hu;obtain⟨y,_,rfl⟩:=dD.1 a
 grind[aU.single]
theorem N' {vs:List aU}(d:vs.length=n)(p:bh w a (gG vs).flatten)(q:n<=1000000)(j:a=none->n=0) :
  a9 243 [.slice a n c] w λv w'=>∃ bS cap,v=.slice bS n cap/\ug w w' eF 3 a bS n cap (gG vs).flatten:=by
 refine a' Tryz.func243 ?_;rw[TP];obtain⟨i,h,ax,b,g⟩:=ft (T:=eF) (z:=.agg #[.int .i64 0,.int .i64 0,.bool false]) (n:=3) (m:=24) (by kernel_rfl);cases a with
 |none=>
  refine fq rfl ⟨none,0,by grind,ao.refl _ _,?_,?_,by simp⟩
  ·rw[j rfl]at d ⊢;rw[hh d];exact aZ.nil _ _ _
  ·rintro k ⟨o,l⟩;cases l
 |some a=>
  refine dm rfl ?_;rintro b1 w1 rfl rfl;obtain⟨bS,e,w',f,r⟩:=y9 (t:=33) (ty:=33) (n:=n) (c:=c) (w:=w) (a:=a) (xs:=(gG vs).flatten) Tryz.underlying33 h ax (by rw[b];rfl) (by omega) (by rw[lT (Dv vs),b,gG,jc,d]) p (KT vs) (by omega) (by grind)
  grind
theorem Di {r:c1}{v:jj}(h:gi M w r v){m:aU}(hm:v.mem[0]?=some m):a9 125 [r.val] w λx w'=>x=.tuple #[m.val,.bool true]/\ai w w':=by
 refine a' Tryz.func125 ?_;rw[Kc];rintro b1 w1 p l;obtain⟨d,g⟩:=bo p l;have d:aq w1 b1 r.cells nr:=d;clear l;rintro az B q n;obtain⟨f,j⟩:=bo q n;have f:aq B az (aU.cells jL) eF:=f;clear n;have c:=ai.ak j d;have a:=g.new j;have A:=g.size;have C:=dk hm;have y:=h.len;refine⟨_,_,_,c.cell (i:=1) rfl,dJ (λe=>b_ e (by omega)) (λ_=>⟨_,_,_,c.cell (i:=1) rfl,?_⟩)⟩;refine ei (cells:=aU.cells) aU.len (by omega) (i:=0) (h.rd.new a) hm rfl y λb o s _=>aU.aT m ⟨s,dI f rfl (aU.single _) λD u t=>?_⟩
 exact aU.aT m ⟨bJ u rfl,rfl,rfl,a.trans t λk z e=>by omega⟩
theorem Dj {r:c1}{v:jj}(h:gi M w r v)(A:0<v.mem.length):a9 216 [r.val] w λy w'=>∃ (a:an) (cap:Nat),y=.slice a (v.mem.length-1) cap/\ai w w'/\bh w' a (gG v.mem.tail).flatten:=by
 refine a' Tryz.func216 ?_;rw[Ke];rintro b1 w1 l j;obtain⟨c,f⟩:=bo l j;have c:aq w1 b1 r.cells nr:=c;clear j;have hlen:=h.len;have s:=h.cap;have B:=h.small;refine⟨_,_,_,c.cell (i:=1) rfl,dJ (λe=>b_ e (by omega)) (λ_=>⟨_,_,_,c.cell (i:=1) rfl,?_⟩)⟩;have p:=h.rd.new f;have z:(gG v.mem).flatten.length=v.mem.length*3:=by rw[lT (Dv _),gG,jc]
 obtain⟨b,o,k⟩:∃ b o,r.fr=some ⟨b,o,none⟩:=by
  rcases p with he | ⟨b,o,e,_⟩
  ·grind
  grind
 rw[k]at p ⊢;rw[hlen];have q:(gG v.mem.tail).flatten=((gG v.mem).flatten).drop 3:=by
  cases C:v.mem with
  |nil=>rfl
  |cons x xs=>rfl
 refine jq (by omega) (by omega) (by omega) (by omega) (by omega) λa u=>?_
 have d:bh w1 a (gG v.mem.tail).flatten/\a≠none:=by
  rcases u with rfl | ⟨e,rfl⟩
  ·refine⟨?_,by simp⟩;rw[q];exact p.drop 3
  ·refine⟨?_,by simp⟩;have:v.mem.tail=[]:=hh (by grind);rw[this];exact .inl rfl
 have t:Int.toNat (v.mem.length:Int)-Int.toNat 1=v.mem.length-1:=by omega
 rw[t];refine aE (N' (vs:=v.mem.tail) (by grind) d.1 (by omega) (λe=>b_ e d.2)) ?_;rintro y D ⟨bS,cap,rfl,n,g,_⟩;exact⟨_,_,_,rfl,bS,cap,rfl,f.new n,g.rd⟩
structure bO (w0 u:aj)(a:an)(n cap:Nat)(vs:bu):Prop where
 ex:∃ IA:List aI,aZ u cK 9 a n cap (dQ IA).flatten/\er (λk=>k<w0.heap.size\/aP a k) u IA vs
 len:n=vs.length
 gB:∀ k,aP a k->w0.heap.size<=k
theorem bO.nil (w0 u:aj):bO w0 u none 0 0 []:=⟨⟨[],aZ.nil _ _ _,rfl,λi v x h=>by grind⟩,rfl,λk a=>b_ a nK⟩
theorem bO.new {w0 u bF:aj}{a:an}{n cap:Nat}{vs:bu}(h:bO w0 u a n cap vs)(c:ai u bF):bO w0 bF a n cap vs:=by obtain⟨⟨b,g,ar⟩,f,d⟩:=h;exact⟨⟨b,aZ.new c g,ar.aC (ao.b7 c) λ_ _ e=>e⟩,f,d⟩
theorem bO.aC {w0 u bF:aj}{a:an}{n cap:Nat}{vs:bu}(h:bO w0 u a n cap vs){M:a6}(c:ao M u bF)(d:∀ k,M k->k<w0.heap.size):bO w0 bF a n cap vs:=by
 obtain⟨⟨b,i,ar⟩,g,f⟩:=h;refine⟨⟨b,i.aC c λk c e=>?_,ar.aC (c.mono λk _ e=>.inl (d k e)) λ_ _ e=>e⟩,g,f⟩
 grind
theorem bO.mono {vs:bu}(h:bO w1 u a n cap vs)(i:w0.heap.size<=w1.heap.size):bO w0 u a n cap vs:=by obtain⟨⟨b,d,ar⟩,c,f⟩:=h;exact⟨⟨b,d,ar.aC (ao.refl _ _) λk _ e=>e.imp (λe=>by omega) id⟩,c,λk g=>by grind⟩
theorem er.app {r1 a:List aI}{v1 v2:bu}(b:er M w r1 v1)(c:er M w a v2):er M w (r1++a) (v1++v2):=by
 obtain⟨g,d⟩:=b;obtain⟨l2,e⟩:=c;refine⟨by grind,λi v x ar f=>?_⟩
 grind
theorem er.one {v:aI}{x:bE}(h:cQ M w v x):er M w [v] [x]:=⟨rfl,λi c fh a b=>by
 grind⟩
theorem bO.oN {vs:bu}(h:bO w0 u a n cap vs)(j:ai w0 u)(hu:ai u bp){v:aI}{x:bE}(ar:cQ (λk=>k<u.heap.size) bp v x)(H:n<=100000){K:Nat->an->Nat->Nat->aK}
  (w:∀ b ap f i,b=bp.heap.size->bO w0 i ap (n+1) f (vs++[x])->ao (aP a) bp i->ai w0 i->K b ap (n+1) f i) :
  ∀ b1 z,b1=bp.heap.size->z=bp.alloc (.cells v.cells.toArray cK)->∃ (ap:an) (d c:Nat),∃ i,(Builtin.append_ #[gy,gy] gy #[(.slice a n cap),(.slice (some ⟨b1,0,none⟩) 1 1)]).run prog z=.ok (.slice ap d c) i/\K b1 ap d c i:=by
 obtain⟨⟨q,y,t⟩,I,D⟩:=h;have A:=j.new hu;have E:=j.size;have F:=hu.size;refine Qv (aZ.new hu y) (v:=v) (by omega) λb ap f i C G g B=>?_
 have l:∀ k,aP ap k->w0.heap.size<=k:=λk w=>by
  grind
 refine w b ap f i C ⟨⟨q++[v],by grind[CE,dQ],?_⟩,by grind,l⟩ g (A.trans g λk o e=>by grind);have p:∀ k,k<bp.heap.size->(k<w0.heap.size\/aP ap k)->(k<w0.heap.size\/aP a k):=λk o e=>e.imp id λe=>by
  grind
 have r:=t.aC (M':=λk=>k<w0.heap.size\/aP a k) (ao.b7 hu) λ_ _ e=>e
 refine er.app (r.aC (g.mono λk _ e=>.inr e) p) (er.one ?_);have s:cQ (λk=>k<w0.heap.size\/aP a k) bp v x:=ar.aC (ao.refl _ _) λk o e=>by
  rcases e with e | e
  ·omega
  ·exact y.lt e
 exact s.aC (g.mono λk _ e=>.inr e) p
theorem bO.lX {vs:bu}(h:bO w0 u a n cap vs)(i:ai w0 u)(hu:ai u bp){v:aI}{x:bE}(ar:cQ (λk=>k<u.heap.size) bp v x)(r:n<=100000){b1:Nat}{j:aj}(q:b1=bp.heap.size)(hw:j=bp.alloc (.cells v.cells.toArray cK))
  (s:∀ ap f g,bO w0 g ap (n+1) f (vs++[x])->ao (aP a) bp g->ai w0 g->K ap (n+1) f g) :
  ∃ (ap:an) (e d:Nat),∃ g,(Builtin.append_ #[gy,gy] gy #[(.slice a n cap),(.slice (some ⟨b1,0,none⟩) 1 1)]).run prog j=.ok (.slice ap e d) g/\K ap e d g:=
 bO.oN h i hu ar r (K:=λ_ ap n c w=>K ap n c w) (λb ap f g _ l o p=>s ap f g l o p) b1 j q hw
end
section
open IntKind
variable (w:aj)(R:bg){a b c d:Nat}{A B:aw}{s t:an}{i k:Int}{j:al}
theorem Yq:bc prog f172 [bb a] R w=(aR w #[ab 0,ab 0] 171 λo u=>ck u λt l=>cA l (ah a 0) λj=>pW l (ah a 0) λs=>cx 209 #[ab j] t λb r=>l r/\Im 168 #[s.val] r λh n=>l n/\eV 210 #[h.val] n λc d f q=>l q/\Calls prog 208 #[bb a,ab b,af c d f,ab 1] q λe p=>bG.ex λi=>∃ g,e=.returned (.tuple #[i.val,ad g])/\l p/\a8 p (ah o 0) 0 i.cells λm=>dW m (ah o 0) λk=>m=m/\R (.tuple #[k.val,ad g]) m):=by kernel_rfl
theorem Yr:bc prog f174 [bb a] R w=(aR w #[ab 0,ab 0] 171 λl n=>bN n (ah a 1) λj=>g6 214 #[ab j] n λb c m=>bN m (ah a 0) λd=>cx 215 #[ab d] m λf r=>aR r #[ag b] 30 λp o=>Calls prog 208 #[bb a,ab f,af (bs p) 1 1,ab 2] o λe q=>bG.ex λh=>∃ g,e=.returned (.tuple #[h.val,ad g])/\a8 q (ah l 0) 0 h.cells λk=>dW k (ah l 0) λi=>k=k/\R (.tuple #[i.val,ad g]) k):=by kernel_rfl
def uU (e s2:aw)(i:an)(a b:Nat)(c:an)(d f:Nat)(g h:Int)(j:al):al:=.pointer (some e)::ae j 0 1 (.pointer (some s2)::ae j 1 1 (af i a b::ae j 2 10 (af c d f::ab g::ab h::ae j 12 31 [])))
def Ha (a b:aw)(e:an)(c d:Nat)(j:al):al:=.pointer (some a)::ae j 0 1 (.pointer (some b)::ae j 1 1 (af e c d::ae j 2 44 []))
theorem WV:bc prog f175 [bb a] R w=(aR w #[ab 0,ab 0] 171 λh f=>l0 f (ah a 3) λd=>eV 216 #[d.val] f λe b c g=>cj prog (cN f175 [1,1,0,1,0,0]) (uU (ah a 0) (ah h 0) none 0 0 e b c (b:Nat) 0 (undef::ad false::a1 5 (jp (ah a 0)::jp (ah a 0)::jp (ah a 0)::jp (ah a 3)::d.val::a1 31 []))) (aL 0 (aS f175 [1,1,1] R)) g):=by kernel_rfl
theorem T5 (C:al->aK):W prog (sb f175 [1,1,0,1,0,0]) (uU A B s a b t c d i k j) (aM C (aL 0 (aS f175 [1,1,1] R))) w=(cond (k<i) (bk t c k 3 λD=>iq w D λr=>aR w #[ab 0,ab 0,ad false] 116 λy M=>a8 M (ah y 0) 0 r.cells λz=>bY z (br A 6) λg h l=>cond ((h:Int)>0) (iq z (ah y 0) λG=>eV 217 #[.pointer (some A),G.val] z λm n o L=>da 125 (af s a b) (af m n o) L λu p q E=>iq E (ah y 0) λH=>eH 218 #[.pointer (some A),H.val] E λx K=>aR K x.cells.toArray 158 λF bf=>da 125 (af u p q) (af (bs F) 1 1) bf λe f v I=>C (uU A B e f v t c d i (i64.wrap (k+1)) (aB j 0::aB j 1::aB j 2::jp (ah y 0)::ae j 4 8 (ad (k<i)::jp D::r.val::jp A::jp A::jp A::a7 A 6::af g h l::cd h::ad ((h:Int)>0)::af s a b::jp A::G.val::af m n o::af u p q::af u p q::jp A::H.val::x.val::af (bs F) 1 1::af e f v::ab (i64.wrap (k+1))::ae j 34 9 []))) I) (C (uU A B s a b t c d i (i64.wrap (k+1)) (aB j 0::aB j 1::aB j 2::jp (ah y 0)::ae j 4 8 (ad (k<i)::jp D::r.val::jp A::jp A::jp A::a7 A 6::af g h l::cd h::ad ((h:Int)>0)::ae j 22 11 (ab (i64.wrap (k+1))::ae j 34 9 [])))) z)) (W prog (sb f175 [1,1,1]) (Ha A B s a b (ae j 0 12 (af t c d::ab i::ab k::ad (k<i)::ae j 13 30 []))) (bV f175 R) w)):=by kernel_rfl
theorem UQ:W prog (sb f175 [1,1,1]) (Ha A B s a b j) (bV f175 R) w=(Calls prog 213 #[.pointer (some A),af s a b,ab 3] w λe n=>∃ f g h,bG.ex λk=>∃ i,e=.returned (.tuple #[af f g h,k.val,ad i])/\aR n #[ab 0,ab 0] 171 λd o=>a8 o (ah d 0) 0 k.cells λm=>dW m (ah d 0) λr=>a8 m B 0 r.cells λc=>dW c B λl=>c=c/\R (.tuple #[l.val,ad i]) c):=by kernel_rfl
theorem XI:bc prog f176 [bb a] R w=(aR w #[ab 0,ab 0] 171 λC I=>bY I (ah a 6) λj b c=>cond ((b:Int) == 0) (a8 I (ah C 0) 0 [ab 0,ab 0] λfK=>dW fK (ah C 0) λbN=>fK=fK/\R (.tuple #[bN.val,ad true]) fK) (ck I λfo u=>hf u (ah a 8) λeP=>hf u (ah a 8) λG=>(eH 218 #[bb a,eP.val] fo λH N=>u N/\(aR N H.cells.toArray 158 λfP fZ=>u fZ/\(eV 217 #[bb a,G.val] fZ λd f g J=>u J/\(da 125 (af (bs fP) 1 1) (af d f g) J λdP h i iN=>u iN/\(Calls prog 213 #[bb a,af dP h i,ab 3] iN λe d_=>∃ (k:an) (l m:Nat),bG.ex λdn=>∃ (n:Bool),e=.returned (.tuple #[af k l m,dn.val,ad n])/\u d_/\aR d_ #[ab 0,ab 0] 171 λeJ dT=>u dT/\a8 dT (ah eJ 0) 0 dn.cells λeW=>dW eW (ah eJ 0) λr=>a8 eW (ah C 0) 0 r.cells λV=>dW V (ah C 0) λcf=>V=V/\R (.tuple #[cf.val,ad n]) V)/\aR iN #[ab 0,ab 0] 171 λea ep=>u ep/\Calls prog 213 #[bb a,af dP h i,ab 3] ep λe ei=>∃ (o:an) (p q:Nat),bG.ex λfv=>∃ (s:Bool),e=.returned (.tuple #[af o p q,fv.val,ad s])/\u ei/\a8 ei (ah ea 0) 0 fv.cells λfI=>dW fI (ah ea 0) λbq=>a8 fI (ah C 0) 0 bq.cells λM=>dW M (ah C 0) λcx=>M=M/\R (.tuple #[cx.val,ad s]) M)/\aR J #[ab 0,ab 0] 171 λdG eF=>u eF/\da 125 (af (bs fP) 1 1) (af d f g) eF λt v x d9=>u d9/\Calls prog 213 #[bb a,af t v x,ab 3] d9 λe dS=>∃ (y:an) (z dv:Nat),bG.ex λeR=>∃ (ef:Bool),e=.returned (.tuple #[af y z dv,eR.val,ad ef])/\u dS/\a8 dS (ah dG 0) 0 eR.cells λE=>dW E (ah dG 0) λbL=>a8 E (ah C 0) 0 bL.cells λX=>dW X (ah C 0) λcG=>X=X/\R (.tuple #[cG.val,ad ef]) X)/\aR fZ #[ab 0,ab 0] 171 λez e5=>u e5/\eV 217 #[bb a,G.val] e5 λcN bQ b_ fz=>u fz/\da 125 (af (bs fP) 1 1) (af cN bQ b_) fz λc1 dq c_ eE=>u eE/\Calls prog 213 #[bb a,af c1 dq c_,ab 3] eE λe dU=>∃ (dy:an) (dr cA:Nat),bG.ex λeL=>∃ (A:Bool),e=.returned (.tuple #[af dy dr cA,eL.val,ad A])/\u dU/\a8 dU (ah ez 0) 0 eL.cells λeB=>dW eB (ah ez 0) λb7=>a8 eB (ah C 0) 0 b7.cells λL=>dW L (ah C 0) λdw=>L=L/\R (.tuple #[dw.val,ad A]) L)/\(eV 217 #[bb a,G.val] N λf8 fU fY fV=>u fV/\(aR fV H.cells.toArray 158 λeg fT=>u fT/\(da 125 (af (bs eg) 1 1) (af f8 fU fY) fT λfy fg ek D=>u D/\(Calls prog 213 #[bb a,af fy fg ek,ab 3] D λe dR=>∃ (c5:an) (bx bX:Nat),bG.ex λdZ=>∃ (F:Bool),e=.returned (.tuple #[af c5 bx bX,dZ.val,ad F])/\u dR/\aR dR #[ab 0,ab 0] 171 λe6 dM=>u dM/\a8 dM (ah e6 0) 0 dZ.cells λeo=>dW eo (ah e6 0) λaE=>a8 eo (ah C 0) 0 aE.cells λS=>dW S (ah C 0) λdp=>S=S/\R (.tuple #[dp.val,ad F]) S)/\aR D #[ab 0,ab 0] 171 λe' eN=>u eN/\Calls prog 213 #[bb a,af fy fg ek,ab 3] eN λe ec=>∃ (a4:an) (bR cC:Nat),bG.ex λa'=>∃ (fD:Bool),e=.returned (.tuple #[af a4 bR cC,a'.val,ad fD])/\u ec/\a8 ec (ah e' 0) 0 a'.cells λfJ=>dW fJ (ah e' 0) λcl=>a8 fJ (ah C 0) 0 cl.cells λZ=>dW Z (ah C 0) λbW=>Z=Z/\R (.tuple #[bW.val,ad fD]) Z)/\aR fT #[ab 0,ab 0] 171 λeY cm=>u cm/\da 125 (af (bs eg) 1 1) (af f8 fU fY) cm λbm dt a9 dN=>u dN/\Calls prog 213 #[bb a,af bm dt a9,ab 3] dN λe dH=>∃ (bJ:an) (cM cQ:Nat),bG.ex λee=>∃ (dJ:Bool),e=.returned (.tuple #[af bJ cM cQ,ee.val,ad dJ])/\u dH/\a8 dH (ah eY 0) 0 ee.cells λdI=>dW dI (ah eY 0) λcP=>a8 dI (ah C 0) 0 cP.cells λT=>dW T (ah C 0) λaM=>T=T/\R (.tuple #[aM.val,ad dJ]) T)/\aR fV #[ab 0,ab 0] 171 λe0 ff=>u ff/\aR ff H.cells.toArray 158 λcK ev=>u ev/\da 125 (af (bs cK) 1 1) (af f8 fU fY) ev λa1 bk dh er=>u er/\Calls prog 213 #[bb a,af a1 bk dh,ab 3] er λe fE=>∃ (dz:an) (aI cO:Nat),bG.ex λeu=>∃ (eh:Bool),e=.returned (.tuple #[af dz aI cO,eu.val,ad eh])/\u fE/\a8 fE (ah e0 0) 0 eu.cells λcY=>dW cY (ah e0 0) λdf=>a8 cY (ah C 0) 0 df.cells λO=>dW O (ah C 0) λfQ=>O=O/\R (.tuple #[fQ.val,ad eh]) O)/\aR N #[ab 0,ab 0] 171 λQ fL=>u fL/\(aR fL H.cells.toArray 158 λcX fq=>u fq/\eV 217 #[bb a,G.val] fq λa7 c6 aT fu=>u fu/\da 125 (af (bs cX) 1 1) (af a7 c6 aT) fu λag b5 U dF=>u dF/\Calls prog 213 #[bb a,af ag b5 U,ab 3] dF λe eb=>∃ (aV:an) (bh aL:Nat),bG.ex λdQ=>∃ (fl:Bool),e=.returned (.tuple #[af aV bh aL,dQ.val,ad fl])/\u eb/\a8 eb (ah Q 0) 0 dQ.cells λeQ=>dW eQ (ah Q 0) λaW=>a8 eQ (ah C 0) 0 aW.cells λK=>dW K (ah C 0) λbD=>K=K/\R (.tuple #[bD.val,ad fl]) K)/\eV 217 #[bb a,G.val] fL λcu bH bo fm=>u fm/\aR fm H.cells.toArray 158 λbV b6=>u b6/\da 125 (af (bs bV) 1 1) (af cu bH bo) b6 λf' cD aq eZ=>u eZ/\Calls prog 213 #[bb a,af f' cD aq,ab 3] eZ λe ga=>∃ (cH:an) (cb b9:Nat),bG.ex λft=>∃ (fc:Bool),e=.returned (.tuple #[af cH cb b9,ft.val,ad fc])/\u ga/\a8 ga (ah Q 0) 0 ft.cells λdV=>dW dV (ah Q 0) λcS=>a8 dV (ah C 0) 0 cS.cells λW=>dW W (ah C 0) λcq=>W=W/\R (.tuple #[cq.val,ad fc]) W)/\aR fo #[ab 0,ab 0] 171 λbf dE=>u dE/\eH 218 #[bb a,eP.val] dE λd' fX=>u fX/\(aR fX d'.cells.toArray 158 λbr dD=>u dD/\eV 217 #[bb a,G.val] dD λb4 cj cL e3=>u e3/\da 125 (af (bs br) 1 1) (af b4 cj cL) e3 λB aB ae ew=>u ew/\Calls prog 213 #[bb a,af B aB ae,ab 3] ew λe eK=>∃ (cv:an) (aZ cd:Nat),bG.ex λdK=>∃ (fe:Bool),e=.returned (.tuple #[af cv aZ cd,dK.val,ad fe])/\u eK/\a8 eK (ah bf 0) 0 dK.cells λfH=>dW fH (ah bf 0) λch=>a8 fH (ah C 0) 0 ch.cells λY=>dW Y (ah C 0) λao=>Y=Y/\R (.tuple #[ao.val,ad fe]) Y)/\eV 217 #[bb a,G.val] fX λaP dA bO fp=>u fp/\aR fp d'.cells.toArray 158 λa5 dX=>u dX/\da 125 (af (bs a5) 1 1) (af aP dA bO) dX λfW ca c9 fx=>u fx/\Calls prog 213 #[bb a,af fW ca c9,ab 3] fx λe bK=>∃ (cr:an) (dk cZ:Nat),bG.ex λe8=>∃ (d8:Bool),e=.returned (.tuple #[af cr dk cZ,e8.val,ad d8])/\u bK/\a8 bK (ah bf 0) 0 e8.cells λfa=>dW fa (ah bf 0) λcy=>a8 fa (ah C 0) 0 cy.cells λP=>dW P (ah C 0) λdm=>P=P/\R (.tuple #[dm.val,ad d8]) P)):=by kernel_rfl
theorem YP:bc prog f208 [bb a,ab i,af s b c,ab k] R w=(aR w #[ab 0,ab 0] 171 λt y=>bY y (ah a 6) λx d f=>cond ((d:Int) == 0) (a8 y (ah t 0) 0 [ab 0,ab 0] λu=>dW u (ah t 0) λo=>u=u/\R (.tuple #[o.val,ad true]) u) (eV 237 #[bb a,.agg #[ab 2,ab 0,ab i,ab 0,ag 0,ag 0,af s b c,ag 0,ab 0]] y λg h j E=>Calls prog 213 #[bb a,af g h j,ab k] E λe C=>∃ B l m,bG.ex λp=>∃ n,e=.returned (.tuple #[af B l m,p.val,ad n])/\aR C #[ab 0,ab 0] 171 λz D=>a8 D (ah z 0) 0 p.cells λA=>dW A (ah z 0) λr=>a8 A (ah t 0) 0 r.cells λv=>dW v (ah t 0) λq=>v=v/\R (.tuple #[q.val,ad n]) v)):=by kernel_rfl
end
section
structure Gs (j:cJ):Prop where
 a3:0<=j.a3/\j.a3<6
 num:0<=j.v.number/\j.v.number<16
 mem:0<j.v.mem.length/\j.v.mem.length<=5
 eS:∀ m ∈ j.v.mem,1<=m.cB/\m.cB<=31
 tq:j.writes.length<=12
 yU:j.reads.length<=24
 wr:j.writes≠[]->fJ j.seq j.writes 256=0/\1<=j.seq/\j.seq<1073741824
 wl:∀ p ∈ j.writes,96<=p.bw/\p.bw<256
 I7:∀ p ∈ j.writes,l3 p.Head=true/\ly p.Head=true
 oR:∀ s ∈ j.reads,96<=s.bw/\s.bw<256
theorem jn {W:List aD}(h:fJ seq W lines=0):(98<=lines/\lines<=256)/\(1<=seq/\seq<1073741824/\1<=W.length/\W.length<=12)/\(∀ p ∈ W,96<=p.bw/\p.bw<lines)/\(∀ p ∈ W,l3 p.Head=true/\ly p.Head=true)/\(W.all λp=>hv p.bw lines)=true/\(List.range W.length).all (λi=>ko W i && lz (W.getD i il))=true:=by
 unfold fJ at h;split at h
 ·omega
 rename_i f;split at h
 ·omega
 rename_i g;split at h
 ·omega
 rename_i a;split at h
 ·omega
 rename_i b;have a:(W.all λp=>hv p.bw lines)=true:=vT _▸a;have b:(List.range W.length).all (λi=>ko W i && lz (W.getD i il))=true:=vT _▸b;refine⟨by omega,by omega,λp d=>?_,λp d=>?_,a,b⟩
 ·have:=iz.1 a p d;unfold hv at this
  grind
 ·obtain⟨i,e⟩:=List.getElem?_of_mem d;have c:=dk e;have:=iz.1 b i (jd.2 c);rw[oW e]at this;unfold lz at this
  grind
theorem zG {W:List aD}(h:fJ seq W lines=0):fJ seq W 256=0:=by
 obtain⟨b,c,d,_,e,f⟩:=jn h;have a:(W.all λp=>hv p.bw 256)=true:=iz.2 λp g=>by
  grind[hv,decide_eq_true]
 unfold fJ
 grind
theorem F' {l:List aU}(h:(List.range l.length).all (kb n l)=true):l.length<=n:=by
 have key:∀ i,i<l.length->(i:Int)<=(l.getD i jL).Node/\(l.getD i jL).Node<n:=by
  intro i;induction i with
  |zero=>
   intro a;have:=iz.1 h 0 (jd.2 a)
   grind[kb]
  |succ i b=>
   intro a;have c:=b (by omega);have:=iz.1 h (i+1) (jd.2 a)
   grind[kb]
 grind
theorem Qy {j:cJ}(h:j.valid=0):Gs j:=by
 unfold cJ.valid at h;split at h
 ·omega
 rename_i i;split at h
 ·omega
 rename_i b;have b:j.v.valid 5=0:=by omega
 split at h
 ·omega
 rename_i k;split at h
 ·omega
 rename_i u;split at h
 ·omega
 rename_i w;split at h
 ·omega
 rename_i f;split at h
 ·omega
 rename_i x;have f:(j.reads.all λs=>hv s.bw j.lines)=true:=vT _▸f;have hw:j.writes≠[]->fJ j.seq j.writes j.lines=0:=λa=>by
  grind
 unfold jj.valid at b;split at b
 ·omega
 rename_i o;split at b
 ·omega
 rename_i q;split at b
 ·omega
 rename_i r;split at b
 ·omega
 rename_i d;split at b
 ·omega
 rename_i g;have g:j.v.mem.all mU=true:=by grind
 have d:(List.range j.v.mem.length).all (kb (5:Nat) j.v.mem)=true:=vT _▸d;have t:=F' d;have emp:∀ {P:aD->Prop},(j.writes≠[]->∀ p ∈ j.writes,P p)->∀ p ∈ j.writes,P p:=λl p c=>l (List.ne_nil_of_mem c) p c
 refine⟨by omega,by omega,by omega,λm hm=>?_,?_,by omega,λa=>?_,emp λa p c=>?_,emp λa p c=>(jn (hw a)).2.2.2.1 p c,λs n=>?_⟩
 ·have:=iz.1 g m hm;unfold mU at this
  grind
 ·by_cases e:j.writes=[]
  ·grind
  ·exact(jn (hw e)).2.1.2.2.2
 ·obtain⟨_,b,_⟩:=jn (hw a)
  grind[zG]
 ·obtain⟨i,_,k,_⟩:=jn (hw a)
  grind
 ·have:=iz.1 f s n;unfold hv at this
  grind
abbrev mn:bU:=212
abbrev eQ:bU:=171
abbrev ow:bU:=30
def lS (r:cE)(tb:Nat)(m:aU):au:=r.cells++(ptr tb::m.cells)
structure ff (w0 u:aj)(a0 tb:Nat)(r:cE)(m:aU)(j:cJ):Prop where
 ak:aq u a0 (lS r tb m) mn
 job:o4 w0 r j
 ct:Gs j
 mem:j.v.mem[0]?=some m
 new:ai w0 u
 G3:w0.heap.size<=a0
 kJ:w0.heap.size<=tb
 ne:a0≠tb
theorem ff.bK {r:cE}{m:aU}{j:cJ}(h:ff w0 u a0 tb r m j)(a:ai u bF):ff w0 bF a0 tb r m j:=
 ⟨ai.ak a h.ak,h.job,h.ct,h.mem,h.new.new a,h.G3,h.kJ,h.ne⟩
theorem ff.aC {r:cE}{m:aU}{j:cJ}(h:ff w0 u a0 tb r m j)(a:ao M u bF)(b:∀ k,M k->w0.heap.size<=k/\k≠a0):ff w0 bF a0 tb r m j:=
 ⟨a.ak h.ak λe=>(b _ e).2 rfl,h.job,h.ct,h.mem,h.new.trans a λk c e=>by grind,h.G3,h.kJ,h.ne⟩
theorem ff.num {w0 u:aj}{a0 tb:Nat}{r:cE}{m:aU}{j:cJ}(h:ff w0 u a0 tb r m j):r.View.Number=j.v.number:=by obtain⟨M,ar⟩:=h.job.view;exact ar.num
theorem tm {r:cE}{bP:aU}{j:cJ}(h:ff w0 w a0 tb r bP j){m:aU}(G:eb m.cB){v:aI}{x:bE}(ar:cQ M w v x) :
  a9 212 [ptr a0,m.val,v.val] w λy w'=>∃ l:aI,y=l.val/\cQ (λk=>k<w.heap.size) w' l (addr j.v.number m x)/\ai w w':=by
 refine a' Tryz.func212 ?_;rw[ptr,WU];rintro b1 w1 D t;obtain⟨g,o⟩:=bo D t;have g:aq w1 b1 m.cells eF:=g;clear t;rintro az T E u;obtain⟨i,f⟩:=bo E u;have i:aq T az v.cells cK:=i;clear u;rintro L K F z;obtain⟨d,c⟩:=bo F z;have d:aq K L (aI.cells ⟨0,0,0,0,0,0,none,0,0,0,0⟩) cK:=d;clear z;rintro C A;have b:ai K C:=by rw[A];exact cC _
 clear A;have a:=((o.new f).new c).new b;have P:=o.size;have Q:=f.size;have R:=c.size;have S:=b.size;have N:=h.bK a;have q:=h.num;have V:=h.ct.num;refine⟨λy=>ai C y,ao.refl _ _,c1.aT r.View ⟨λy B=>bJ (ai.ak B N.ak) rfl,aU.aT m ⟨λy B=>bJ (ai.ak (((f.new c).new b).new B) g) rfl,aI.aT v ⟨λy B=>bJ (ai.ak ((c.new b).new B) i) rfl,?_⟩⟩⟩⟩;refine aE (C1 C (by omega) (by omega) G (ar.aC (ao.b7 a) λ_ _ e=>e)) ?_;rintro y W ⟨l,rfl,s,p⟩;refine aI.aT l ⟨rfl,dI (ai.ak (b.new p) d) rfl (aI.single _) λU I n=>?_⟩;have J:=d.lt;refine aI.aT l ⟨bJ I rfl,rfl,l,rfl,?_,(a.new p).trans n λk O e=>by omega⟩;rw[q]at s;have H:cQ (λk=>k<C.heap.size) U l (addr j.v.number m x):=s.aC (n.mono λk _ e=>by omega) λ_ _ e=>e
 exact H.aC (ao.refl _ _) λk _ e=>by omega
theorem cQ.mono {M':a6}{v:aI}{x:bE}(h:cQ M w v x)(a:∀ k,M' k->M k):cQ M' w v x:=h.aC (ao.refl _ _) λk _ e=>a k e
theorem p9 {k at_ nn old new:Int}(i:bh w a (us ws))(g:n=ws.length)(e:n<=c)(b:a=none->ws=[])(hu:∀ x ∈ ws,ch x)(f:ws.length<=1000000)(h:ch old)(d:ch new) :
  cQ (λ_=>False) w ⟨k,0,at_,nn,old,new,a,n,c,0,0⟩ ⟨k,0,at_,nn,old,new,ws,0,0⟩:=by
 subst g;refine⟨rfl,i,b,.inr ?_,hu,d,h,?_,?_,e,f⟩
 ·cases a with
  |none=>trivial
  |some a=>exact id
 ·grind[ch]
 grind[eb]
def lA (j:cJ)(m:aU):bE:=addr j.v.number m ⟨2,0,32+j.a3,0,0,0,[j.seq],0,0⟩
def jy (j:cJ)(m:aU)(p:aD):bE:=addr j.v.number m ⟨2,0,p.bw*8,0,0,0,ie p,0,0⟩
theorem gU:ch 0:=⟨by decide,by decide⟩
theorem EN {r:cE}{bP:aU}{j:cJ}(h:ff w0 w a0 tb r bP j)(aP:1<=j.seq/\j.seq<1073741824){m:aU}(G:eb m.cB) :
  a9 218 [ptr a0,m.val] w λy w'=>∃ a:aI,y=a.val/\cQ (λk=>k<w.heap.size) w' a (lA j m)/\ai w w':=by
 refine a' Tryz.func218 ?_;rw[ptr,X3];rintro b1 w1 T K;obtain⟨C,I⟩:=bo T K;have C:aq w1 b1 m.cells eF:=C;clear K;rintro az af U L;obtain⟨q,B⟩:=bo U L;have q:aq af az (aI.cells ⟨0,0,0,0,0,0,none,0,0,0,0⟩) cK:=q;clear L;rintro S M;have o:ai af S:=by rw[M];exact cC _
 clear M;have s:=(I.new B).new o;have ah:=I.size;have aB:=B.size;have aL:=o.size;have R:=h.bK s;have aZ:=h.ct.a3;have X:=h.job.a3;have Y:=h.job.seq;have ae:=q.lt;refine ⟨λy=>ai S y,ao.refl _ _,aU.aT m ⟨λy P=>bJ (ai.ak ((B.new o).new P) C) rfl,⟨_,λy P=>(ai.ak P R.ak).cell (i:=0) rfl,_,λy P=>(ai.ak P R.ak).cell (i:=1) rfl,?_⟩⟩⟩;dsimp only;rw [X,Y,jx (x:=j.seq) (by omega) (by omega)];have fin:∀ {n E:aj} {a:aI},ai S n->ai n E->cQ (λk=>k<n.heap.size) E a (lA j m)->
   (dT E ⟨az,0,none⟩ 0 a.cells/\∀ z,z=cv E ⟨az,0,none⟩ 0 a.cells->aI.ex λg=>b6 z ⟨az,0,none⟩ 0 g.cells/\z=z/\∃ a:aI,g.val=a.val/\cQ (λk=>k<w.heap.size) z a (lA j m)/\ai w z):=by
  intro n E a A F l;have aM:=A.size;refine dI (ai.ak ((o.new A).new F) q) rfl (aI.single _) λz ab H=>?_
  refine aI.aT a ⟨bJ ab rfl,rfl,a,rfl,?_,((s.new A).new F).trans H λk ag e=>by omega⟩;have Z:cQ (λk=>k<n.heap.size) z a (lA j m):=l.aC (H.mono λk _ e=>by omega) λ_ _ e=>e
  exact Z.mono λk e=>by omega
 have u:∀ {n:aj} {Q:Nat},aq n Q [.int .u64 j.seq] ow->cQ (λ_=>False) n ⟨2,0,32+j.a3,0,0,0,some ⟨Q,0,none⟩,1,1,0,0⟩ ⟨2,0,32+j.a3,0,0,0,[j.seq],0,0⟩:=by intro n Q D;exact p9 (e6 D rfl) rfl (by omega) (λe=>by cases e) (λx a1=>by grind[ch]) (by simp) gU gU
 refine⟨?_,?_⟩
 ·refine aE (wH S (by omega)) ?_;rintro y a4 ⟨rfl,c⟩;refine⟨_,rfl,c,?_⟩;rintro Q n V N;obtain⟨D,p⟩:=bo V N;clear N;refine⟨c.new p,?_⟩;have b:=tm (R.bK (c.new p)) G (u D);refine aE b ?_;rintro y E ⟨a,rfl,l,J⟩;exact aI.aT a ⟨rfl,(c.new p).new J,fin (c.new p) J l⟩
 ·rintro aW aV W O;obtain⟨ad,d⟩:=bo W O;clear O;refine⟨d,?_⟩;refine aE (wH aV (by omega)) ?_;rintro y a5 ⟨rfl,f⟩;refine⟨_,rfl,d.new f,?_⟩;have b:=tm (R.bK (d.new f)) G (u (ai.ak f ad));refine aE b ?_;rintro y aR ⟨a,rfl,l,t⟩;exact aI.aT a ⟨rfl,(d.new f).new t,fin (d.new f) t l⟩
theorem Ga {p:aD}(h:∀ x ∈ hE p,ch x):∀ x ∈ ie p,ch x:=λx a=>by
 grind[ie,Qw]
theorem EO {r:cE}{bP:aU}{j:cJ}(h:ff w0 w a0 tb r bP j)(bm:∀ p ∈ j.writes,∀ x ∈ hE p,ch x){m:aU}(X:eb m.cB) :
  a9 217 [ptr a0,m.val] w λy w'=>∃ (a:an) (cap:Nat),y=.slice a j.writes.length cap/\bO w w' a j.writes.length cap (j.writes.map (jy j m))/\ai w w':=by
 refine a' Tryz.func217 ?_;rw[ptr,X2];rintro b1 w1 V R;obtain⟨c,F⟩:=bo V R;have c:aq w1 b1 m.cells eF:=c;clear R;have ao:=h.bK F;have hlen:=h.job.bT.len;have bs:=h.ct.tq;have bD:=F.size;refine⟨_,_,_,ao.ak.cell (i:=6) rfl,?_⟩;refine cP mix (λq env u=>∃ (i:Nat) (a2:an) (pc:Nat) (a1:au),q=j.writes.length-i/\i<=j.writes.length/\env=xK ⟨a0,0,none⟩ ⟨b1,0,none⟩ a2 i pc r.de r.dj r.fG r.dj i a1/\ai w u/\bO w u a2 i pc ((j.writes.take i).map (jy j m))/\aq u b1 m.cells eF/\ff w0 u a0 tb r bP j) j.writes.length
  ⟨0,none,0,_,rfl,by omega,rfl,F,bO.nil _ _,c,ao⟩ ?_
 rintro q env u ⟨i,a2,pc,a1,rfl,bX,rfl,L,s,c,D⟩;rw[Uk,hlen];have M:ai w0 u:=h.new.new L;refine a5 (λbx=>?_) (λbr=>?_)
 ·obtain⟨p,aV⟩:∃ p,j.writes[i]?=some p:=⟨_,bW (by omega)⟩;have t:=cu aV;have P:=h.ct.wl p t;have ad:=h.ct.I7 p t;have ae:=h.job.bT.u64 p t;refine ei (cells:=aD.cells) aD.len (by omega) (h.job.bT.rd.new M) aV rfl rfl λb o Y _=>aD.aT p ⟨Y,?_⟩
  refine dP (vs:=p.cells) rfl (aD.single _) λa8 b3 bk g I=>?_
  refine aD.aT p ⟨bJ g rfl,?_⟩;refine aE (Du b3 p ae ad.2) ?_;rintro y bz ⟨aa,ac,rfl,J,A,bh⟩;refine⟨_,_,_,_,rfl,?_⟩;rintro a4 S;have G:ai bz a4:=by rw[S];exact cC _
  clear S;have f:=J.new G;have d:=(I.new J).new G;refine⟨λy=>aq y a8 p.cells eo/\aq y b1 m.cells eF,⟨ai.ak f g,ai.ak d c⟩,aU.aT m ⟨λy ah=>bJ ah.2 rfl,_,λy ah=>ah.1.cell (i:=0) rfl,?_⟩⟩;refine aE (qm a4 P.1 P.2) ?_;rintro y bH ⟨rfl,rfl⟩;refine⟨_,rfl,⟨ai.ak f g,ai.ak d c⟩,?_⟩;have ag:cQ (λ_=>False) bH ⟨2,0,p.bw*8,0,0,0,aa,8,ac,0,0⟩ ⟨2,0,p.bw*8,0,0,0,ie p,0,0⟩:=p9 (aZ.new G A).rd (by rfl) (aZ.le A) (λe=>by
   obtain⟨_,bV⟩:=A
   grind) (Ga (bm p t)) (by simp[ie,hE]) gU gU
  have B:=tm (D.bK d) X ag;refine aE B ?_;rintro y bL ⟨bQ,rfl,af,n⟩;have l:=d.new n;refine aI.aT bQ ⟨rfl,⟨ai.ak (f.new n) g,ai.ak l c⟩,?_⟩;have Q:=s.new d;rintro bR bN W T;have K:ai bL bN:=by rw[T];exact hn _ _
  refine⟨⟨ai.ak ((f.new n).new K) g,ai.ak (l.new K) c⟩,?_⟩;have aR:=g.lt;have aM:=c.lt;have aW:∀ k,aP a2 k->k<u.heap.size:=λk U=>by obtain⟨z,N,_⟩:=s.ex;exact N.lt U
  have bG:=I.size;refine bO.lX Q (L.new d) n af (by omega) W T λap H u8 aB E ab=>?_
  have O:¬ aP a2 b1:=λe=>by have aL:=s.ex;obtain⟨z,N,_⟩:=aL;obtain⟨cs,C⟩:=gj N e;exact b_ (C.ne c (by decide)) (λZ=>Z rfl)
  have a7:aq u8 b1 m.cells eF:=E.ak (ai.ak l c) O;refine⟨⟨E.ak (ai.ak (f.new n) g) λe=>by grind,a7⟩,?_⟩;rw[bq (x:=(i:Int)+1) (by omega) (by omega)];have e:(j.writes.take i).map (jy j m)++[addr j.v.number m ⟨2,0,p.bw*8,0,0,0,ie p,0,0⟩]=(j.writes.take (i+1)).map (jy j m):=by
   grind[List.take_add_one,jy]
  rw[e]at aB;refine⟨j.writes.length-(i+1),by omega,i+1,ap,H,_,rfl,by omega,by rw[<-hlen];rfl,ab,aB,a7,(D.bK l).aC E λk U=>?_⟩;have aL:=s.gB k U;have bb:=h.new.size;refine⟨by omega,λe=>?_⟩
  obtain⟨z,N,_⟩:=s.ex;obtain⟨cs,C⟩:=gj N U;exact b_ (e▸C |>.ne D.ak (by decide)) (λZ=>Z rfl)
 grind[U_,List.take_length]
end
section
def ho:cw->Int
 | []=>0
 |d::ds=>if d.code=0 then ho ds else d.code
theorem LC {ds:cw}{i:Nat}{x:cW}(h:ds[i]?=some x):ho (ds.drop i)=if x.code=0 then ho (ds.drop (i+1))else x.code:=by have a:=dk h;rw[vR a];rw[bW a]at h;cases h;rfl
theorem EP (hw:ai w0 w){raw:List bR}{ds:cw}(D:n=raw.length)(F:bh w0 a (fL raw).flatten)(s:gX A w0 raw ds)(y:raw.length<=1000000):a9 242 [.slice a n c] w λx w'=>x=.int .i64 (ho ds)/\ai w w':=by
 subst D;refine a' Tryz.func242 ?_;rw[KD];have C:=s.1;refine cP mix (λm env u=>∃ (i:Nat) (z:au),m=raw.length-i/\i<=raw.length/\env=yJ a raw.length c raw.length i z/\ai w u/\ho ds=ho (ds.drop i)) raw.length
  ⟨0,_,by omega,by omega,rfl,ao.refl _ _,rfl⟩ ?_
 rintro m env u ⟨i,z,rfl,G,rfl,f,t⟩;rw[Y2];refine a5 (λE=>?_) (λE=>?_)
 ·have r:i<raw.length:=by omega
  have q:raw[i]?=some raw[i]:=bW r;obtain⟨x,h⟩:∃ x,ds[i]?=some x:=⟨_,bW (by omega)⟩;have g:=s.2 i _ _ q h;generalize raw[i]=d at q g;have p:=g.code;rw[LC h]at t;refine ei (cells:=bR.cells) bR.len (by omega) (F.new (hw.new f)) q rfl rfl λb o l _=>bR.aT d ⟨l,?_⟩
  refine dP (vs:=d.cells) rfl (bR.single _) λb1 H B k j=>⟨_,k.cell (i:=0) rfl,dw (λe=>⟨_,k.cell (i:=0) rfl,?_,f.new j⟩) (λe=>?_)⟩
  ·grind
  ·rw[bq (x:=(i:Int)+1) (by omega) (by omega)];exact⟨raw.length-(i+1),by omega,i+1,_,rfl,by omega,rfl,f.new j,by grind⟩
 ·rw[Z1];refine⟨?_,f⟩;rw[t,List.drop_of_length_le (by omega)];rfl
structure cq where
 ok:Bool
 done:cw
 out:Int×Int
 a_:bn
 ask:Option bu
 dC:Bool
def cm (G:bn)(vs:bu)(a:Int):cq:=
 if(batch G vs).ok=false then⟨false,[],(0,0),(batch G vs).a_,(batch G vs).ask,(batch G vs).dC⟩
 else if ho (batch G vs).done≠0 then⟨false,[],(ho (batch G vs).done,a),(batch G vs).a_,none,false⟩
 else⟨true,(batch G vs).done,(0,0),(batch G vs).a_,none,false⟩
structure eJ (A:a6)(w0 u:aj)(tb:Nat)(T:eG)(G:bn):Prop where
 ak:aq u tb T.cells pt
 a_:hO A w0 T.g2 G
 fw:T.fw=G.length
 gc:T.fw<=T.gc
theorem eJ.new {T:eG}{G:bn}(h:eJ A w0 u tb T G)(a:ai u bF):eJ A w0 bF tb T G:=⟨ai.ak a h.ak,h.a_,h.fw,h.gc⟩
theorem eJ.aC {T:eG}{G:bn}(h:eJ A w0 u tb T G)(b:ao M u bF)(a:¬ M tb):eJ A w0 bF tb T G:=⟨b.ak h.ak a,h.a_,h.fw,h.gc⟩
structure gH (A:a6)(w0 u:aj)(tb B:Nat)(R:cq)(bF:aj):Prop where
 aC:ao (λk=>k=tb) u bF
 fN:∃ ib:eG,eJ A w0 bF tb ib R.a_/\ib.dC=R.dC/\(match R.ask with
  |none=>ib.e4=0
  |some vs=>0<vs.length/\∃ w1,ai w0 w1/\B<=w1.heap.size/\bO w1 bF ib.aa ib.e4 ib.ac vs)
structure f8 (T:eG):Prop where
 e4:T.e4=0
 dC:T.dC=false
theorem gH.new {A:a6}{w0 u bF a:aj}{tb B:Nat}{R:cq}(h:gH A w0 u tb B R bF)(b:ai bF a):gH A w0 u tb B R a:=by
 obtain⟨k,d,l,hw,c⟩:=h;refine⟨k.new b,d,l.new b,hw,?_⟩;cases j:R.ask with
 |none=>grind
 |some vs=>rw[j]at c;obtain⟨e,w1,f,g,i⟩:=c;exact⟨e,w1,f,g,i.new b⟩
theorem my (ax:aq u b zs eQ)(i:zs.length=2)(c f:Int){K:bG->aK}(h:∀ g,ao (λk=>k=b) u g->K ⟨c,f⟩ g) :
  dT u ⟨b,0,none⟩ 0 [(.int .i64 c),(.int .i64 f)]/\∀ a,a=cv u ⟨b,0,none⟩ 0 [(.int .i64 c),(.int .i64 f)]->bG.ex λres=>b6 a ⟨b,0,none⟩ 0 res.cells/\a=a/\K res a:=
 dI ax (vs:=bG.cells ⟨c,f⟩) (by rw[i];rfl) (bG.single _) λa e d=>bG.aT ⟨c,f⟩ ⟨bJ e rfl,rfl,h a d⟩
theorem Fl {G:bn}{vs ws:bu}(h:(batch G vs).ask=some ws):0<vs.length:=by
 unfold batch at h
 grind
theorem r2 {r:cE}{m:aU}{j:cJ}(Y:ff w0 u a0 tb r m j){T:eG}{G:bn}(aM:eJ A w0 u tb T G)(F:f8 T)(ah:ai w0 w1)(af:tb<w1.heap.size){vs:bu}(ar:bO w1 u a n cap vs)(aP:vs.length<=100000)(b:Int) :
  a9 213 [ptr a0,.slice a n cap,.int .i64 b] u λv bF=>∃ (dB:an) (dc:Nat) (raw:List bR),v=.tuple #[.slice dB raw.length dc,bG.val ⟨(cm G vs b).out.1,(cm G vs b).out.2⟩,.bool (cm G vs b).ok]/\
   gH A w0 u tb w1.heap.size (cm G vs b) bF/\bh w0 dB (fL raw).flatten/\gX A w0 raw (cm G vs b).done/\(raw=[]\/raw.length=vs.length):=by
 refine a' Tryz.func213 ?_;rw[ptr,Yp];rintro b1 bp V O;obtain⟨D,o⟩:=bo V O;have D:aq bp b1 (bG.cells ⟨0,0⟩) eQ:=D;clear O;have z:=Y.bK o;have p:=aM.new o;have C:=ar.new o;obtain⟨Q,w,P⟩:=C.ex;have bb:=P.1;have ae:=C.len;have a5:=o.size;have a7:=aM.ak.lt;have X:b1≠tb:=by omega
 refine⟨_,z.ak.cell (i:=7) rfl,?_⟩;have K:n=Q.length:=by omega
 rw[K]at w;have aL:=Fi (A:=A) z.new Y.kJ p.ak p.a_ p.fw p.gc (aa:=a) (ac:=cap) w.rd P (by omega);rw[<-K]at aL;refine aE aL ?_;rintro v b3 ⟨aI,dB,dc,raw,rfl,W,q,N,B,H,ab,Z,aB,h⟩;rw[F.dC,Bool.false_or]at aB;have E:aq b3 b1 (bG.cells ⟨0,0⟩) eQ:=q.ak D X;have a8:bO w1 b3 a n cap vs:=C.aC q λk e=>by omega
 have I:ao (λk=>k=tb) u b3:=(ao.b7 o).trans q λ_ _ e=>e
 have c:(batch G vs).done.length=raw.length:=B.1.symm;refine⟨_,_,_,_,rfl,?_⟩;have fin:∀ {bz y:aj},ai b3 bz->ao (λk=>k=b1) bz y->∀ {R:cq},R.a_=(batch G vs).a_->R.dC=(batch G vs).dC->R.ask=(batch G vs).ask->gH A w0 u tb w1.heap.size R y:=by
  intro bz y l f R aR bq aT;have t:ao (λk=>k=b1) b3 y:=(ao.b7 l).trans f λ_ _ e=>e
  have s:ao (λk=>k=tb) u y:=I.trans t λk ad e=>by omega
  refine⟨s,aI,?_,by grind,?_⟩
  ·rw[aR];exact⟨t.ak W (by omega),H,ab,Z⟩
  ·rw[aT];cases S:(batch G vs).ask with
   |none=>rw[S]at h;obtain⟨_,U,_⟩:=h;show aI.e4=0;rw[U];exact F.e4
   |some ws=>rw[S]at h;obtain⟨aV,U,aZ⟩:=h;have:=Dt S;subst this;refine⟨Fl S,w1,ah,dr _,?_⟩;rw[aV,U,aZ,<-ae];exact ar.aC s λk e=>e▸af
 unfold cm;have a1:=@ri G vs;refine eu (λg=>?_) (λg=>?_)
 ·rw[bm g];exact my E rfl 0 0 λy f=>⟨none,0,[],rfl,fin (ao.refl _ _) f rfl rfl rfl,.inl rfl,⟨rfl,λi v x ar=>by grind⟩,.inl rfl⟩
 ·rw[aW (by grind)];obtain⟨L,M⟩:=EL g;have J:ai w0 b3:=z.new.trans q λk ad e=>by have:=Y.kJ;omega
  refine aE (EP J rfl N B (by omega)) ?_;rintro v bz ⟨rfl,l⟩;refine⟨_,rfl,dw (λe=>?_) (λe=>?_)⟩
  ·rw[bm e];exact my (ai.ak l E) rfl _ _ λy f=>⟨none,0,[],rfl,fin l f rfl M.symm L.symm,.inl rfl,⟨rfl,λi v x ar=>by grind⟩,.inl rfl⟩
  ·rw[aW (by grind)];refine my (ai.ak l E) rfl 0 0 λy f=>⟨dB,dc,raw,rfl,fin l f rfl M.symm L.symm,N,B,?_⟩
   by_cases ag:vs.length=0
   ·grind
   ·right;unfold batch at g c;rw[aW ag]at g c;cases G with
    |nil=>grind
    |cons d bk=>
     simp only at g c;split at g
     ·rename_i a4;rw[bm a4]at c
      grind[wk]
     grind
theorem Tm {r:cE}{bP:aU}{j:cJ}(h:ff w0 w a0 tb r bP j){v:aI}{x:bE}(ar:cQ M w v x) :
  a9 237 [ptr a0,v.val] w λy w'=>∃ (a:an) (cap:Nat),y=.slice a j.v.mem.length cap/\bO w w' a j.v.mem.length cap (j.v.mem.map λm=>addr j.v.number m x)/\ai w w':=by
 refine a' Tryz.func237 ?_;rw[ptr,YO];rintro b1 w1 F D;obtain⟨d,l⟩:=bo F D;have d:aq w1 b1 v.cells cK:=d;clear D;have E:=h.bK l;obtain⟨aL,g⟩:=h.job.view;have hlen:=g.len;have Z:=h.ct.mem;have L:=l.size;have ad:=d.lt;refine⟨_,_,_,E.ak.cell (i:=4) rfl,?_⟩;refine cP mix (λq env u=>∃ (i:Nat) (a2:an) (pc:Nat) (T:au),q=j.v.mem.length-i/\i<=j.v.mem.length/\env=xY ⟨a0,0,none⟩ ⟨b1,0,none⟩ a2 i pc r.View.fr r.View.e_ r.View.fS r.View.e_ i T/\ai w1 u/\bO w1 u a2 i pc ((j.v.mem.take i).map λm=>addr j.v.number m x)/\aq u b1 v.cells cK/\ff w0 u a0 tb r bP j) j.v.mem.length
  ⟨0,none,0,_,rfl,by omega,rfl,ao.refl _ _,bO.nil _ _,d,E⟩ ?_
 rintro q env u ⟨i,a2,pc,T,rfl,aV,rfl,n,f,d,s⟩;rw[UO,hlen];have B:ai w0 u:=E.new.new n;refine a5 (λae=>?_) (λY=>?_)
 ·obtain⟨m,hm⟩:∃ m,j.v.mem[i]?=some m:=⟨_,bW (by omega)⟩;have af:=h.ct.eS m (cu hm);refine ei (cells:=aU.cells) aU.len (by omega) (g.rd.new B) hm rfl rfl λb o H _=>aU.aT m ⟨H,?_⟩
  refine dP (vs:=m.cells) rfl (aU.single _) λaM b3 X Q c=>?_
  refine aU.aT m ⟨bJ Q rfl,aI.aT v ⟨bJ (ai.ak c d) rfl,?_⟩⟩;have O:cQ M b3 v x:=ar.aC (ao.b7 ((l.new n).new c)) λ_ _ e=>e
  have p:=tm (s.bK c) (m:=m) (by grind[eb]) O;refine aE p ?_;rintro y bz ⟨aB,rfl,N,t⟩;refine aI.aT aB ⟨rfl,?_⟩;rintro aR aW G P;have ah:=c.size;refine bO.lX (f.new c) (n.new c) t N (by omega) G P λap z u8 R A K=>?_
  have C:¬ aP a2 b1:=λe=>by have W:=f.gB _ e;omega
  rw[bq (x:=(i:Int)+1) (by omega) (by omega)];have e:(j.v.mem.take i).map (λm=>addr j.v.number m x)++[addr j.v.number m x]=(j.v.mem.take (i+1)).map λm=>addr j.v.number m x:=by
   grind[List.take_add_one]
  rw[e]at R;refine⟨j.v.mem.length-(i+1),by omega,i+1,ap,z,_,rfl,by omega,by rw[<-hlen];rfl,K,R,A.ak (ai.ak (c.new t) d) C,(s.bK (c.new t)).aC A λk S=>?_⟩;have W:=f.gB k S;have V:=h.new.size;refine⟨by omega,λe=>?_⟩
  obtain⟨U,ag,_⟩:=f.ex;obtain⟨cs,I⟩:=gj ag S;exact b_ (e▸I |>.ne s.ak (by decide)) (λab=>ab rfl)
 ·have J:i=j.v.mem.length:=by omega
  subst J;rw[qr];rw[jC]at f;exact⟨a2,pc,rfl,f.mono L,l.new n⟩
def uA (R:cq)(f:bn->cq):cq:=if R.ok then f R.a_ else R
def sd (G:bn):cq:=⟨true,[],(0,0),G,none,false⟩
def pJ (j:cJ)(at_:Int)(ws:ba):bu:=j.v.mem.map λm=>addr j.v.number m ⟨2,0,at_,0,0,0,ws,0,0⟩
def nI (j:cJ)(G:bn)(at_:Int)(ws:ba)(a:Int):cq:=if j.writes=[]then sd G else cm G (pJ j at_ ws) a
def se (j:cJ)(G:bn):cq:=nI j G (fl j.a3+8) (fe j.seq j.writes) 1
def uB (j:cJ)(G:bn):cq:=nI j G (fl j.a3) [fZ j.seq] 2
def kk (A:a6)(w0 u:aj)(tb B:Nat)(R:cq)(v:bl)(bF:aj):Prop:=v=.tuple #[bG.val ⟨R.out.1,R.out.2⟩,.bool R.ok]/\gH A w0 u tb B R bF
theorem gH.skip {T:eG}{G:bn}(c:eJ A w0 u tb T G)(a:f8 T)(b:ai u bF):gH A w0 u tb B (sd G) bF:=
 ⟨ao.b7 b,T,c.new b,a.dC,a.e4⟩
theorem gH.put {b3 bz i:aj}{B':Nat}{R:cq}(h:gH A w0 bp tb B R b3)(s:ai u bp)(a:ai b3 bz)(d:ao (λk=>k=b) bz i)(y:u.heap.size<=b)(q:b<B)(c:b≠tb)(x:B'<=B):gH A w0 u tb B' R i:=by
 obtain⟨f,j,t,hw,g⟩:=h;refine⟨(((ao.b7 s).trans f λ_ _ e=>e).new a).trans d λk r e=>by omega,j,(t.new a).aC d λe=>c e.symm,hw,?_⟩;cases p:R.ask with
 |none=>grind
 |some vs=>rw[p]at g;obtain⟨l,w1,n,w,o⟩:=g;exact⟨l,w1,n,by omega,(o.new a).aC d λk e=>by omega⟩
theorem Gt (ax:aq u b zs eQ)(l:zs.length=2)(o:bG){K:bG->aK}(j:∀ bz i,ai u bz->ao (λk=>k=b) bz i->K o i) :
  ∀ az g,az=u.heap.size->g=u.alloc (.cells #[.int .i64 0,.int .i64 0] eQ)->dT g ⟨az,0,none⟩ 0 o.cells/\∀ c,c=cv g ⟨az,0,none⟩ 0 o.cells->bG.ex λr=>b6 c ⟨az,0,none⟩ 0 r.cells/\dT c ⟨b,0,none⟩ 0 r.cells/\∀ a,a=cv c ⟨b,0,none⟩ 0 r.cells->bG.ex λres=>b6 a ⟨b,0,none⟩ 0 res.cells/\a=a/\K res a:=by
 refine dP (zs:=[.int .i64 0,.int .i64 0]) (vs:=o.cells) rfl (bG.single _) λaz c n e h=>?_
 refine bG.aT o ⟨bJ e rfl,dI (ai.ak h ax) (by rw[l];rfl) (bG.single _) λa f d=>?_⟩;exact bG.aT o ⟨bJ f rfl,rfl,j c a h d⟩
theorem Gu {r:cE}{m:aU}{j:cJ}(z:ff w0 u a0 tb r m j){T:eG}{G:bn}(J:eJ A w0 u tb T G)(p:f8 T){at_:Int}(hw:j.writes≠[]->bh u a (us ws)/\n=ws.length/\n<=cap/\(a=none->ws=[])/\(∀ x ∈ ws,ch x)/\ws.length<=1000000)(b:Int) :
  a9 208 [ptr a0,.int .i64 at_,.slice a n cap,.int .i64 b] u (kk A w0 u tb u.heap.size (nI j G at_ ws b)):=by
 refine a' Tryz.func208 ?_;rw[ptr,YP];rintro b1 bp y w;obtain⟨d,c⟩:=bo y w;have d:aq bp b1 (bG.cells ⟨0,0⟩) eQ:=d;clear w;have f:=z.bK c;have o:=J.new c;have hlen:=z.job.bT.len;have s:=c.size;have q:=d.lt;have R:=J.ak.lt;unfold nI;refine⟨_,_,_,f.ak.cell (i:=6) rfl,dJ (λe=>?_) (λe=>?_)⟩
 ·have k:j.writes=[]:=hh (by omega);rw[bm k];exact my d rfl 0 0 λK C=>⟨rfl,(gH.skip (B:=bp.heap.size) o p (ao.refl _ _)).put c (ao.refl _ _) C (by omega) q (by omega) s⟩
 ·have k:j.writes≠[]:=λS=>by grind
  rw[aW k];obtain⟨L,M,N,O,P,Q⟩:=hw k;have F:cQ (λ_=>False) bp ⟨2,0,at_,0,0,0,a,n,cap,0,0⟩ ⟨2,0,at_,0,0,0,ws,0,0⟩:=p9 (L.new c) M N O P Q gU gU;have l:=Tm f F;refine aE l ?_;rintro v b3 ⟨aa,ac,rfl,H,h⟩;refine⟨_,_,_,rfl,?_⟩;have g:=r2 (f.bK h) (o.new h) p f.new (w1:=bp) (by omega) H (by rw[jc];have:=z.ct.mem;omega) b;refine aE g ?_;rintro v K ⟨dB,dc,raw,rfl,t,_⟩;refine⟨_,_,_,bG.aT ⟨(cm G (pJ j at_ ws) b).out.1,(cm G (pJ j at_ ws) b).out.2⟩ ⟨(cm G (pJ j at_ ws) b).ok,rfl,?_⟩⟩;have I:aq K b1 (bG.cells ⟨0,0⟩) eQ:=t.aC.ak (ai.ak h d) (by omega);refine Gt I rfl _ λU V E D=>⟨rfl,t.put (c.new h) E D (by omega) q (by omega) s⟩
end
end Go.Proofs.YtmkljjbioomepaaGreat
