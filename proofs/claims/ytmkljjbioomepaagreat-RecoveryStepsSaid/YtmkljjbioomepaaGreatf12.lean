import Derived.Test.YtmkljjbioomepaaGreatf11
import Derived.Test.YtmkljjbioomepaaGreatProg
import Derived.Test.YtmkljjbioomepaaGreatf02
set_option linter.all false
set_option maxHeartbeats 4000000
set_option maxRecDepth 100000
namespace Go.Proofs.YtmkljjbioomepaaGreat
open Go.Proofs.Tryz Go.bd
variable {A M:a6}{B b ig cap a0 n fB tb:Nat}{K:an->Nat->Nat->aK}{a b8:an}{cs:au}{u bF bp bz w w' w0:aj}
section
theorem Qz {r:bX}{W:List aD}(h:fm w r.de r.dj W)(ar:fJ r.Seq W 256≠0):a9 210 [r.val] w λv w'=>v=.slice none 0 0/\ai w w':=by refine a' Tryz.func210 ?_;rw[Jf];rintro b1 w1 c b;obtain⟨ax,a⟩:=bo c b;have ax:aq w1 b1 r.cells 271:=ax;clear b;refine bX.aT r ⟨bJ ax rfl,?_⟩;refine aE (wj (h.new a) 256) ?_;rintro v f ⟨rfl,d⟩;exact⟨_,rfl,dw (λe=>⟨rfl,a.new d⟩) (λe=>b_ e ar)⟩
theorem Nq (w:aj)(s:Int):a9 214 [.int .i64 s] w λv w'=>∃ x e:Int,v=.tuple #[.int .u64 x,.int .i64 e]/\w'=w/\(1<=s/\s<1073741824->x=fZ s):=by
 refine a' Tryz.func214 ?_;rw[Cc];refine aE (tz w s 1 1073741823) ?_;rintro v w1 ⟨rfl,rfl⟩;refine⟨_,rfl,eu (λa=>⟨_,_,rfl,rfl,λe=>b_ (of_decide_eq_false a) (by omega)⟩) (λ_=>⟨_,_,rfl,rfl,λe=>?_⟩)⟩
 rw[jx (x:=s) (by omega) (by omega)];rfl
theorem Fm {seq:Int}{W:List aD}(c:ch seq)(b:W.length<=12)(eT:∀ p ∈ W,ch p.bw/\ch p.Head/\∀ x ∈ hE p,ch x):∀ x ∈ fe seq W,ch x:=by
 intro x a;unfold fe nP at a;rcases kh.1 a with a | a
 ·grind[ch,List.mem_flatten]
 grind[Ot]
def o8 (j:cJ):Prop:=∀ p ∈ j.writes,∀ x ∈ hE p,ch x
theorem Rw {r:cE}{m:aU}{j:cJ}(D:ff w0 u a0 tb r m j)(ab:o8 j){T:eG}{G:bn}(X:eJ A w0 u tb T G)(O:f8 T) :
  a9 172 [ptr a0] u (kk A w0 u tb u.heap.size (se j G)):=by
 refine a' Tryz.func172 ?_;rw[ptr,Yq];rintro b1 bp N I;obtain⟨l,H⟩:=bo N I;have l:aq bp b1 (bG.cells ⟨0,0⟩) eQ:=l;clear I;rintro b3 J;have t:ai bp b3:=by rw[J];exact cC _
 clear J;have k:=H.new t;have h:=D.bK k;have M:=X.new k;have ag:=H.size;have ah:=t.size;have af:=l.lt;have aI:=X.ak.lt;have P:=D.job.a3;have Q:=D.job.seq;have E:=D.ct;have ae:=E.a3;have F:=E.tq;refine ⟨λy=>aq y a0 (lS r tb m) mn,h.ak,_,λy V=>V.cell (i:=0) rfl,cE.aT r ⟨λy V=>bJ V rfl,?_⟩⟩;refine aE (Fk b3 (by omega)) ?_;rintro v bz ⟨rfl,rfl⟩;refine ⟨_,rfl,h.ak,?_⟩;refine aE (EK bz r) ?_;rintro v Z ⟨rfl,w⟩;refine bX.aT _ ⟨rfl,(h.bK w).ak,?_⟩;have q:=h.bK w;have z:fm Z r.de r.dj j.writes:=D.job.bT.new q.new;have fin:∀ {C:aj} {a:an} {n cap:Nat},ai Z C->(j.writes≠[]->bh C a (us (fe j.seq j.writes))/\n=(fe j.seq j.writes).length/\n<=cap/\(a=none->fe j.seq j.writes=[])/\(∀ x ∈ fe j.seq j.writes,ch x)/\(fe j.seq j.writes).length<=1000000)->
   Calls prog 208 #[(.pointer (some ⟨a0,0,none⟩)),(.int .i64 (fl r.Client+8)),(.slice a n cap),(.int .i64 1)] C λe W=>bG.ex λo=>∃ b:Bool,e=.returned (.tuple #[o.val,(.bool b)])/\aq W a0 (lS r tb m) mn/\dT W ⟨b1,0,none⟩ 0 o.cells/\∀ L,L=cv W ⟨b1,0,none⟩ 0 o.cells->bG.ex λres=>b6 L ⟨b1,0,none⟩ 0 res.cells/\L=L/\kk A w0 u tb u.heap.size (se j G) (.tuple #[res.val,(.bool b)]) L:=by
  intro C a n cap d hw;have c:=w.new d;have s:=Gu (A:=A) (h.bK c) (M.new c) O (at_:=fl j.a3+8) hw 1;rw[P];refine aE s ?_;rintro v aM ⟨rfl,B⟩;have aB:=c.size;refine bG.aT _ ⟨_,rfl,B.aC.ak (h.bK c).ak D.ne,?_⟩;exact my (B.aC.ak (ai.ak (t.new c) l) (by omega)) rfl _ _ λaP R=>⟨rfl,B.put (k.new c) (ao.refl _ _) R (by omega) (by omega) (by omega) (by omega)⟩
 by_cases K:j.writes=[]
 ·have S:fJ r.Seq j.writes 256≠0:=λe=>by
   have:=(jn e).2.1.2.2.1
   grind
  refine aE (Qz (r:=⟨r.Seq,r.de,r.dj,r.fG⟩) z S) ?_;rintro v C ⟨rfl,d⟩;exact⟨_,_,_,rfl,(q.bK d).ak,fin d λe=>b_ K e⟩
 ·obtain⟨ar,Y⟩:=E.wr K;rw[<-Q]at ar Y;refine aE (z9 (r:=⟨r.Seq,r.de,r.dj,r.fG⟩) z ar Y F E.wl) ?_;rintro v C ⟨a,cap,rfl,d,f,ad⟩;refine⟨_,_,_,rfl,(q.bK d).ak,fin d λ_=>?_⟩
  have f:aZ C 30 1 a (3+9*j.writes.length) cap (us (fe j.seq j.writes)):=by grind
  refine⟨f.rd,(pT _ _).symm,aZ.le f,λe=>?_,Fm (by grind[ch]) F λp U=>?_,by grind[pT]⟩
  ·rcases f.2 with⟨aL,_,_⟩ | ⟨g,cur,E,_⟩
   ·omega
   grind
  ·have:=E.wl p U;exact⟨by grind[ch],z.u64 p U,ab p U⟩
theorem QA {r:cE}{m:aU}{j:cJ}(p:ff w0 u a0 tb r m j){T:eG}{G:bn}(D:eJ A w0 u tb T G)(t:f8 T) :
  a9 174 [ptr a0] u (kk A w0 u tb u.heap.size (uB j G)):=by
 refine a' Tryz.func174 ?_;rw[ptr,Yr];rintro b1 bp q l;obtain⟨d,c⟩:=bo q l;have d:aq bp b1 (bG.cells ⟨0,0⟩) eQ:=d;clear l;have g:=p.bK c;have I:=c.size;have H:=d.lt;have K:=D.ak.lt;have w:=p.job.a3;have z:=p.job.seq;have E:=p.ct;have F:=E.a3;refine⟨_,g.ak.cell (i:=1) rfl,?_⟩;refine aE (Nq bp r.Seq) ?_;rintro v b3 ⟨x,e,rfl,rfl,L⟩;refine⟨_,_,rfl,_,g.ak.cell (i:=0) rfl,?_⟩;refine aE (AE b3 (by omega)) ?_;rintro v bz ⟨rfl,rfl⟩;refine⟨_,rfl,?_⟩;rintro az M s o;obtain⟨f,b⟩:=bo s o;have f:aq M az (us [x]) ow:=f;clear o;have J:=b.size;rw[w];have h:=Gu (A:=A) (g.bK b) ((D.new c).new b) t (a:=some ⟨az,0,none⟩) (n:=1) (cap:=1) (at_:=fl j.a3) (ws:=[fZ j.seq]) (λhw=>by obtain⟨_,N⟩:=E.wr hw;have C:=L (by omega);rw[C,z]at f;exact⟨e6 f rfl,rfl,by omega,(λe=>by cases e),(λy O=>by grind[AD]),by simp⟩) 2
 refine aE h ?_;rintro v P ⟨rfl,k⟩;refine bG.aT _ ⟨_,rfl,?_⟩;exact my (k.aC.ak (ai.ak b d) (by omega)) rfl _ _ λQ B=>⟨rfl,k.put (c.new b) (ao.refl _ _) B (by omega) (by omega) (by omega) (by omega)⟩
theorem v7 (l:List aI):(l.map aI.cells).flatten=(dQ l).flatten:=rfl
theorem bO.uQ {y:aj}{vs p:bu}(h:bO w0 bp a n cap vs)(A:ai w0 bp)(E:bO y bp b8 fB ig p)(r:∀ k,aP a k->k<y.heap.size)(M:w0.heap.size<=y.heap.size)(N:n+fB<=100000)
  (C:∀ ap f i,bO w0 i ap (n+fB) f (vs++p)->ao (aP a) bp i->ai w0 i->K ap (n+fB) f i) :
  ∃ (ap:an) (d c:Nat),∃ i,(Builtin.append_ #[gy,gy] gy #[(.slice a n cap),(.slice b8 fB ig)]).run prog bp=.ok (.slice ap d c) i/\K ap d c i:=by
 obtain⟨⟨o,P,x⟩,O,H⟩:=h;obtain⟨⟨b,u,j⟩,J,B⟩:=E;obtain⟨inf,I,ax,t,G⟩:=ft (T:=cK) (z:=.agg #[.int .i64 0,.int .i64 0,.int .i64 0,.int .i64 0,.int .u64 0,.int .u64 0,.slice none 0 0,.int .u64 0,.int .i64 0]) (n:=9) (m:=88) (by kernel_rfl);have L:=A.size;refine qn (cells:=aI.cells) (sz:=9) aI.len aI.single Tryz.underlying125 I ax (by rw[t];rfl) t (by decide) (by grind) (l:=o) (by grind[v7]) (l2:=b) (m:=fB) (by rw[v7];exact u.rd) (by rw[j.1];grind) (by omega) λap f i D g F=>?_
 have q:∀ k,aP ap k->w0.heap.size<=k:=λk C=>by
  grind
 refine C ap f i ⟨⟨o++b,D,?_⟩,by grind,q⟩ g (A.trans g λk r e=>by grind);have s:∀ k,k<bp.heap.size->(k<w0.heap.size\/aP ap k)->(k<w0.heap.size\/aP a k):=λk r e=>e.imp id λe=>by
  grind
 refine er.app (x.aC (g.mono λk _ e=>.inr e) s) ?_;have w:er (λk=>k<w0.heap.size\/aP a k) bp b p:=j.aC (ao.refl _ _) λk _ e=>by
  grind
 exact w.aC (g.mono λk _ e=>.inr e) s
def j3 (j:cJ)(m:aU):bu:=if j.writes=[]then[]else j.writes.map (jy j m)++[lA j m]
def qy (j:cJ):bu:=(j.v.mem.tail.map (j3 j)).flatten
def oa (j:cJ)(G:bn):cq:=cm G (qy j) 3
theorem Oa (j:cJ)(m:aU):(j3 j m).length<=j.writes.length+1:=by
 grind[j3]
theorem AF {α:Type}{b:Nat}:∀ (l:List (List α)),(∀ x ∈ l,x.length<=b)->l.flatten.length<=l.length*b
 | [],_=>by simp
 |x::l,h=>by
  have c:=h x g_;have d:=AF l λy a=>h y (gm _ a)
  grind[List.flatten_cons,List.length_append,List.length_cons,Nat.succ_mul]
theorem QB {r:cE}{bP:aU}{j:cJ}(R:ff w0 u a0 tb r bP j)(bQ:o8 j){T:eG}{G:bn}(a7:eJ A w0 u tb T G)(ad:f8 T) :
  a9 175 [ptr a0] u (kk A w0 u tb u.heap.size (oa j G)):=by
 refine a' Tryz.func175 ?_;rw[ptr,WV];rintro b1 bp X N;obtain⟨l,B⟩:=bo X N;have l:aq bp b1 (bG.cells ⟨0,0⟩) eQ:=l;clear N;have t:=R.bK B;have b7:=B.size;have b4:=l.lt;have cd:=a7.ak.lt;have S:=R.ct;have af:=S.mem;have bV:=S.tq;have hlen:=R.job.bT.len;obtain⟨cl,D⟩:=R.job.view;refine c1.aT r.View ⟨bJ t.ak rfl,?_⟩;refine aE (Dj (D.new t.new) af.1) ?_;rintro v b3 ⟨bs,bx,rfl,g,Z⟩;refine⟨_,_,_,rfl,?_⟩;have w:=t.bK g;have b9:=g.size;have bb:j.v.mem.tail.length=j.v.mem.length-1:=zv;refine cP mix (λq env z=>∃ (i n:Nat) (a2:an) (pc:Nat) (bk:au),q=j.v.mem.tail.length-i/\i<=j.v.mem.tail.length/\env=uU ⟨a0,0,none⟩ ⟨b1,0,none⟩ a2 n pc bs (j.v.mem.length-1) bx ((j.v.mem.length-1:Nat):Int) i bk/\ai b3 z/\bO b3 z a2 n pc (((j.v.mem.tail.take i).map (j3 j)).flatten)) j.v.mem.tail.length
  ⟨0,0,none,0,_,rfl,by omega,rfl,ao.refl _ _,bO.nil _ _⟩ ?_
 rintro q env z ⟨i,n,a2,pc,bk,rfl,cv,rfl,d,a⟩;rw[T5];have f:=w.bK d;have cb:=d.size;have cf:=a.len;have a8:n<=1000:=by
  have bD:=AF (b:=j.writes.length+1) ((j.v.mem.tail.take i).map (j3 j)) λx cx=>by
   grind[Oa]
  rw[jc,zw]at bD;have cq:min i j.v.mem.tail.length*(j.writes.length+1)<=5*13:=vO (by omega) (by omega);omega
 refine a5 (λb5=>?_) (λbR=>?_)
 ·obtain⟨m,hm⟩:∃ m,j.v.mem.tail[i]?=some m:=⟨_,bW (by omega)⟩;have b6:=S.eS m (tJ (cu hm));have H:eb m.cB:=by grind[eb]
  have F:((j.v.mem.tail.take (i+1)).map (j3 j)).flatten=((j.v.mem.tail.take i).map (j3 j)).flatten++j3 j m:=by
   grind[List.take_add_one]
  refine ei (cells:=aU.cells) aU.len (by omega) (Z.new d) hm rfl (by omega) λb o ab _=>aU.aT m ⟨ab,?_⟩
  refine dP (vs:=m.cells) rfl (aU.single _) λbr ck bN P c=>⟨_,_,_,(f.bK c).ak.cell (i:=6) rfl,?_⟩
  have ca:=c.size;rw[bq (x:=(i:Int)+1) (by omega) (by omega)];refine a5 (λhw=>?_) (λhw=>?_)
  ·have O:j.writes≠[]:=λe=>by grind
   obtain⟨_,aM⟩:=S.wr O;refine aU.aT m ⟨bJ P rfl,?_⟩;refine aE (EO (f.bK c) bQ H) ?_;rintro v cC ⟨g2,gc,rfl,aV,h⟩;refine⟨_,_,_,rfl,?_⟩;have L:∀ k,aP a2 k->k<ck.heap.size:=λk U=>by obtain⟨s,K,_⟩:=a.ex;have:=K.lt U;omega
   refine bO.uQ ((a.new c).new h) ((d.new c).new h) aV L (by omega) (by omega) λap a1 bm bL J C=>?_
   have I:ff w0 bm a0 tb r bP j:=((f.bK c).bK h).aC J λk U=>by
    have cr:=a.gB k U;have bH:=w.new.size;refine⟨by omega,λe=>?_⟩
    obtain⟨s,K,_⟩:=a.ex;obtain⟨cs,ae⟩:=gj K U;exact b_ (e▸ae |>.ne f.ak (by decide)) (λbX=>bX rfl)
   have Q:aq bm br m.cells eF:=J.ak (ai.ak h P) λe=>by obtain⟨s,K,_⟩:=a.ex;have:=K.lt e;omega
   refine aU.aT m ⟨bJ Q rfl,?_⟩;refine aE (EN I aM H) ?_;rintro v cD ⟨cj,rfl,aR,aB⟩;refine aI.aT cj ⟨rfl,?_⟩;rintro cm cG Y aZ;refine bO.lX bL C aB aR (by omega) Y aZ λV E cH a4 bY aL=>?_
   have W:((j.v.mem.tail.take i).map (j3 j)).flatten++j.writes.map (jy j m)++[lA j m]=((j.v.mem.tail.take (i+1)).map (j3 j)).flatten:=by
    rw[F];unfold j3
    grind
   rw[W]at a4;exact⟨j.v.mem.tail.length-(i+1),by omega,i+1,_,V,E,_,rfl,by omega,rfl,aL,a4⟩
  ·have O:j.writes=[]:=hh (by omega);refine⟨j.v.mem.tail.length-(i+1),by omega,i+1,n,a2,pc,_,rfl,by omega,rfl,d.new c,?_⟩;have W:j3 j m=[]:=by unfold j3;grind
   rw[F,W,lE];exact a.new c
 ·have ag:i=j.v.mem.tail.length:=by omega
  subst ag;rw[UQ];rw[jC]at a;have a:bO b3 z a2 n pc (qy j):=a;have bh:=a.len;have p:=(B.new g).new d;have y:=r2 (A:=A) f (a7.new p) ad w.new (w1:=b3) (by omega) a (by omega) 3;refine aE y ?_;rintro v ch ⟨dB,dc,raw,rfl,M,_⟩;refine⟨_,_,_,bG.aT ⟨(oa j G).out.1,(oa j G).out.2⟩ ⟨(oa j G).ok,rfl,?_⟩⟩;have aW:aq ch b1 (bG.cells ⟨0,0⟩) eQ:=M.aC.ak (ai.ak (g.new d) l) (by omega);refine Gt aW rfl _ λcy cA C ah=>⟨rfl,M.put p C ah (by omega) (by omega) (by omega) (by omega)⟩
end
section
theorem aq.get {i:Nat}{T:bU}{v:bl}(h:aq w b cs T)(a:w.cell? ⟨b,i,none⟩=some v):cs[i]?=some v:=by
 unfold World.cell? at a;simp only[show w.heap[(⟨b,i,none⟩:aw).block]?=_ from h]at a
 grind
theorem bO.TV {vs:bu}(h:bO w0 u a n cap vs){o:bG}(z:aq u b o.cells eQ)(p:ao (λk=>k=b) u bF):bO w0 bF a n cap vs:=by
 obtain⟨⟨l,A,ar⟩,G,F⟩:=h;have q:¬ aP a b:=λe=>by obtain⟨cs,r⟩:=gj A e;exact r.ne z (by decide) rfl
 refine⟨⟨l,A.aC p λk p e=>q (e▸p),ar.1,λi v x f D=>?_⟩,G,F⟩;have c:=ar.2 i v x f D;have s:cQ (λk=>k=b\/(k<w0.heap.size\/aP a k)) u v x:=by
  refine⟨c.eq,c.rd,c.nil,?_,c.wf,c.new,c.old,c.key,c.eS,c.cap,c.kM⟩;by_cases he:x.words=[]
  ·grind
  ·right;have d:=c.off.resolve_left he;have g:=c.rd;cases hw:v.Words with
   |none=>trivial
   |some H=>
    rw[hw]at d g;rintro(e | e)
    ·obtain⟨y,ys,j⟩:=rE he;rcases g with B | ⟨b',C,t,E⟩
     ·rw[j]at B;cases B
     ·simp only[hA]at t;subst t;have e:b'=b:=e;subst e;have w:=E 0 (.int .u64 y) (by rw[j];rfl);rw[m1]at w;have f:=aq.get z w;rcases C with _ | _ | C
      ·cases f
      ·cases f
      ·cases f
    ·exact d e
 exact(s.aC (p.mono λk _ e=>.inl e) λ_ _ e=>e).mono λk e=>.inr e
theorem gH.VY {b3 i:aj}{B':Nat}{R:cq}(h:gH A w0 bp tb B R b3)(s:ai u bp)(a:ai b3 bz){o:bG}(t:aq bz b o.cells eQ)(d:ao (λk=>k=b) bz i)(z:u.heap.size<=b)(c:b≠tb)(y:B'<=B):gH A w0 u tb B' R i:=by
 obtain⟨f,j,w,hw,g⟩:=h;refine⟨(((ao.b7 s).trans f λ_ _ e=>e).new a).trans d λk r e=>by omega,j,(w.new a).aC d λe=>c e.symm,hw,?_⟩;cases q:R.ask with
 |none=>grind
 |some vs=>rw[q]at g;obtain⟨l,w1,n,x,p⟩:=g;exact⟨l,w1,n,by omega,(p.new a).TV t d⟩
def km (M:a6)(w:aj)(a:an)(n:Nat)(vs:bu):Prop:=∃ b:List aI,bh w a (dQ b).flatten/\er M w b vs/\n=vs.length
theorem km.new {M:a6}{w w':aj}{a:an}{n:Nat}{vs:bu}(h:km M w a n vs)(c:ai w w'):km M w' a n vs:=by obtain⟨b,d,f,g⟩:=h;exact⟨b,d.new c,f.aC (ao.b7 c) λ_ _ e=>e,g⟩
theorem bO.h3 {vs:bu}(h:bO w0 u a n cap vs)(d:∀ k,k<u.heap.size->M k->k<w0.heap.size):km M u a n vs:=by obtain⟨⟨b,g,ar⟩,f,i⟩:=h;exact⟨b,g.rd,ar.aC (ao.refl _ _) λk c e=>.inl (d k c e),f⟩
theorem km.wide {M':a6}{vs:bu}(h:km M w a n vs)(c:ai w w')(j:∀ k,k<w.heap.size->M' k->M k):km M' w' a n vs:=by obtain⟨b,d,f,g⟩:=h;refine⟨b,d.new c,?_,g⟩;have i:er M' w b vs:=f.aC (ao.refl _ _) j;exact i.aC (ao.b7 c) λ_ _ e=>e
theorem bO.GX {vs s:bu}(h:bO w0 bp a n cap vs)(w:ai w0 bp)(A:km (λk=>k<w0.heap.size\/aP a k) bp b8 fB s)(I:n+fB<=100000)
  (x:∀ ap d i,bO w0 i ap (n+fB) d (vs++s)->ao (aP a) bp i->ai w0 i->K ap (n+fB) d i) :
  ∃ (ap:an) (c b:Nat),∃ i,(Builtin.append_ #[gy,gy] gy #[(.slice a n cap),(.slice b8 fB ig)]).run prog bp=.ok (.slice ap c b) i/\K ap c b i:=by
 obtain⟨⟨o,L,u⟩,J,D⟩:=h;obtain⟨f,G,j,F⟩:=A;obtain⟨inf,E,ax,r,C⟩:=ft (T:=cK) (z:=.agg #[.int .i64 0,.int .i64 0,.int .i64 0,.int .i64 0,.int .u64 0,.int .u64 0,.slice none 0 0,.int .u64 0,.int .i64 0]) (n:=9) (m:=88) (by kernel_rfl);have H:=w.size;refine qn (cells:=aI.cells) (sz:=9) aI.len aI.single Tryz.underlying125 E ax (by rw[r];rfl) r (by decide) (by grind) (l:=o) (by grind[v7]) (l2:=f) (m:=fB) (by grind[v7]) (by rw[j.1];grind) (by omega) λap d i y g B=>?_
 have p:∀ k,aP ap k->w0.heap.size<=k:=λk x=>by
  grind
 have q:∀ k,k<bp.heap.size->(k<w0.heap.size\/aP ap k)->(k<w0.heap.size\/aP a k):=λk t e=>e.imp id λe=>by
  grind
 exact x ap d i ⟨⟨o++f,y,er.app (u.aC (g.mono λk _ e=>.inr e) q) (j.aC (g.mono λk _ e=>.inr e) q)⟩,by grind,p⟩ g (w.trans g λk t e=>by grind)
theorem bO.box {v:aI}{x:bE}(h:ai bz w)(ar:cQ (λk=>k<bz.heap.size) w v x)(d:b=w.heap.size)(hw:w'=w.alloc (.cells v.cells.toArray cK)):bO bz w' (some ⟨b,0,none⟩) 1 1 [x]/\ai w w':=by
 obtain⟨ax,a⟩:=bo d hw;have ax:aq w' b v.cells cK:=ax;have j:=h.size;refine⟨⟨⟨[v],⟨rfl,.inr ⟨b,_,rfl,ax,by omega,by decide,rfl,by rw[show(dQ [v]).flatten=v.cells by simp[dQ]];rfl⟩⟩,er.one ?_⟩,rfl,λk f=>by obtain⟨o,i⟩:=f;grind⟩,a⟩;have c:cQ (λk=>k<bz.heap.size\/aP (some ⟨b,0,none⟩) k) w v x:=ar.aC (ao.refl _ _) λk g e=>by
  rcases e with e | ⟨o,i⟩
  ·exact e
  grind
 exact c.aC (ao.b7 a) λ_ _ e=>e
def hW (j:cJ):bu:=match j.v.mem with
 |m::_=>lA j m::j.writes.map (jy j m)
 | []=>[]
def nB (j:cJ)(G:bn):cq:=if j.writes=[]then sd G else cm G (hW j) 3
structure FS (A:a6)(w0 bz:aj)(a0 tb b1:Nat)(r:cE)(bP:aU)(j:cJ)(T:eG)(G:bn)(w:aj):Prop where
 du:ff w0 w a0 tb r bP j
 fN:eJ A w0 w tb T G
 b1:aq w b1 (bG.cells ⟨0,0⟩) eQ
 new:ai bz w
theorem FS.bK {A:a6}{w0 bz w w':aj}{a0 tb b1:Nat}{r:cE}{bP:aU}{j:cJ}{T:eG}{G:bn}(h:FS A w0 bz a0 tb b1 r bP j T G w)(a:ai w w'):FS A w0 bz a0 tb b1 r bP j T G w':=
 ⟨h.du.bK a,h.fN.new a,ai.ak a h.b1,h.new.new a⟩
theorem FS.aC {A:a6}{w0 bz w w':aj}{a0 tb b1:Nat}{r:cE}{bP:aU}{j:cJ}{T:eG}{G:bn}(h:FS A w0 bz a0 tb b1 r bP j T G w){M:a6}(a:ao M w w')(d:∀ k,M k->bz.heap.size<=k)(g:a0<bz.heap.size)(i:tb<bz.heap.size)(f:b1<bz.heap.size)(c:w0.heap.size<=bz.heap.size):FS A w0 bz a0 tb b1 r bP j T G w':=
 ⟨h.du.aC a λk e=>by grind,h.fN.aC a λe=>by grind,a.ak h.b1 λe=>by grind,h.new.trans a λk b e=>by grind⟩
section
variable {A:a6}{w0 u bz:aj}{a0 tb b1:Nat}{r:cE}{bP:aU}{j:cJ}{T:eG}{G:bn}
theorem Rx (J:ai u bz)(U:a0<bz.heap.size)(S:tb<bz.heap.size)(L:b1<bz.heap.size)(M:u.heap.size<=b1)(C:b1≠tb)(F:ai w0 bz)(D:f8 T){R:bg}(K:∀ v w',kk A w0 u tb u.heap.size (cm G (hW j) 3) v w'->R v w'){w:aj}(f:FS A w0 bz a0 tb b1 r bP j T G w){a:an}{n cap:Nat}(ar:bO bz w a n cap (hW j))(V:n<=100000) :
  Calls prog 213 #[(.pointer (some ⟨a0,0,none⟩)),(.slice a n cap),(.int .i64 3)] w λe p=>∃ (k:an) (l m:Nat),bG.ex λz=>∃ (n:Bool),e=.returned (.tuple #[(.slice k l m),z.val,(.bool n)])/\aq p a0 (lS r tb bP) mn/\∀ i q,i=p.heap.size->q=p.alloc (.cells #[(.int .i64 0),(.int .i64 0)] eQ)->aq q a0 (lS r tb bP) mn/\dT q ⟨i,0,none⟩ 0 z.cells/\∀ cz,cz=cv q ⟨i,0,none⟩ 0 z.cells->bG.ex λr=>b6 cz ⟨i,0,none⟩ 0 r.cells/\dT cz ⟨b1,0,none⟩ 0 r.cells/\∀ o,o=cv cz ⟨b1,0,none⟩ 0 r.cells->bG.ex λig=>b6 o ⟨b1,0,none⟩ 0 ig.cells/\o=o/\R (.tuple #[ig.val,(.bool n)]) o:=by
 have d:=r2 (A:=A) f.du f.fN D F S ar (by have:=ar.len;omega) 3;refine aE d ?_;rintro v p ⟨dB,dc,raw,rfl,b,_⟩;refine⟨_,_,_,bG.aT ⟨(cm G (hW j) 3).out.1,(cm G (hW j) 3).out.2⟩ ⟨_,rfl,?_⟩⟩;have c:aq p a0 (lS r tb bP) mn:=b.aC.ak f.du.ak f.du.ne;refine⟨c,?_⟩;rintro i q B y;obtain⟨h,g⟩:=bo B y;have h:aq q i (bG.cells ⟨0,0⟩) eQ:=h;clear y;have P:=b.aC.size;have Q:=f.new.size;have O:=J.size;refine⟨ai.ak g c,dI h rfl (bG.single _) λcz H t=>bG.aT _ ⟨bJ H rfl,?_⟩⟩;have s:aq cz b1 (bG.cells ⟨0,0⟩) eQ:=t.ak (ai.ak g (b.aC.ak f.b1 C)) (by omega);refine dI s rfl (bG.single _) λo I E=>bG.aT _ ⟨bJ I rfl,rfl,K _ _ ⟨rfl,?_⟩⟩
 have x:ai p cz:=g.trans t λk N e=>by omega
 exact b.put (J.new f.new) x E (by omega) L (by omega) (by omega)
theorem Tn (E:ai u bz)(P:a0<bz.heap.size)(N:tb<bz.heap.size)(H:b1<bz.heap.size)(J:u.heap.size<=b1)(t:b1≠tb)(z:ai w0 bz)(x:f8 T){R:bg}(F:∀ v w',kk A w0 u tb u.heap.size (cm G (hW j) 3) v w'->R v w'){w:aj}(f:FS A w0 bz a0 tb b1 r bP j T G w){a:an}{n cap:Nat}(ar:bO bz w a n cap (hW j))(Q:n<=100000){g:Nat}(D:aq w g (bG.cells ⟨0,0⟩) eQ)(I:bz.heap.size<=g) :
  Calls prog 213 #[(.pointer (some ⟨a0,0,none⟩)),(.slice a n cap),(.int .i64 3)] w λe q=>∃ (k:an) (l m:Nat),bG.ex λs=>∃ (n:Bool),e=.returned (.tuple #[(.slice k l m),s.val,(.bool n)])/\aq q a0 (lS r tb bP) mn/\dT q ⟨g,0,none⟩ 0 s.cells/\∀ cz,cz=cv q ⟨g,0,none⟩ 0 s.cells->bG.ex λr=>b6 cz ⟨g,0,none⟩ 0 r.cells/\dT cz ⟨b1,0,none⟩ 0 r.cells/\∀ h,h=cv cz ⟨b1,0,none⟩ 0 r.cells->bG.ex λig=>b6 h ⟨b1,0,none⟩ 0 ig.cells/\h=h/\R (.tuple #[ig.val,(.bool n)]) h:=by
 have d:=r2 (A:=A) f.du f.fN x z N ar (by have:=ar.len;omega) 3;refine aE d ?_;rintro v O ⟨dB,dc,raw,rfl,b,_⟩;refine⟨_,_,_,bG.aT ⟨(cm G (hW j) 3).out.1,(cm G (hW j) 3).out.2⟩ ⟨_,rfl,?_⟩⟩;have L:=b.aC.size;have M:=f.new.size;have K:=E.size;have c:aq O g (bG.cells ⟨0,0⟩) eQ:=b.aC.ak D (by omega);refine⟨b.aC.ak f.du.ak f.du.ne,dI c rfl (bG.single _) λcz B o=>bG.aT _ ⟨bJ B rfl,?_⟩⟩;have i:aq cz b1 (bG.cells ⟨0,0⟩) eQ:=o.ak (b.aC.ak f.b1 t) (by omega);refine dI i rfl (bG.single _) λh C y=>bG.aT _ ⟨bJ C rfl,rfl,F _ _ ⟨rfl,?_⟩⟩
 have p:=b.VY (u:=u) (B':=bz.heap.size) (E.new f.new) (ao.refl _ _) c o (by omega) (by omega) (dr _);exact p.put (ao.refl _ _) (ao.refl _ _) y (by omega) H (by omega) (by omega)
theorem Ob (a5:ff w0 u a0 tb r bP j)(dz:o8 j)(da:eJ A w0 u tb T G)(bV:f8 T) :
  a9 176 [ptr a0] u (kk A w0 u tb u.heap.size (nB j G)):=by
 refine a' Tryz.func176 ?_;rw[ptr,XI];rintro b1 bp cG cr;obtain⟨bh,a7⟩:=bo cG cr;have bh:aq bp b1 (bG.cells ⟨0,0⟩) eQ:=bh;clear cr;have cj:=a5.bK a7;have ch:=da.new a7;have hlen:=a5.job.bT.len;have cX:=a7.size;have cN:=bh.lt;have dF:=da.ak.lt;have dh:=a5.ak.lt;have cL:=a5.ct;have dA:=cL.tq;have cO:=a5.mem;have dD:=cL.eS bP (cu cO);have bH:eb bP.cB:=by grind[eb]
 have cb:hW j=[lA j bP]++j.writes.map (jy j bP):=by
  grind[hW]
 unfold nB;refine⟨_,_,_,cj.ak.cell (i:=6) rfl,dJ (λe=>?_) (λe=>?_)⟩
 ·have bx:j.writes=[]:=hh (by omega);rw[bm bx];exact my bh rfl 0 0 λdQ cM=>⟨rfl,(gH.skip (B:=bp.heap.size) ch bV (ao.refl _ _)).put a7 (ao.refl _ _) cM (by omega) cN (by omega) cX⟩
 ·have bx:j.writes≠[]:=λdM=>by grind
  rw[aW bx];obtain⟨_,cZ⟩:=cL.wr bx;rintro bz cv;have a8:ai bp bz:=by rw[cv];exact cC _
  clear cv;have cd:=a7.new a8;have dE:=a8.size;have br:FS A w0 bz a0 tb b1 r bP j T G bz:=⟨cj.bK a8,ch.new a8,ai.ak a8 bh,ao.refl _ _⟩;have b5:=br.du.new;have dm:=b5.size;have so:=@Rx A w0 u bz a0 tb b1 r bP j T G cd (by omega) (by omega) (by omega) (by omega) (by omega) b5 bV (kk A w0 u tb u.heap.size (cm G (hW j) 3)) (λ_ _ h=>h);have Q:=@Tn A w0 u bz a0 tb b1 r bP j T G cd (by omega) (by omega) (by omega) (by omega) (by omega) b5 bV (kk A w0 u tb u.heap.size (cm G (hW j) 3)) (λ_ _ h=>h);have app:∀ {w:aj} {az:Nat} {d:an} {n g:Nat},FS A w0 bz a0 tb b1 r bP j T G w->bO bz w (some ⟨az,0,none⟩) 1 1 [lA j bP]->n=j.writes.length->km (λk=>k<bz.heap.size\/aP (some ⟨az,0,none⟩) k) w d n (j.writes.map (jy j bP))->∀ {K:an->Nat->Nat->aK},(∀ ap m c w',FS A w0 bz a0 tb b1 r bP j T G w'->bO bz w' ap m c (hW j)->m<=100000->ao (aP (some ⟨az,0,none⟩)) w w'->K ap m c w')->
    ∃ (ap:an) (h i:Nat),∃ aR,(Builtin.append_ #[gy,gy] gy #[(.slice (some ⟨az,0,none⟩) 1 1),(.slice d n g)]).run prog w=.ok (.slice ap h i) aR/\K ap h i aR:=by
   intro w az d n g aM cA bs cS K cf;refine bO.GX cA aM.new cS (by omega) λap ca dG c_ N x=>?_
   rw[<-cb]at c_;exact cf ap _ ca dG (aM.aC N (λk dk=>cA.gB k dk) (by omega) (by omega) (by omega) (by omega)) c_ (by omega) N
  have I:∀ {w w':aj} {b:Nat},FS A w0 bz a0 tb b1 r bP j T G w->b=w.heap.size->w'=w.alloc (.cells #[(.int .i64 0),(.int .i64 0)] eQ)->FS A w0 bz a0 tb b1 r bP j T G w'/\ai w w'/\aq w' b (bG.cells ⟨0,0⟩) eQ/\bz.heap.size<=b:=by intro w w' b aM dy hw;obtain⟨ax,bs⟩:=bo dy hw;have:=aM.new.size;exact⟨aM.bK bs,bs,ax,by omega⟩
  have cU:∀ {w:aj} {K:Ending->aK},FS A w0 bz a0 tb b1 r bP j T G w->(∀ (bD:aI) w',FS A w0 bz a0 tb b1 r bP j T G w'->ai w w'->cQ (λk=>k<bz.heap.size) w' bD (lA j bP)->K (.returned bD.val) w')->Calls prog 218 #[(.pointer (some ⟨a0,0,none⟩)),bP.val] w K:=by intro w K aM cf;refine aE (EN aM.du cZ bH) ?_;rintro v w' ⟨bD,rfl,b4,bs⟩;have:=aM.new.size;exact cf bD w' (aM.bK bs) bs (b4.mono λk dk=>by omega)
  have ae:∀ {w:aj} {K:Ending->aK},FS A w0 bz a0 tb b1 r bP j T G w->(∀ (a:an) (c:Nat) w',FS A w0 bz a0 tb b1 r bP j T G w'->ai w w'->bO w w' a j.writes.length c (j.writes.map (jy j bP))->K (.returned (.slice a j.writes.length c)) w')->Calls prog 217 #[(.pointer (some ⟨a0,0,none⟩)),bP.val] w K:=by intro w K aM cf;refine aE (EO aM.du dz bH) ?_;rintro v w' ⟨a,c,rfl,b4,bs⟩;exact cf a c w' (aM.bK bs) bs b4
  have bq:∀ {w:aj} {az k:Nat},az<w.heap.size->(k<bz.heap.size\/aP (some ⟨az,0,none⟩) k)->bz.heap.size<=w.heap.size->k<w.heap.size:=by
   intro w az k dN dw dP;rcases dw with e | ⟨o,ah⟩
   ·omega
   grind
  have s:∀ {w:aj} {az n c:Nat} {vs:bu},bO bz w (some ⟨az,0,none⟩) n c vs->az<w.heap.size:=by intro w az n c vs h;obtain⟨dn,ah,_⟩:=h.ex;exact ah.lt ⟨0,rfl⟩
  refine⟨λy=>aq y a0 (lS r tb bP) mn,br.du.ak,aU.aT bP ⟨λy c1=>bJ c1 rfl,aU.aT bP ⟨λy c1=>bJ c1 rfl,?_⟩⟩⟩;refine⟨cU br λbD dH E cl ab=>aI.aT bD ⟨rfl,E.du.ak,?_,?_,?_⟩,?_⟩
  ·
   rintro az dp aV bb;obtain⟨t,Z⟩:=bO.box E.new ab aV bb;have J:=E.bK Z;have aB:=J.new.size;have ag:=s t;refine⟨J.du.ak,?_,?_⟩
   ·refine ae J λd c b_ l p z=>⟨_,_,_,rfl,l.du.ak,?_,?_⟩
    ·refine app l (t.new p) rfl (z.h3 λk _ e=>bq ag e aB) λap m bk aR f P O _=>⟨f.du.ak,so f P O,?_⟩
     rintro dr dv bQ bR;obtain⟨q,F,L,R⟩:=I f bQ bR;exact⟨q.du.ak,Q q (P.new F) O L R⟩
    ·rintro c6 c9 S a4;obtain⟨q,F,L,R⟩:=I l S a4;refine⟨q.du.ak,?_⟩;have cY:=p.size;refine app q (t.new (p.new F)) rfl ((z.h3 λk _ e=>bq ag e aB).new F) λap m bk aR f P O N=>⟨f.du.ak,Q f P O (N.ak L λe=>?_) R⟩
     obtain⟨o,ah⟩:=e
     grind
   ·rintro dI dK cH cK;obtain⟨q,F,L,R⟩:=I J cH cK;have cY:=F.size;have cD:=L.lt;refine⟨q.du.ak,ae q λd c b_ l p z=>⟨_,_,_,rfl,l.du.ak,?_⟩⟩;refine app l (t.new (F.new p)) rfl (z.h3 λk _ e=>by grind) λap m bk aR f P O N=>⟨f.du.ak,Q f P O (N.ak (ai.ak p L) λe=>?_) R⟩
    grind
  ·
   refine ae E λd c b_ l p z=>⟨_,_,_,rfl,l.du.ak,?_,?_⟩
   ·rintro bL bN V W;obtain ⟨D,x⟩:=bO.box l.new (ab.aC (ao.b7 p) λ_ _ e=>e) V W;have f:=l.bK x;have bX:=E.new.size;have bY:=l.new.size;have H:km (λk=>k<bz.heap.size\/aP (some ⟨bL,0,none⟩) k) bN d j.writes.length (j.writes.map (jy j bP)):=(z.h3 (M:=λk=>k<bz.heap.size) λk _ e=>by omega).wide x λk bW e=>by
     rcases e with e | ⟨o,ah⟩
     ·exact e
     grind
    refine⟨f.du.ak,?_,?_⟩
    ·refine app f D rfl H λap m bk aR q cx ck _=>⟨q.du.ak,so q cx ck,?_⟩
     rintro dr dv bQ bR;obtain⟨C,cP,c5,aZ⟩:=I q bQ bR;exact⟨C.du.ak,Q C (cx.new cP) ck c5 aZ⟩
    ·rintro c6 c9 S a4;obtain⟨q,F,L,R⟩:=I f S a4;refine⟨q.du.ak,?_⟩;have df:=s D;refine app q (D.new F) rfl (H.new F) λap m bk aR C ad Y X=>⟨C.du.ak,Q C ad Y (X.ak L λe=>?_) R⟩
     obtain⟨o,ah⟩:=e
     grind
   ·rintro c6 c9 S a4;obtain ⟨q,F,L,R⟩:=I l S a4;refine ⟨q.du.ak,?_⟩;rintro bL bN V W;obtain ⟨D,x⟩:=bO.box q.new (ab.aC (ao.b7 (p.new F)) λ_ _ e=>e) V W;have f:=q.bK x;have bX:=E.new.size;have bY:=l.new.size;have cD:=L.lt;have H:km (λk=>k<bz.heap.size\/aP (some ⟨bL,0,none⟩) k) bN d j.writes.length (j.writes.map (jy j bP)):=((z.h3 (M:=λk=>k<bz.heap.size) λk _ e=>by omega).new F).wide x λk bW e=>by
     rcases e with e | ⟨o,ah⟩
     ·exact e
     grind
    refine⟨f.du.ak,?_⟩;refine app f D rfl H λap m bk aR C ad Y X=>⟨C.du.ak,Q C ad Y (X.ak (ai.ak x L) λe=>?_) R⟩
    obtain⟨o,ah⟩:=e
    grind
  ·
   rintro dt dq aZ b6;obtain⟨U,cq,aL,a1⟩:=I E aZ b6;have cy:cQ (λk=>k<bz.heap.size) dq bD (lA j bP):=ab.aC (ao.b7 cq) λ_ _ e=>e
   refine⟨U.du.ak,?_⟩;refine⟨?_,?_⟩
   ·rintro az dp aV bb;obtain⟨t,Z⟩:=bO.box U.new cy aV bb;have J:=U.bK Z;have aB:=J.new.size;have ag:=s t;have b9:=aL.lt;refine⟨J.du.ak,ae J λd c b_ l p z=>⟨_,_,_,rfl,l.du.ak,?_⟩⟩;refine app l (t.new p) rfl (z.h3 λk _ e=>bq ag e aB) λap m bk aR f P O N=>⟨f.du.ak,Q f P O (N.ak (ai.ak (Z.new p) aL) λe=>?_) a1⟩
    obtain⟨o,ah⟩:=e
    grind
   ·refine ae U λd c b_ l p z=>⟨_,_,_,rfl,l.du.ak,?_⟩
    rintro bL bN V W;obtain⟨D,x⟩:=bO.box l.new (cy.aC (ao.b7 p) λ_ _ e=>e) V W;have f:=l.bK x;have bX:=U.new.size;have bY:=p.size;have b9:=aL.lt;have H:km (λk=>k<bz.heap.size\/aP (some ⟨bL,0,none⟩) k) bN d j.writes.length (j.writes.map (jy j bP)):=(z.h3 (M:=λk=>k<bz.heap.size) λk _ e=>by omega).wide x λk bW e=>by
     rcases e with e | ⟨o,ah⟩
     ·exact e
     grind
    refine⟨f.du.ak,?_⟩;refine app f D rfl H λap m bk aR C ad Y X=>⟨C.du.ak,Q C ad Y (X.ak (ai.ak (p.new x) aL) λe=>?_) a1⟩
    obtain⟨o,ah⟩:=e
    grind
  ·rintro dt dq aZ b6;obtain⟨U,cq,aL,a1⟩:=I br aZ b6;refine⟨U.du.ak,cU U λbD dH E cl ab=>aI.aT bD ⟨rfl,E.du.ak,?_⟩⟩;have af:=ai.ak cl aL;refine⟨?_,?_⟩
   ·rintro az dp aV bb;obtain⟨t,Z⟩:=bO.box E.new ab aV bb;have J:=E.bK Z;have aB:=J.new.size;have ag:=s t;have b9:=af.lt;refine⟨J.du.ak,ae J λd c b_ l p z=>⟨_,_,_,rfl,l.du.ak,?_⟩⟩;refine app l (t.new p) rfl (z.h3 λk _ e=>bq ag e aB) λap m bk aR f P O N=>⟨f.du.ak,Q f P O (N.ak (ai.ak (Z.new p) af) λe=>?_) a1⟩
    obtain⟨o,ah⟩:=e
    grind
   ·refine ae E λd c b_ l p z=>⟨_,_,_,rfl,l.du.ak,?_⟩
    rintro bL bN V W;obtain⟨D,x⟩:=bO.box l.new (ab.aC (ao.b7 p) λ_ _ e=>e) V W;have f:=l.bK x;have bX:=E.new.size;have bY:=p.size;have b9:=af.lt;have H:km (λk=>k<bz.heap.size\/aP (some ⟨bL,0,none⟩) k) bN d j.writes.length (j.writes.map (jy j bP)):=(z.h3 (M:=λk=>k<bz.heap.size) λk _ e=>by omega).wide x λk bW e=>by
     rcases e with e | ⟨o,ah⟩
     ·exact e
     grind
    refine⟨f.du.ak,?_⟩;refine app f D rfl H λap m bk aR C ad Y X=>⟨C.du.ak,Q C ad Y (X.ak (ai.ak (p.new x) af) λe=>?_) a1⟩
    obtain⟨o,ah⟩:=e
    grind
end
end
section
open IntKind
variable (w:aj)(R:bg){a b c d e f g h:Nat}{A B:aw}{s t u v:an}{i k:Int}{j:al}{F:Bool}
def xV (e s2:aw)(n:an)(a b:Nat)(o:an)(c d:Nat)(p:an)(f g:Nat)(h:an)(i k:Nat)(l m:Int)(j:al):al:=.pointer (some e)::ae j 0 1 (.pointer (some s2)::ae j 1 1 (af n a b::af o c d::af p f g::ae j 2 15 (af h i k::ab l::ab m::ae j 17 130 [])))
def Hz (a b:aw)(e:an)(c d:Nat)(k:an)(f g:Nat)(l:an)(h i:Nat)(j:al):al:=.pointer (some a)::ae j 0 1 (.pointer (some b)::ae j 1 1 (af e c d::af k f g::af l h i::ae j 2 148 []))
def xW (e s2:aw)(n:an)(a b:Nat)(o:an)(c d:Nat)(p:an)(f g:Nat)(h:an)(i k:Nat)(l m:Int)(j:al):al:=.pointer (some e)::ae j 0 1 (.pointer (some s2)::ae j 1 1 (af n a b::af o c d::af p f g::ae j 2 57 (af h i k::ab l::ab m::ae j 59 88 [])))
def BD (a b:aw)(e:an)(c d:Nat)(k:an)(f g:Nat)(l:an)(h i:Nat)(j:al):al:=.pointer (some a)::ae j 0 1 (.pointer (some b)::ae j 1 1 (af e c d::af k f g::af l h i::ae j 2 148 []))
def sA (e s2:aw)(o:an)(a b:Nat)(p:an)(c d:Nat)(q:an)(f g:Nat)(h:Bool)(i:an)(k l:Nat)(m n:Int)(j:al):al:=.pointer (some e)::ae j 0 1 (.pointer (some s2)::ae j 1 1 (af o a b::af p c d::af q f g::ae j 2 7 (ad h::ae j 9 84 (af i k l::ab m::ab n::ae j 93 53 []))))
def BE (a b:aw)(e:an)(c d:Nat)(f:Bool)(j:al):al:=.pointer (some a)::ae j 0 1 (.pointer (some b)::ae j 1 2 (af e c d::ae j 3 8 (ad f::ae j 11 140 [])))
theorem Yb:bc prog f173 [bb a] R w=(aR w #[ab 0,ab 0] 171 λf e=>bY e (ah a 6) λd b c=>cj prog (cN f173 [1,1,1,0,1,0,0]) (xV (ah a 0) (ah f 0) none 0 0 none 0 0 none 0 0 d b c (b:Nat) 0 (undef::ad false::a1 11 (jp (ah a 0)::jp (ah a 0)::jp (ah a 0)::jp (ah a 6)::a1 130 []))) (aL 0 (aS f173 [1,1,1,1] R)) e):=by kernel_rfl
theorem UR (O:al->aK):W prog (sb f173 [1,1,1,0,1,0,0]) (xV A B s a b t c d u e f v g h i k j) (aM O (aL 0 (aS f173 [1,1,1,1] R))) w=(cond (k<i) (bk v g k 9 λM=>hJ w M λr=>aR w #[ab 0,ag 0,ag 0,ag 0,ag 0,ag 0,ag 0,ag 0,ag 0] 73 λD ao=>a8 ao (ah D 0) 0 r.cells λZ=>ck Z λU C=>rh C (ah D 0) λI=>cA C A λn=>g6 211 #[I.val,ab n] U λo p X=>ck X λaq F=>hf F (br A 8) λQ=>cA F (ah D 0) λq=>hd F (ah D 1) λl=>cx 108 #[ab q] aq λm S=>F S/\eH 212 #[.pointer (some A),Q.val,.agg #[ab 3,ab 0,ab m,ab 0,ag l,ag o,a4,ag 0,ab 0]] S λJ K=>F K/\aR K J.cells.toArray 158 λP N=>F N/\da 125 (af s a b) (af (bs P) 1 1) N λG E x H=>F H/\dp H (ah D 1) λy=>aR H #[ag y] 30 λL Y=>da 94 (af u e f) (af (bs L) 1 1) Y λz T V bf=>O (xV A B G E x t c d z T V v g h i (i64.wrap (k+1)) (aB j 0::aB j 1::aB j 2::jp (ah D 0)::ag o::ab p::ae j 6 11 (ad (k<i)::jp M::r.val::.tuple #[ag o,ab p]::I.val::jp A::jp A::jp A::jp A::ab n::.tuple #[ag o,ab p]::ag o::ab p::af s a b::jp A::jp A::jp A::a7 A 8::Q.val::jp (ah D 0)::ab q::ab m::jp (ah D 1)::ag l::ag o::.agg #[ab 3,ab 0,ab m,ab 0,ag l,ag o,a4,ag 0,ab 0]::J.val::af (bs P) 1 1::af G E x::af u e f::jp (ah D 1)::ag y::af (bs L) 1 1::af z T V::ab (i64.wrap (k+1))::ae j 52 95 []))) bf) (W prog (sb f173 [1,1,1,1]) (Hz A B s a b t c d u e f (ae j 0 17 (af v g h::ab i::ab k::ad (k<i)::ae j 18 129 []))) (bV f173 R) w)):=by kernel_rfl
theorem VF:W prog (sb f173 [1,1,1,1]) (Hz A B s a b t c d u e f j) (bV f173 R) w=(bY w (br A 5) λk l m=>cj prog (cN f173 [1,1,1,1,0,1,0,0]) (xW A B s a b t c d u e f k l m (l:Nat) 0 (ae j 0 55 (jp A::jp A::jp A::a7 A 5::ae j 62 88 []))) (aL 2 (aS f173 [1,1,1,1,1] R)) w):=by kernel_rfl
theorem US (K:al->aK):W prog (sb f173 [1,1,1,1,0,1,0,0]) (xW A B s a b t c d u e f v g h i k j) (aM K (aL 2 (aS f173 [1,1,1,1,1] R))) w=(cond (k<i) (bk v g k 2 λN=>B1 w N λr=>aR w #[ab 0,ag 0] 274 λC S=>a8 S (ah C 0) 0 r.cells λP=>ck P λQ D=>hf D (br A 8) λy=>cA D (ah C 0) λn=>cx 108 #[ab n] Q λo H=>D H/\eH 212 #[.pointer (some A),y.val,.agg #[ab 1,ab 0,ab o,ab 1,ag 0,ag 0,a4,ag 0,ab 0]] H λz L=>D L/\aR L z.cells.toArray 158 λbf I=>D I/\da 125 (af s a b) (af (bs bf) 1 1) I λF p q G=>D G/\dp G (ah C 1) λl=>aR G #[ag l] 30 λM T=>da 94 (af u e f) (af (bs M) 1 1) T λm E x O=>K (xW A B F p q t c d m E x v g h i (i64.wrap (k+1)) (ae j 0 7 (jp (ah C 0)::ae j 8 51 (ad (k<i)::jp N::r.val::af s a b::jp A::jp A::jp A::a7 A 8::y.val::jp (ah C 0)::ab n::ab o::.agg #[ab 1,ab 0,ab o,ab 1,ag 0,ag 0,a4,ag 0,ab 0]::z.val::af (bs bf) 1 1::af F p q::af u e f::jp (ah C 1)::ag l::af (bs M) 1 1::af m E x::ab (i64.wrap (k+1))::ae j 81 66 [])))) O) (W prog (sb f173 [1,1,1,1,1]) (BD A B s a b t c d u e f (ae j 0 59 (af v g h::ab i::ab k::ad (k<i)::ae j 60 87 []))) (bV f173 R) w)):=by kernel_rfl
theorem VG:W prog (sb f173 [1,1,1,1,1]) (BD A B s a b t c d u e f j) (bV f173 R) w=(Calls prog 213 #[.pointer (some A),af s a b,ab 1] w λg q=>∃ k l m,bG.ex λo=>∃ n,g=.returned (.tuple #[af k l m,o.val,ad n])/\a8 q B 0 o.cells λi=>cond (!n) (dW i B λr=>a8 i B 0 r.cells λh=>dW h B λp=>h=h/\R (.tuple #[p.val,ad false]) h) (cj prog (cN f173 [1,1,1,1,1,1,1,1,0,1,0,0]) (sA A B s a b t c d u e f false k l m (l:Nat) 0 (aB j 0::ad n::ae j 2 6 (af k l m::ae j 10 74 (.tuple #[af k l m,o.val,ad n]::jp A::af s a b::.tuple #[af k l m,o.val,ad n]::af k l m::o.val::ad n::ad n::ad (!n)::aB j 93::ae j 97 53 [])))) (aL 4 (aS f173 [1,1,1,1,1,1,1,1,1] R)) i)):=by kernel_rfl
theorem nl (K:al->aK):W prog (sb f173 [1,1,1,1,1,1,1,1,0,1,0,0]) (sA A B s a b t c d u e f F v g h i k j) (aM K (aL 4 (aS f173 [1,1,1,1,1,1,1,1,1] R))) w=(cond (k<i) (bk v g k 2 λI=>pU w I λr=>aR w #[ab 0,a4] 131 λH U=>a8 U (ah H 0) 0 r.cells λY=>ck Y λZ E=>yS E (ah H 0) λbf=>bk u e k 1 λy=>hd E y λx=>iJ 196 #[bf.val] Z λo G=>E G/\cond (o != x) (K (sA A B s a b t c d u e f true v g h i (i64.wrap (k+1)) (ae j 0 9 (ab k::jp (ah H 0)::ae j 11 82 (ad (k<i)::ab k::jp I::r.val::ad ((o:Int) != x)::bf.val::ag o::af u e f::ab k::jp y::ag x::ad ((o:Int) != x)::ae j 105 27 (ab (i64.wrap (k+1))::ae j 133 13 []))))) G) (bk s a k 9 λz=>bN G z λp=>cond (p == 3) (bk s a k 9 λJ=>lZ G J λP=>aR G #[ab 0,ab 0,ab 0,ab 0,ag 0,ag 0,a4,ag 0,ab 0] 158 λD aE=>a8 aE (ah D 0) 0 P.cells λao=>ck ao λX L=>bk s a k 9 λN=>hd L (br N 5) λq=>bk s a k 9 λM=>hd L (br M 4) λl=>cM X (ah D 4) (ag q) λS=>L S/\cM S (ah D 5) (ag l) λO=>lZ O (ah D 0) λT=>aR O T.cells.toArray 158 λQ aq=>da 125 (af t c d) (af (bs Q) 1 1) aq λC m n V=>K (sA A B s a b C m n u e f F v g h i (i64.wrap (k+1)) (ae j 0 9 (ab k::jp (ah H 0)::jp (ah D 0)::ae j 12 81 (ad (k<i)::ab k::jp I::r.val::ad ((o:Int) != x)::bf.val::ag o::af u e f::ab k::jp y::ag x::ad ((o:Int) != x)::ad ((p:Int) == 3)::af s a b::ab k::jp z::jp z::ab p::ad ((p:Int) == 3)::af s a b::ab k::jp J::P.val::af s a b::ab k::jp N::a7 N 5::ag q::af s a b::ab k::jp M::a7 M 4::ag l::jp (ah D 4)::jp (ah D 5)::af t c d::T.val::af (bs Q) 1 1::af C m n::ab (i64.wrap (k+1))::ae j 133 13 [])))) V) (K (sA A B s a b t c d u e f F v g h i (i64.wrap (k+1)) (ae j 0 9 (ab k::jp (ah H 0)::ae j 11 82 (ad (k<i)::ab k::jp I::r.val::ad ((o:Int) != x)::bf.val::ag o::af u e f::ab k::jp y::ag x::ad ((o:Int) != x)::ad ((p:Int) == 3)::af s a b::ab k::jp z::jp z::ab p::ad ((p:Int) == 3)::ae j 112 20 (ab (i64.wrap (k+1))::ae j 133 13 []))))) G))) (W prog (sb f173 [1,1,1,1,1,1,1,1,1]) (BE A B t c d F (aB j 0::aB j 1::af s a b::af u e f::ae j 2 91 (af v g h::ab i::ab k::ad (k<i)::ae j 94 52 []))) (bV f173 R) w)):=by kernel_rfl
theorem VH:W prog (sb f173 [1,1,1,1,1,1,1,1,1]) (BE A B s a b F j) (bV f173 R) w=(cond (!F) (a8 w B 0 [ab 0,ab 0] λf=>dW f B λl=>f=f/\R (.tuple #[l.val,ad true]) f) (Calls prog 213 #[.pointer (some A),af s a b,ab 1] w λe u=>∃ g h i,bG.ex λm=>∃ k,e=.returned (.tuple #[af g h i,m.val,ad k])/\a8 u B 0 m.cells λp=>cond k (a8 p B 0 [ab 7,ab 1] λq=>dW q B λr=>a8 q B 0 r.cells λd=>dW d B λn=>d=d/\R (.tuple #[n.val,ad false]) d) (dW p B λt=>a8 p B 0 t.cells λc=>dW c B λo=>c=c/\R (.tuple #[o.val,ad false]) c))):=by kernel_rfl
end
section
def sW (j:cJ):aU:=j.v.mem.headD jL
def lR (j:cJ)(p:aD):bE:=addr j.v.number (sW j) ⟨3,0,p.bw*8,0,p.Head,ew p.Head j.a3,[],0,0⟩
def EQ (j:cJ)(s:eK):bE:=addr j.v.number (sW j) ⟨1,0,s.bw*8,1,0,0,[],0,0⟩
def dG (j:cJ):bu:=j.writes.map (lR j)++j.reads.map (EQ j)
def iM (j:cJ):ba:=j.writes.map (·.Head)++j.reads.map (·.Head)
def sf (v:bE):bE:={v with old:=v.new,new:=v.old}
def hP:bu->ba->cw->bu
 |v::vs,x::xs,d::ds=>(if d_ d=x/\v.kind=3 then[sf v]else[])++hP vs xs ds
 | _,_,_=>[]
def iw:ba->cw->Bool
 |x::xs,d::ds=>decide (d_ d≠x) || iw xs ds
 | _,_=>false
def j' (j:cJ)(G:bn):cq:=
 if(cm G (dG j) 1).ok=false then cm G (dG j) 1
 else if iw (iM j) (cm G (dG j) 1).done=false then⟨true,[],(0,0),(cm G (dG j) 1).a_,none,false⟩
 else if(cm (cm G (dG j) 1).a_ (hP (dG j) (iM j) (cm G (dG j) 1).done) 1).ok=true then⟨false,[],(7,1),(cm (cm G (dG j) 1).a_ (hP (dG j) (iM j) (cm G (dG j) 1).done) 1).a_,none,false⟩
 else cm (cm G (dG j) 1).a_ (hP (dG j) (iM j) (cm G (dG j) 1).done) 1
theorem Dk:∀ {a:bu}{b:ba}{c:cw}{v:bE}{x:Int}{d:cW},a.length=c.length->b.length=c.length->hP (a++[v]) (b++[x]) (c++[d])=hP a b c++(if d_ d=x/\v.kind=3 then[sf v]else[])
 | [],[],[],v,x,d,_,_=>by simp[hP]
 | _::a,_::b,_::c,v,x,d,e,f=>by simp only[List.cons_append,hP];rw[Dk (by simpa using e) (by simpa using f),vP]
 | [],_,_::_,_,_,_,h,_=>by grind
 | _::_,_,[],_,_,_,h,_=>by grind
 | _,[],_::_,_,_,_,_,h=>by grind
 | _,_::_,[],_,_,_,_,h=>by grind
theorem Dl:∀ {b:ba}{c:cw}{x:Int}{d:cW},b.length=c.length->iw (b++[x]) (c++[d])=(iw b c || decide (d_ d≠x))
 | [],[],x,d,_=>by simp[iw]
 | _::b,_::c,x,d,h=>by simp only[List.cons_append,iw];rw[Dl (by simpa using h),Bool.or_assoc]
 | [],_::_,_,_,h=>by grind
 | _::_,[],_,_,h=>by grind
theorem z0:∀ {a:bu}{b:ba}{c:cw},(hP a b c).length<=a.length
 |v::a,y::b,d::c=>by
  have:=@z0 a b c;unfold hP;rw[hi];split
  ·simp;omega
  ·simp;omega
 | [],_,_=>by simp[hP]
 | _::_,[],_=>by simp[hP]
 | _::_,_::_,[]=>by simp[hP]
theorem bO.BO {vs:bu}(h:bO w0 u a n cap vs)(d:∀ x ∈ vs,x.words=[])(j:ao M u bF)(o:∀ k,aP a k->¬ M k):bO w0 bF a n cap vs:=by obtain⟨⟨c,r,ar⟩,q,p⟩:=h;refine⟨⟨c,r.aC j o,ar.1,λi v x l g=>?_⟩,q,p⟩;have b:=ar.2 i v x l g;have he:=d x (cu g);have f:cQ (λk=>M k\/(k<w0.heap.size\/aP a k)) u v x:=⟨b.eq,b.rd,b.nil,.inl he,b.wf,b.new,b.old,b.key,b.eS,b.cap,b.kM⟩;exact(f.aC (j.mono λk _ e=>.inl e) λ_ _ e=>e).mono λk e=>.inr e
theorem gH.after {a b:aj}{R:cq}(h:gH A w0 a tb B R b)(c:ao (λk=>k=tb) u a):gH A w0 u tb B R b:=
 ⟨c.trans h.aC λ_ _ e=>e,h.fN⟩
theorem A8 {o:bG}(ax:aq u b o.cells eQ){K:bG->aK}(f:∀ e,ao (λk=>k=b) u e->K o e) :
  bG.ex λr=>b6 u ⟨b,0,none⟩ 0 r.cells/\dT u ⟨b,0,none⟩ 0 r.cells/\∀ a,a=cv u ⟨b,0,none⟩ 0 r.cells->bG.ex λres=>b6 a ⟨b,0,none⟩ 0 res.cells/\a=a/\K res a:=
 bG.aT o ⟨bJ ax rfl,dI ax rfl (bG.single _) λa d c=>bG.aT o ⟨bJ d rfl,rfl,f a c⟩⟩
structure oi (w0 bp:aj)(a0 tb:Nat)(r:cE)(bP:aU)(j:cJ)(z:aj)(a2:an)(n pc:Nat)(Ib:an)(Ws:Nat)(vs:bu)(ws:ba):Prop where
 du:ff w0 z a0 tb r bP j
 new:ai bp z
 j_:bO bp z a2 n pc vs
 fC:∀ x ∈ vs,x.words=[]
 own:aZ z ow 1 Ib n Ws (us ws)
 vv:∀ k,aP Ib k->bp.heap.size<=k
 wl:ws.length=n
theorem oi.bK {w0 bp:aj}{a0 tb:Nat}{r:cE}{bP:aU}{j:cJ}{z d:aj}{a2:an}{n pc:Nat}{b:an}{c:Nat}{vs:bu}{ws:ba}(h:oi w0 bp a0 tb r bP j z a2 n pc b c vs ws)(a:ai z d):oi w0 bp a0 tb r bP j d a2 n pc b c vs ws:=
 ⟨h.du.bK a,h.new.new a,h.j_.new a,h.fC,aZ.new a h.own,h.vv,h.wl⟩
theorem oi.push {r:cE}{bP:aU}{j:cJ}{z H:aj}{a2:an}{pc:Nat}{U:an}{ag:Nat}{vs:bu}{ws:ba}(h:oi w0 bp a0 tb r bP j z a2 n pc U ag vs ws)(G:ai z H){v:aI}{x:bE}(ar:cQ (λk=>k<z.heap.size) H v x)(a5:x.words=[])(a8:n<=1000)(aV:w0.heap.size<=bp.heap.size)
  {T:Nat} {F:bU} (u:aq H T cs F) (Y:F≠cK) (aR:F≠ow) {y:Int} {S:aK} (aE:∀ l,aq l T cs F->ff w0 l a0 tb r bP j->S l) {b1:Nat} {V:aj} (aT:b1=H.heap.size) (ax:V=H.alloc (.cells v.cells.toArray cK)) {rd:aj->Int->Prop} (ae:∀ l,aq l T cs F->rd l y) {N:an->Nat->Nat->aj->Int->Nat->aj->an->Nat->Nat->aK}
  (aM:∀ ap ac d p o q t l,oi w0 bp a0 tb r bP j l ap (n+1) ac q t (vs++[x]) (ws++[y])->N ap (n+1) ac d y p o q (n+1) t l) :
  S V/\∃ (ap:an) (ah ac:Nat),∃ d,(Builtin.append_ #[gy,gy] gy #[(.slice a2 n pc),(.slice (some ⟨b1,0,none⟩) 1 1)]).run prog V=.ok (.slice ap ah ac) d/\S d/\∃ y:Int,rd d y/\∀ p o,p=d.heap.size->o=d.alloc (.cells #[(.int .u64 y)] ow)->∃ (q:an) (ao t:Nat),∃ W,(Builtin.append_ #[94,94] 94 #[(.slice U n ag),(.slice (some ⟨p,0,none⟩) 1 1)]).run prog o=.ok (.slice q ao t) W/\N ap ah ac d y p o q ao t W:=by
 have P:ai H V:=by rw[ax];exact hn _ _
 have w:=h.du.bK G;refine⟨aE _ (ai.ak P u) (w.bK P),?_⟩;have a4:=G.size;refine bO.lX h.j_ h.new G ar (by omega) aT ax λap I d aB B K=>?_
 have M:=h.j_;have D:∀ k,aP a2 k->bp.heap.size<=k/\∃ cs,aq z k cs cK:=λk c=>by obtain⟨R,ad,_⟩:=M.ex;exact⟨M.gB k c,gj ad c⟩
 have s:aq d T cs F:=B.ak u λe=>by obtain⟨_,i,a⟩:=D _ e;exact(ai.ak G a).ne u (λe=>Y e.symm) rfl
 have A:ff w0 d a0 tb r bP j:=w.aC B λk c=>by
  obtain⟨a7,i,a⟩:=D k c;refine⟨by omega,λe=>?_⟩
  exact(e▸ai.ak G a).ne w.ak (by decide) rfl
 refine⟨aE _ s A,y,ae _ s,?_⟩;rintro p o Z Q;obtain⟨E,b⟩:=bo Z Q;have E:aq o p (us [y]) ow:=E;clear Q;have g:aZ d ow 1 U n ag (us ws):=(aZ.new G h.own).aC B λk c e=>by obtain⟨_,i,a⟩:=D k e;obtain⟨X,f⟩:=gj h.own c;exact a.ne f (by decide) rfl
 refine uc (aZ.new b g) (l2:=[y]) (m:=1) (e6 E rfl) rfl (by omega) λq t W aL C ab=>?_
 have a1:=K.size;have J:∀ k,aP q k->bp.heap.size<=k:=λk c=>by
  rcases ab k c with e | e
  ·exact h.vv k e
  ·have:=b.size;omega
 have L:∀ fh ∈ vs++[x],fh.words=[]:=λfh af=>by
  rcases kh.1 af with e | e
  ·exact h.fC fh e
  grind
 have O:∀ k,aP U k->∃ cs,aq o k cs ow:=λk c=>gj (aZ.new b g) c
 refine aM ap I d p o q t W ⟨(A.bK b).aC C λk c=>?_,(K.new b).trans C λk aW e=>by have:=h.vv k e;omega,(aB.new b).BO L C λk c e=>?_,L,aL,J,by rw[hi,h.wl];rfl⟩
 ·obtain⟨i,a⟩:=O k c;refine⟨by have:=h.vv k c;omega,λe=>?_⟩
  exact(e▸a).ne (A.bK b).ak (by decide) rfl
 ·obtain⟨i,a⟩:=O k e;obtain⟨R,ad,_⟩:=(aB.new b).ex;obtain⟨X,f⟩:=gj ad c;exact a.ne f (by decide) rfl
end
end Go.Proofs.YtmkljjbioomepaaGreat
