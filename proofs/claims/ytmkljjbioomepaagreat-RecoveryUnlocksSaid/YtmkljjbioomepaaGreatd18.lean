import Derived.Test.YtmkljjbioomepaaGreatd17
set_option linter.all false
set_option maxHeartbeats 4000000
set_option maxRecDepth 100000
namespace Go.Proofs.YtmkljjbioomepaaGreat
open Go.Proofs.Tryz Go.bs
variable {A M:a6} {G:List (List aM)} {K:an->Nat->Nat->aF} {T:gn} {a b2:an} {b g9 cap aY n fA tb:Nat} {j:c0} {m:a0} {o:bF} {r:dt} {u bG bq w w' w0:ak} {vs rf:List aQ}
section
theorem Nd {r:b0} {W:List aK} (h:fm w r.eH r.dT W) (al:fH r.Seq W 256≠0):bb 210 [r.val] w λv w'=>v=.slice none 0 0/\ai w w':=by refine bd Tryz.func210 ?_;rw [Hv];rintro b1 w1 c b;obtain ⟨au,a⟩:=bl c b;have au:av w1 b1 r.cells 271:=au;clear b;refine b0.aT r ⟨bO au rfl,?_⟩;refine aD (yy (h.new a) 256) ?_;rintro v f ⟨rfl,d⟩;exact ⟨_,rfl,du (λe=>⟨rfl,a.new d⟩) (λe=>absurd e al)⟩
theorem H1 (w:ak) (s:Int):bb 214 [.int .i64 s] w λv w'=>∃ x e:Int,v=.tuple #[.int .u64 x,.int .i64 e]/\w'=w/\(1<=s/\s<1073741824->x=fX s):=by
 refine bd Tryz.func214 ?_;rw [A1];refine aD (s0 w s 1 1073741823) ?_;rintro v w1 ⟨rfl,rfl⟩;refine ⟨_,rfl,ev (λa=>⟨_,_,rfl,rfl,λe=>absurd (of_decide_eq_false a) (by omega)⟩) (λ_=>⟨_,_,rfl,rfl,λe=>?_⟩)⟩
 rw [kt (x:=s) (by omega) (by omega)];rfl
theorem DQ {seq:Int} {W:List aK} (g:cj seq) (h:W.length<=12) (eJ:∀ p ∈ W,cj p.bm/\cj p.Head/\∀ x ∈ hz p,cj x):∀ x ∈ fo seq W,cj x:=by
 intro x a;unfold fo nP at a;rcases iq.1 a with a | a
 ·rcases eU.1 a with rfl | a
  ·exact g
  rcases eU.1 a with rfl | a
  ·unfold cj;omega
  obtain ⟨l,b,a⟩:=o2.1 a;obtain ⟨p,f,rfl⟩:=cZ.1 b;obtain ⟨c,d,e⟩:=eJ p f;rcases eU.1 a with rfl | a
  ·exact c
  rcases eU.1 a with rfl | a
  ·exact d
  exact e x a
 ·simp at a;subst a;exact LK _
def o7 (j:c0):Prop:=∀ p ∈ j.writes,∀ x ∈ hz p,cj x
theorem OS (F:fa w0 u aY tb r m j) (aq:o7 j) (X:eP A w0 u tb T G) (P:ga T) :
  bb 172 [ptr aY] u (wd A w0 u tb u.heap.size (r8 j G)):=by
 refine bd Tryz.func172 ?_;rw [ptr,UM];rintro b1 bG O K;obtain ⟨l,J⟩:=bl O K;have l:av bG b1 (bF.cells ⟨0,0⟩) eR:=l;clear K;rintro Z L;have w:ai bG Z:=by rw [L];exact cK _
 clear L;have k:=J.new w;have h:=F.bB k;have N:=X.new k;have Xz:=J.size;have XA:=w.size;have Xy:=l.lt;have XC:=X.aj.lt;have Q:=F.bQ.aW;have I:=F.bQ.seq;have t:=F.b8;have Xx:=t.aW;have H:=t.s_;refine ⟨λy=>av y aY (lU r tb m) mi,h.aj,_,λy V=>V.cell (i:=0) rfl,dt.aT r ⟨λy V=>bO V rfl,?_⟩⟩;refine aD (D4 Z (by omega)) ?_;rintro v bq ⟨rfl,rfl⟩;refine ⟨_,rfl,h.aj,?_⟩;refine aD (Dm bq r) ?_;rintro v Xv ⟨rfl,z⟩;refine b0.aT _ ⟨rfl,(h.bB z).aj,?_⟩;have q:=h.bB z;have B:fm Xv r.eH r.dT j.writes:=F.bQ.bV.new q.new;have fin:∀ {E:ak} {a:an} {n cap:Nat},ai Xv E->(j.writes≠[]->bk E a (us (fo j.seq j.writes))/\n=(fo j.seq j.writes).length/\n<=cap/\(a=none->fo j.seq j.writes=[])/\(∀ x ∈ fo j.seq j.writes,cj x)/\(fo j.seq j.writes).length<=1000000)->
   Calls prog 208 #[(.pointer (some ⟨aY,0,none⟩)),(.int .i64 (e' r.Client+8)),(.slice a n cap),(.int .i64 1)] E λe W=>bF.ex λo=>∃ b:Bool,e=.returned (.tuple #[o.val,(.bool b)])/\av W aY (lU r tb m) mi/\eh W ⟨b1,0,none⟩ 0 o.cells/\∀ M,M=cu W ⟨b1,0,none⟩ 0 o.cells->bF.ex λres=>cf M ⟨b1,0,none⟩ 0 res.cells/\M=M/\wd A w0 u tb u.heap.size (r8 j G) (.tuple #[res.val,(.bool b)]) M:=by
  intro E a n cap f hw;have c:=z.new f;have s:=Fh (A:=A) (h.bB c) (N.new c) P (at_:=e' j.aW+8) hw 1;rw [Q];refine aD s ?_;rintro v XE ⟨rfl,C⟩;have XB:=c.size;refine bF.aT _ ⟨_,rfl,C.aA.aj (h.bB c).aj F.ne,?_⟩;exact mv (C.aA.aj (ai.aj (w.new c) l) (by omega)) rfl _ _ λXF R=>⟨rfl,C.put (k.new c) (ao.refl _ _) R (by omega) (by omega) (by omega) (by omega)⟩
 by_cases D:j.writes=[]
 ·have S:fH r.Seq j.writes 256≠0:=λe=>by have:=(jy e).2.1.2.2.1;rw [D] at this;simp at this
  refine aD (Nd (r:=⟨r.Seq,r.eH,r.dT,r.hv⟩) B S) ?_;rintro v E ⟨rfl,f⟩;exact ⟨_,_,_,rfl,(q.bB f).aj,fin f λe=>absurd D e⟩
 ·obtain ⟨al,Y⟩:=t.wr D;rw [<-I] at al Y;refine aD (yU (r:=⟨r.Seq,r.eH,r.dT,r.hv⟩) B al Y H t.wl) ?_;rintro v E ⟨a,cap,rfl,f,d,Xw⟩;refine ⟨_,_,_,rfl,(q.bB f).aj,fin f λ_=>?_⟩
  have d:a1 E 30 1 a (3+9 * j.writes.length) cap (us (fo j.seq j.writes)):=by rw [<-I];exact d
  refine ⟨d.rd,(pD _ _).symm,a1.le d,λe=>?_,DQ (by unfold cj;omega) H λp U=>?_,by rw [pD];omega⟩
  ·rcases d.2 with ⟨XD,_,_⟩ | ⟨g,cur,t,_⟩
   ·omega
   ·rw [t] at e;cases e
  ·have:=t.wl p U;exact ⟨by unfold cj;omega,B.u64 p U,aq p U⟩
theorem Nf (p:fa w0 u aY tb r m j) (D:eP A w0 u tb T G) (t:ga T) :
  bb 174 [ptr aY] u (wd A w0 u tb u.heap.size (tP j G)):=by
 refine bd Tryz.func174 ?_;rw [ptr,UN];rintro b1 bG q l;obtain ⟨d,c⟩:=bl q l;have d:av bG b1 (bF.cells ⟨0,0⟩) eR:=d;clear l;have g:=p.bB c;have J:=c.size;have I:=d.lt;have L:=D.aj.lt;have w:=p.bQ.aW;have z:=p.bQ.seq;have E:=p.b8;have H:=E.aW;refine ⟨_,g.aj.cell (i:=1) rfl,?_⟩;refine aD (H1 bG r.Seq) ?_;rintro v N ⟨x,e,rfl,rfl,M⟩;refine ⟨_,_,rfl,_,g.aj.cell (i:=0) rfl,?_⟩;refine aD (y7 N (by omega)) ?_;rintro v bq ⟨rfl,rfl⟩;refine ⟨_,rfl,?_⟩;rintro aB O s o;obtain ⟨f,b⟩:=bl s o;have f:av O aB (us [x]) ou:=f;clear o;have K:=b.size;rw [w];have h:=Fh (A:=A) (g.bB b) ((D.new c).new b) t (a:=some ⟨aB,0,none⟩) (n:=1) (cap:=1) (at_:=e' j.aW) (ws:=[fX j.seq]) (λhw=>by obtain ⟨_,P⟩:=E.wr hw;have C:=M (by omega);rw [C,z] at f;exact ⟨fu f rfl,rfl,by omega,(λe=>by cases e),(λy F=>by simp at F;subst F;exact y6 _),by simp⟩) 2
 refine aD h ?_;rintro v Q ⟨rfl,k⟩;refine bF.aT _ ⟨_,rfl,?_⟩;exact mv (k.aA.aj (ai.aj b d) (by omega)) rfl _ _ λR B=>⟨rfl,k.put (c.new b) (ao.refl _ _) B (by omega) (by omega) (by omega) (by omega)⟩
theorem yl (l:List aG):(l.map aG.cells).flatten=(dP l).flatten:=rfl
theorem bK.ui {C:ak} (h:bK w0 bG a n cap vs) (D:ai w0 bG) (G:bK C bG b2 fA g9 rf) (o:∀ k,aL a k->k<C.heap.size) (M:w0.heap.size<=C.heap.size) (N:n+fA<=100000)
  (x:∀ ap f i,bK w0 i ap (n+fA) f (vs++rf)->ao (aL a) bG i->ai w0 i->K ap (n+fA) f i) :
  ∃ (ap:an) (d c:Nat),∃ i,(Builtin.append_ #[gI,gI] gI #[(.slice a n cap),(.slice b2 fA g9)]).run prog bG=.ok (.slice ap d c) i/\K ap d c i:=by
 obtain ⟨⟨cp,J,B⟩,I,r⟩:=h;obtain ⟨⟨b,y,j⟩,s,E⟩:=G;obtain ⟨inf,H,au,u,w⟩:=fV (T:=cF) (z:=.agg #[.int .i64 0,.int .i64 0,.int .i64 0,.int .i64 0,.int .u64 0,.int .u64 0,.slice none 0 0,.int .u64 0,.int .i64 0]) (n:=9) (m:=88) (by kernel_rfl);have L:=D.size;refine rh (cells:=aG.cells) (sz:=9) aG.len aG.single Tryz.underlying125 H au (by rw [u];rfl) u (by decide) (by rw [w];decide) (l:=cp) (by rw [yl];exact J) (l2:=b) (m:=fA) (by rw [yl];exact y.rd) (by rw [j.1];exact s) (by omega) λap f i F g p=>?_
 have q:∀ k,aL ap k->w0.heap.size<=k:=λk x=>by
  rcases p k x with e | e
  ·exact r k e
  ·omega
 refine x ap f i ⟨⟨cp++b,F,?_⟩,by rw [dy,I,s],q⟩ g (D.trans g λk o e=>by have:=r k e;omega);have t:∀ k,k<bG.heap.size->(k<w0.heap.size\/aL ap k)->(k<w0.heap.size\/aL a k):=λk o e=>e.imp id λe=>by
  rcases p k e with e | e
  ·exact e
  ·omega
 refine et.app (B.aA (g.mono λk _ e=>.inr e) t) ?_;have A:et (λk=>k<w0.heap.size\/aL a k) bG b rf:=j.aA (ao.refl _ _) λk _ e=>by
  rcases e with e | e
  ·left;omega
  ·left;exact o k e
 exact A.aA (g.mono λk _ e=>.inr e) t
def kf (j:c0) (m:a0):List aQ:=if j.writes=[] then [] else j.writes.map (jG j m)++[lo j m]
def qi (j:c0):List aQ:=(j.v.mem.tail.map (kf j)).flatten
def n6 (j:c0) (G:List (List aM)):cr:=cm G (qi j) 3
theorem Lj (j:c0) (m:a0):(kf j m).length<=j.writes.length+1:=by
 unfold kf;split
 ·simp
 ·simp
theorem zj {α:Type} {b:Nat}:∀ (l:List (List α)),(∀ x ∈ l,x.length<=b)->l.flatten.length<=l.length * b
 | [],_=>by simp
 |x::l,h=>by
  have c:=h x eO;have d:=zj l λy a=>h y (fw _ a)
  rw [hg,dy,hh,h2];omega
theorem Ng {bS:a0} (Q:fa w0 u aY tb r bS j) (aq:o7 j) (XK:eP A w0 u tb T G) (Xw:ga T) :
  bb 175 [ptr aY] u (wd A w0 u tb u.heap.size (n6 j G)):=by
 refine bd Tryz.func175 ?_;rw [ptr,ol];rintro b1 bG X N;obtain ⟨p,B⟩:=bl X N;have p:av bG b1 (bF.cells ⟨0,0⟩) eR:=p;clear N;have t:=Q.bB B;have X3:=B.size;have X0:=p.lt;have X7:=XK.aj.lt;have R:=Q.b8;have Xy:=R.mem;have XX:=R.s_;have hlen:=Q.bQ.bV.len;obtain ⟨Ya,D⟩:=Q.bQ.view;refine c2.aT r.View ⟨bO t.aj rfl,?_⟩;refine aD (Cm (D.new t.new) Xy.1) ?_;rintro v U ⟨XR,fi,rfl,g,Z⟩;refine ⟨_,_,_,rfl,?_⟩;have w:=t.bB g;have X4:=g.size;have XM:j.v.mem.tail.length=j.v.mem.length - 1:=o1;refine c8 mix (λq env z=>∃ (i n:Nat) (a2:an) (pc:Nat) (XO:ax),q=j.v.mem.tail.length - i/\i<=j.v.mem.tail.length/\env=uo ⟨aY,0,none⟩ ⟨b1,0,none⟩ a2 n pc XR (j.v.mem.length - 1) fi ((j.v.mem.length - 1:Nat):Int) i XO/\ai U z/\bK U z a2 n pc (((j.v.mem.tail.take i).map (kf j)).flatten)) j.v.mem.tail.length
  ⟨0,0,none,0,_,rfl,by omega,rfl,ao.refl _ _,bK.nil _ _⟩ ?_
 rintro q env z ⟨i,n,a2,pc,XO,rfl,Ye,rfl,d,a⟩;rw [R8];have f:=w.bB d;have X6:=d.size;have X8:=a.len;have XL:n<=1000:=by
  have XS:=zj (b:=j.writes.length+1) ((j.v.mem.tail.take i).map (kf j)) λx X9=>by obtain ⟨m,_,rfl⟩:=cZ.1 X9;exact Lj j m
  rw [fZ,iG] at XS;have Yc:min i j.v.mem.tail.length * (j.writes.length+1)<=5 * 13:=p_ (by omega) (by omega);omega
 refine bc (λX1=>?_) (λXW=>?_)
 ·obtain ⟨m,hm⟩:∃ m,j.v.mem.tail[i]?=some m:=⟨_,bE (by omega)⟩;have X2:=R.ee m (rD (b5 hm));have H:d9 m.cq:=by unfold d9;omega
  have F:((j.v.mem.tail.take (i+1)).map (kf j)).flatten=((j.v.mem.tail.take i).map (kf j)).flatten++kf j m:=by rw [ff,hm];simp
  refine eI (cells:=a0.cells) a0.len (by omega) (Z.new d) hm rfl (by omega) λb o Xv _=>a0.aT m ⟨Xv,?_⟩
  refine ec (vs:=m.cells) rfl (a0.single _) λXQ X' XV O c=>⟨_,_,_,(f.bB c).aj.cell (i:=6) rfl,?_⟩
  have X5:=c.size;rw [bH (x:=(i:Int)+1) (by omega) (by omega)];refine bc (λhw=>?_) (λhw=>?_)
  ·have l:j.writes≠[]:=λe=>by rw [e] at hlen;simp at hlen <;> omega
   obtain ⟨_,XD⟩:=R.wr l;refine a0.aT m ⟨bO O rfl,?_⟩;refine aD (C8 (f.bB c) aq H) ?_;rintro v Yh ⟨hb,gc,rfl,XF,h⟩;refine ⟨_,_,_,rfl,?_⟩;have L:∀ k,aL a2 k->k<X'.heap.size:=λk S=>by obtain ⟨cp,K,_⟩:=a.ex;have:=K.lt S;omega
   refine bK.ui ((a.new c).new h) ((d.new c).new h) XF L (by omega) (by omega) λap XI XP XU J C=>?_
   have I:fa w0 XP aY tb r bS j:=((f.bB c).bB h).aA J λk S=>by
    have Yd:=a.gv k S;have XT:=w.new.size;refine ⟨by omega,λe=>?_⟩
    obtain ⟨cp,K,_⟩:=a.ex;obtain ⟨cs,Xx⟩:=fT K S;exact absurd (e▸Xx |>.ne f.aj (by decide)) (λXY=>XY rfl)
   have P:av XP XQ m.cells eG:=J.aj (ai.aj h O) λe=>by obtain ⟨cp,K,_⟩:=a.ex;have:=K.lt e;omega
   refine a0.aT m ⟨bO P rfl,?_⟩;refine aD (C7 I XD H) ?_;rintro v Yi ⟨bj,rfl,XE,XB⟩;refine aG.aT bj ⟨rfl,?_⟩;rintro Yb Yj Y XH;refine bK.l3 XU C XB XE (by omega) Y XH λV E Yk XJ XZ XC=>?_
   have W:((j.v.mem.tail.take i).map (kf j)).flatten++j.writes.map (jG j m)++[lo j m]=((j.v.mem.tail.take (i+1)).map (kf j)).flatten:=by rw [F];unfold kf;rw [if_neg l,lF]
   rw [W] at XJ;exact ⟨j.v.mem.tail.length - (i+1),by omega,i+1,_,V,E,_,rfl,by omega,rfl,XC,XJ⟩
  ·have l:j.writes=[]:=fF (by omega);refine ⟨j.v.mem.tail.length - (i+1),by omega,i+1,n,a2,pc,_,rfl,by omega,rfl,d.new c,?_⟩;have W:kf j m=[]:=by unfold kf;rw [if_pos l]
   rw [F,W,jJ];exact a.new c
 ·have Xz:i=j.v.mem.tail.length:=by omega
  subst Xz;rw [So];rw [h0] at a;have a:bK U z a2 n pc (qi j):=a;have XN:=a.len;have s:=(B.new g).new d;have y:=rF (A:=A) f (XK.new s) Xw w.new (w1:=U) (by omega) a (by omega) 3;refine aD y ?_;rintro v X_ ⟨dB,dc,raw,rfl,M,_⟩;refine ⟨_,_,_,bF.aT ⟨(n6 j G).out.1,(n6 j G).out.2⟩ ⟨(n6 j G).ok,rfl,?_⟩⟩;have XG:av X_ b1 (bF.cells ⟨0,0⟩) eR:=M.aA.aj (ai.aj (g.new d) p) (by omega);refine Fg XG rfl _ λYf Yg C XA=>⟨rfl,M.put s C XA (by omega) (by omega) (by omega) (by omega)⟩
end
section
theorem kb {k a c:Nat} (h:(some ⟨b,a,none⟩:an)=some ⟨k,c,none⟩):b=k/\a=c:=by injection h with h;injection h with d e;exact ⟨d,e⟩
theorem av.get {i:Nat} {cs:ax} {T:TypeId} {v:a4} (h:av w b cs T) (a:w.cell? ⟨b,i,none⟩=some v):cs[i]?=some v:=by unfold World.cell? at a;simp only [show w.heap[(⟨b,i,none⟩:aX).block]?=_ from h] at a;simpa using a
theorem bK.R6 {bw:ak} (h:bK w0 u a n cap vs) (w:av u b o.cells eR) (l:ao (λk=>k=b) u bw):bK w0 bw a n cap vs:=by
 obtain ⟨⟨cp,z,al⟩,F,E⟩:=h;have p:¬ aL a b:=λe=>by obtain ⟨cs,q⟩:=fT z e;exact q.ne w (by decide) rfl
 refine ⟨⟨cp,z.aA l λk l e=>p (e▸l),al.1,λi v x f C=>?_⟩,F,E⟩;have c:=al.2 i v x f C;have r:cL (λk=>k=b\/(k<w0.heap.size\/aL a k)) u v x:=by
  refine ⟨c.eq,c.rd,c.nil,?_,c.wf,c.new,c.old,c.key,c.ee,c.cap,c.kV⟩;by_cases he:x.words=[]
  ·exact .inl he
  ·right;have d:=c.off.resolve_left he;have g:=c.rd;cases hw:v.Words with
   |none=>trivial
   |some bx=>
    rw [hw] at d g;rintro (e | e)
    ·obtain ⟨y,ys,j⟩:=rv he;rcases g with A | ⟨b',B,s,D⟩
     ·rw [j] at A;cases A
     ·simp only [fg] at s;subst s;have e:b'=b:=e;subst e;have t:=D 0 (.int .u64 y) (by rw [j];rfl);rw [mb] at t;have f:=av.get w t;rcases B with _ | _ | B
      ·cases f
      ·cases f
      ·cases f
    ·exact d e
 exact (r.aA (l.mono λk _ e=>.inl e) λ_ _ e=>e).mono λk e=>.inr e
theorem gJ.Uc {j l:ak} {B B':Nat} {R:cr} (h:gJ A w0 bG tb B R j) (t:ai u bG) (a:ai j bq) (w:av bq b o.cells eR) (f:ao (λk=>k=b) bq l) (C:u.heap.size<=b) (d:b≠tb) (z:B'<=B):gJ A w0 u tb B' R l:=by
 obtain ⟨g,n,x,hw,c⟩:=h;refine ⟨(((ao.b9 t).trans g λ_ _ e=>e).new a).trans f λk s e=>by omega,n,(x.new a).aA f λe=>d e.symm,hw,?_⟩;cases i:R.ask with
 |none=>rw [i] at c;exact c
 |some vs=>rw [i] at c;obtain ⟨p,w1,q,y,r⟩:=c;exact ⟨p,w1,q,by omega,(r.new a).R6 w f⟩
def ky (M:a6) (w:ak) (a:an) (n:Nat) (vs:List aQ):Prop:=∃ cp:List aG,bk w a (dP cp).flatten/\et M w cp vs/\n=vs.length
theorem ky.new {M:a6} {w w':ak} {a:an} {n:Nat} {vs:List aQ} (h:ky M w a n vs) (b:ai w w'):ky M w' a n vs:=by obtain ⟨cp,c,d,f⟩:=h;exact ⟨cp,c.new b,d.aA (ao.b9 b) λ_ _ e=>e,f⟩
theorem bK.hV (h:bK w0 u a n cap vs) (c:∀ k,k<u.heap.size->M k->k<w0.heap.size):ky M u a n vs:=by obtain ⟨⟨cp,f,al⟩,d,g⟩:=h;exact ⟨cp,f.rd,al.aA (ao.refl _ _) λk b e=>.inl (c k b e),d⟩
theorem ky.wide {M':a6} (h:ky M w a n vs) (b:ai w w') (i:∀ k,k<w.heap.size->M' k->M k):ky M' w' a n vs:=by obtain ⟨cp,c,d,f⟩:=h;refine ⟨cp,c.new b,?_,f⟩;have g:et M' w cp vs:=d.aA (ao.refl _ _) i;exact g.aA (ao.b9 b) λ_ _ e=>e
theorem bK.FG (h:bK w0 bG a n cap vs) (B:ai w0 bG) (D:ky (λk=>k<w0.heap.size\/aL a k) bG b2 fA rf) (I:n+fA<=100000)
  (w:∀ ap d i,bK w0 i ap (n+fA) d (vs++rf)->ao (aL a) bG i->ai w0 i->K ap (n+fA) d i) :
  ∃ (ap:an) (c b:Nat),∃ i,(Builtin.append_ #[gI,gI] gI #[(.slice a n cap),(.slice b2 fA g9)]).run prog bG=.ok (.slice ap c b) i/\K ap c b i:=by
 obtain ⟨⟨cp,G,A⟩,F,q⟩:=h;obtain ⟨f,y,j,r⟩:=D;obtain ⟨inf,E,au,t,u⟩:=fV (T:=cF) (z:=.agg #[.int .i64 0,.int .i64 0,.int .i64 0,.int .i64 0,.int .u64 0,.int .u64 0,.slice none 0 0,.int .u64 0,.int .i64 0]) (n:=9) (m:=88) (by kernel_rfl);have H:=B.size;refine rh (cells:=aG.cells) (sz:=9) aG.len aG.single Tryz.underlying125 E au (by rw [t];rfl) t (by decide) (by rw [u];decide) (l:=cp) (by rw [yl];exact G) (l2:=f) (m:=fA) (by rw [yl];exact y) (by rw [j.1];exact r) (by omega) λap d i C g o=>?_
 have p:∀ k,aL ap k->w0.heap.size<=k:=λk w=>by
  rcases o k w with e | e
  ·exact q k e
  ·omega
 have s:∀ k,k<bG.heap.size->(k<w0.heap.size\/aL ap k)->(k<w0.heap.size\/aL a k):=λk x e=>e.imp id λe=>by
  rcases o k e with e | e
  ·exact e
  ·omega
 exact w ap d i ⟨⟨cp++f,C,et.app (A.aA (g.mono λk _ e=>.inr e) s) (j.aA (g.mono λk _ e=>.inr e) s)⟩,by rw [dy,F,r],p⟩ g (B.trans g λk x e=>by have:=q k e;omega)
theorem bK.box {v:aG} {x:aQ} (j:ai bq w) (al:cL (λk=>k<bq.heap.size) w v x) (f:b=w.heap.size) (hw:w'=w.alloc (.cells v.cells.toArray cF)):bK bq w' (some ⟨b,0,none⟩) 1 1 [x]/\ai w w':=by
 obtain ⟨au,a⟩:=bl f hw;have au:av w' b v.cells cF:=au;have l:=j.size;refine ⟨⟨⟨[v],⟨rfl,.inr ⟨b,_,rfl,au,by omega,by decide,rfl,by rw [show (dP [v]).flatten=v.cells by simp [dP]];rfl⟩⟩,et.one ?_⟩,rfl,λk h=>by obtain ⟨o,c⟩:=h;simp at c <;> omega⟩,a⟩;have d:cL (λk=>k<bq.heap.size\/aL (some ⟨b,0,none⟩) k) w v x:=al.aA (ao.refl _ _) λk i e=>by
  rcases e with e | ⟨o,c⟩
  ·exact e
  ·exfalso;have g:b=k/\0=o:=kb c;omega
 exact d.aA (ao.b9 a) λ_ _ e=>e
def h8 (j:c0):List aQ:=match j.v.mem with
 |m::_=>lo j m::j.writes.map (jG j m)
 | []=>[]
def nD (j:c0) (G:List (List aM)):cr:=if j.writes=[] then r7 G else cm G (h8 j) 3
structure FS (A:a6) (w0 bq:ak) (aY tb b1:Nat) (r:dt) (bS:a0) (j:c0) (T:gn) (G:List (List aM)) (w:ak):Prop where
 dh:fa w0 w aY tb r bS j
 fY:eP A w0 w tb T G
 b1:av w b1 (bF.cells ⟨0,0⟩) eR
 new:ai bq w
theorem FS.bB {A:a6} {w0 bq w w':ak} {aY tb b1:Nat} {r:dt} {bS:a0} {j:c0} {T:gn} {G:List (List aM)} (h:FS A w0 bq aY tb b1 r bS j T G w) (a:ai w w'):FS A w0 bq aY tb b1 r bS j T G w':=
 ⟨h.dh.bB a,h.fY.new a,ai.aj a h.b1,h.new.new a⟩
theorem FS.aA {A:a6} {w0 bq w w':ak} {aY tb b1:Nat} {r:dt} {bS:a0} {j:c0} {T:gn} {G:List (List aM)} (h:FS A w0 bq aY tb b1 r bS j T G w) {M:a6} (b:ao M w w') (a:∀ k,M k->bq.heap.size<=k) (g:aY<bq.heap.size) (i:tb<bq.heap.size) (f:b1<bq.heap.size) (d:w0.heap.size<=bq.heap.size):FS A w0 bq aY tb b1 r bS j T G w':=
 ⟨h.dh.aA b λk e=>by have:=a k e;omega,h.fY.aA b λe=>by have:=a _ e;omega,b.aj h.b1 λe=>by have:=a _ e;omega,h.new.trans b λk c e=>by have:=a k e;omega⟩
section
variable {A:a6} {w0 u bq:ak} {aY tb b1:Nat} {r:dt} {bS:a0} {j:c0} {T:gn} {G:List (List aM)}
theorem OT (J:ai u bq) (U:aY<bq.heap.size) (S:tb<bq.heap.size) (L:b1<bq.heap.size) (M:u.heap.size<=b1) (C:b1≠tb) (F:ai w0 bq) (D:ga T) {R:cz} (K:∀ v w',wd A w0 u tb u.heap.size (cm G (h8 j) 3) v w'->R v w') {w:ak} (f:FS A w0 bq aY tb b1 r bS j T G w) {a:an} {n cap:Nat} (al:bK bq w a n cap (h8 j)) (V:n<=100000) :
  Calls prog 213 #[(.pointer (some ⟨aY,0,none⟩)),(.slice a n cap),(.int .i64 3)] w λe p=>∃ (k:an) (l m:Nat),bF.ex λz=>∃ (n:Bool),e=.returned (.tuple #[(.slice k l m),z.val,(.bool n)])/\av p aY (lU r tb bS) mi/\∀ i q,i=p.heap.size->q=p.alloc (.cells #[(.int .i64 0),(.int .i64 0)] eR)->av q aY (lU r tb bS) mi/\eh q ⟨i,0,none⟩ 0 z.cells/\∀ cB,cB=cu q ⟨i,0,none⟩ 0 z.cells->bF.ex λr=>cf cB ⟨i,0,none⟩ 0 r.cells/\eh cB ⟨b1,0,none⟩ 0 r.cells/\∀ o,o=cu cB ⟨b1,0,none⟩ 0 r.cells->bF.ex λg9=>cf o ⟨b1,0,none⟩ 0 g9.cells/\o=o/\R (.tuple #[g9.val,(.bool n)]) o:=by
 have d:=rF (A:=A) f.dh f.fY D F S al (by have:=al.len;omega) 3;refine aD d ?_;rintro v p ⟨dB,dc,raw,rfl,b,_⟩;refine ⟨_,_,_,bF.aT ⟨(cm G (h8 j) 3).out.1,(cm G (h8 j) 3).out.2⟩ ⟨_,rfl,?_⟩⟩;have c:av p aY (lU r tb bS) mi:=b.aA.aj f.dh.aj f.dh.ne;refine ⟨c,?_⟩;rintro i q B y;obtain ⟨h,g⟩:=bl B y;have h:av q i (bF.cells ⟨0,0⟩) eR:=h;clear y;have P:=b.aA.size;have Q:=f.new.size;have O:=J.size;refine ⟨ai.aj g c,dQ h rfl (bF.single _) λcB H t=>bF.aT _ ⟨bO H rfl,?_⟩⟩;have s:av cB b1 (bF.cells ⟨0,0⟩) eR:=t.aj (ai.aj g (b.aA.aj f.b1 C)) (by omega);refine dQ s rfl (bF.single _) λo I E=>bF.aT _ ⟨bO I rfl,rfl,K _ _ ⟨rfl,?_⟩⟩
 have x:ai p cB:=g.trans t λk N e=>by omega
 exact b.put (J.new f.new) x E (by omega) L (by omega) (by omega)
theorem QQ (E:ai u bq) (P:aY<bq.heap.size) (N:tb<bq.heap.size) (H:b1<bq.heap.size) (J:u.heap.size<=b1) (t:b1≠tb) (z:ai w0 bq) (x:ga T) {R:cz} (F:∀ v w',wd A w0 u tb u.heap.size (cm G (h8 j) 3) v w'->R v w') {w:ak} (f:FS A w0 bq aY tb b1 r bS j T G w) {a:an} {n cap:Nat} (al:bK bq w a n cap (h8 j)) (Q:n<=100000) {g:Nat} (D:av w g (bF.cells ⟨0,0⟩) eR) (I:bq.heap.size<=g) :
  Calls prog 213 #[(.pointer (some ⟨aY,0,none⟩)),(.slice a n cap),(.int .i64 3)] w λe q=>∃ (k:an) (l m:Nat),bF.ex λs=>∃ (n:Bool),e=.returned (.tuple #[(.slice k l m),s.val,(.bool n)])/\av q aY (lU r tb bS) mi/\eh q ⟨g,0,none⟩ 0 s.cells/\∀ cB,cB=cu q ⟨g,0,none⟩ 0 s.cells->bF.ex λr=>cf cB ⟨g,0,none⟩ 0 r.cells/\eh cB ⟨b1,0,none⟩ 0 r.cells/\∀ h,h=cu cB ⟨b1,0,none⟩ 0 r.cells->bF.ex λg9=>cf h ⟨b1,0,none⟩ 0 g9.cells/\h=h/\R (.tuple #[g9.val,(.bool n)]) h:=by
 have d:=rF (A:=A) f.dh f.fY x z N al (by have:=al.len;omega) 3;refine aD d ?_;rintro v O ⟨dB,dc,raw,rfl,b,_⟩;refine ⟨_,_,_,bF.aT ⟨(cm G (h8 j) 3).out.1,(cm G (h8 j) 3).out.2⟩ ⟨_,rfl,?_⟩⟩;have L:=b.aA.size;have M:=f.new.size;have K:=E.size;have c:av O g (bF.cells ⟨0,0⟩) eR:=b.aA.aj D (by omega);refine ⟨b.aA.aj f.dh.aj f.dh.ne,dQ c rfl (bF.single _) λcB B o=>bF.aT _ ⟨bO B rfl,?_⟩⟩;have i:av cB b1 (bF.cells ⟨0,0⟩) eR:=o.aj (b.aA.aj f.b1 t) (by omega);refine dQ i rfl (bF.single _) λh C y=>bF.aT _ ⟨bO C rfl,rfl,F _ _ ⟨rfl,?_⟩⟩
 have p:=b.Uc (u:=u) (B':=bq.heap.size) (E.new f.new) (ao.refl _ _) c o (by omega) (by omega) (cY _);exact p.put (ao.refl _ _) (ao.refl _ _) y (by omega) H (by omega) (by omega)
theorem Lk (XM:fa w0 u aY tb r bS j) (aq:o7 j) (YD:eP A w0 u tb T G) (XZ:ga T) :
  bb 176 [ptr aY] u (wd A w0 u tb u.heap.size (nD j G)):=by
 refine bd Tryz.func176 ?_;rw [ptr,Ty];rintro b1 bG Yo Yi;obtain ⟨XQ,XN⟩:=bl Yo Yi;have XQ:av bG b1 (bF.cells ⟨0,0⟩) eR:=XQ;clear Yi;have Yd:=XM.bB XN;have Yc:=YD.new XN;have hlen:=XM.bQ.bV.len;have Yw:=XN.size;have Yt:=XQ.lt;have YT:=YD.aj.lt;have YF:=XM.aj.lt;have Yr:=XM.b8;have YQ:=Yr.s_;have XD:=XM.mem;have YR:=Yr.ee bS (b5 XD);have XV:d9 bS.cq:=by unfold d9;omega
 have X':h8 j=[lo j bS]++j.writes.map (jG j bS):=by
  unfold h8;cases Yf:j.v.mem with
  |nil=>rw [Yf] at XD;cases XD
  |cons x xs=>rw [Yf] at XD;simp at XD;subst XD;rfl
 unfold nD;refine ⟨_,_,_,Yd.aj.cell (i:=6) rfl,d' (λe=>?_) (λe=>?_)⟩
 ·have XU:j.writes=[]:=fF (by omega);rw [if_pos XU];exact mv XQ rfl 0 0 λYZ Ys=>⟨rfl,(gJ.skip (B:=bG.heap.size) Yc XZ (ao.refl _ _)).put XN (ao.refl _ _) Ys (by omega) Yt (by omega) Yw⟩
 ·have XU:j.writes≠[]:=λYN=>by rw [YN] at hlen;simp at hlen <;> omega
  rw [if_neg XU];obtain ⟨_,Yy⟩:=Yr.wr XU;rintro bq Yj;have XO:ai bG bq:=by rw [Yj];exact cK _
  clear Yj;have Ya:=XN.new XO;have YS:=XO.size;have XS:FS A w0 bq aY tb b1 r bS j T G bq:=⟨Yd.bB XO,Yc.new XO,ai.aj XO XQ,ao.refl _ _⟩;have X4:=XS.dh.new;have YH:=X4.size;have so:=@OT A w0 u bq aY tb b1 r bS j T G Ya (by omega) (by omega) (by omega) (by omega) (by omega) X4 XZ (wd A w0 u tb u.heap.size (cm G (h8 j) 3)) (λ_ _ h=>h);have S:=@QQ A w0 u bq aY tb b1 r bS j T G Ya (by omega) (by omega) (by omega) (by omega) (by omega) X4 XZ (wd A w0 u tb u.heap.size (cm G (h8 j) 3)) (λ_ _ h=>h);have app:∀ {w:ak} {aB:Nat} {d:an} {n g:Nat},FS A w0 bq aY tb b1 r bS j T G w->bK bq w (some ⟨aB,0,none⟩) 1 1 [lo j bS]->n=j.writes.length->ky (λk=>k<bq.heap.size\/aL (some ⟨aB,0,none⟩) k) w d n (j.writes.map (jG j bS))->∀ {K:an->Nat->Nat->aF},(∀ ap m c w',FS A w0 bq aY tb b1 r bS j T G w'->bK bq w' ap m c (h8 j)->m<=100000->ao (aL (some ⟨aB,0,none⟩)) w w'->K ap m c w')->
    ∃ (ap:an) (h i:Nat),∃ XG,(Builtin.append_ #[gI,gI] gI #[(.slice (some ⟨aB,0,none⟩) 1 1),(.slice d n g)]).run prog w=.ok (.slice ap h i) XG/\K ap h i XG:=by
   intro w aB d n g XF Ym XT Yv K Yb;refine bK.FG Ym XF.new Yv (by omega) λap X_ YU YC P z=>?_
   rw [<-X'] at YC;exact Yb ap _ X_ YU (XF.aA P (λk YG=>Ym.gv k YG) (by omega) (by omega) (by omega) (by omega)) YC (by omega) P
  have L:∀ {w w':ak} {b:Nat},FS A w0 bq aY tb b1 r bS j T G w->b=w.heap.size->w'=w.alloc (.cells #[(.int .i64 0),(.int .i64 0)] eR)->FS A w0 bq aY tb b1 r bS j T G w'/\ai w w'/\av w' b (bF.cells ⟨0,0⟩) eR/\bq.heap.size<=b:=by intro w w' b XF YP hw;obtain ⟨au,XT⟩:=bl YP hw;have:=XF.new.size;exact ⟨XF.bB XT,XT,au,by omega⟩
  have cO:∀ {w:ak} {K:Ending->aF},FS A w0 bq aY tb b1 r bS j T G w->(∀ (bj:aG) w',FS A w0 bq aY tb b1 r bS j T G w'->ai w w'->cL (λk=>k<bq.heap.size) w' bj (lo j bS)->K (.returned bj.val) w')->Calls prog 218 #[(.pointer (some ⟨aY,0,none⟩)),bS.val] w K:=by intro w K XF Yb;refine aD (C7 XF.dh Yy XV) ?_;rintro v w' ⟨bj,rfl,X3,XT⟩;have:=XF.new.size;exact Yb bj w' (XF.bB XT) XT (X3.mono λk YG=>by omega)
  have jA:∀ {w:ak} {K:Ending->aF},FS A w0 bq aY tb b1 r bS j T G w->(∀ (a:an) (c:Nat) w',FS A w0 bq aY tb b1 r bS j T G w'->ai w w'->bK w w' a j.writes.length c (j.writes.map (jG j bS))->K (.returned (.slice a j.writes.length c)) w')->Calls prog 217 #[(.pointer (some ⟨aY,0,none⟩)),bS.val] w K:=by intro w K XF Yb;refine aD (C8 XF.dh aq XV) ?_;rintro v w' ⟨a,c,rfl,X3,XT⟩;exact Yb a c w' (XF.bB XT) XT X3
  have XJ:∀ {w:ak} {aB k:Nat},aB<w.heap.size->(k<bq.heap.size\/aL (some ⟨aB,0,none⟩) k)->bq.heap.size<=w.heap.size->k<w.heap.size:=by
   intro w aB k YX YO YY;rcases YO with e | ⟨o,I⟩
   ·omega
   ·have:aB=k/\0=o:=kb I;omega
  have s:∀ {w:ak} {aB n c:Nat} {vs:List aQ},bK bq w (some ⟨aB,0,none⟩) n c vs->aB<w.heap.size:=by intro w aB n c vs h;obtain ⟨cp,I,_⟩:=h.ex;exact I.lt ⟨0,rfl⟩
  refine ⟨λy=>av y aY (lU r tb bS) mi,XS.dh.aj,a0.aT bS ⟨λy Yz=>bO Yz rfl,a0.aT bS ⟨λy Yz=>bO Yz rfl,?_⟩⟩⟩;refine ⟨cO XS λbj YV F Yg XA=>aG.aT bj ⟨rfl,F.dh.aj,?_,?_,?_⟩,?_⟩
  ·
   rintro aB YI XH XP;obtain ⟨t,Xy⟩:=bK.box F.new XA XH XP;have N:=F.bB Xy;have Xz:=N.new.size;have Y:=s t;refine ⟨N.dh.aj,?_,?_⟩
   ·refine jA N λd c X7 l p C=>⟨_,_,_,rfl,l.dh.aj,?_,?_⟩
    ·refine app l (t.new p) rfl (C.hV λk _ e=>XJ Y e Xz) λap m XR XG f R Q _=>⟨f.dh.aj,so f R Q,?_⟩
     rintro YK YM XX XY;obtain ⟨q,H,O,U⟩:=L f XX XY;exact ⟨q.dh.aj,S q (R.new H) Q O U⟩
    ·rintro X8 YB V XL;obtain ⟨q,H,O,U⟩:=L l V XL;refine ⟨q.dh.aj,?_⟩;have Yx:=p.size;refine app q (t.new (p.new H)) rfl ((C.hV λk _ e=>XJ Y e Xz).new H) λap m XR XG f R Q P=>⟨f.dh.aj,S f R Q (P.aj O λe=>?_) U⟩
     obtain ⟨o,I⟩:=e;have:aB=X8/\0=o:=kb I;omega
   ·rintro YL YW Yp Yq;obtain ⟨q,H,O,U⟩:=L N Yp Yq;have Yx:=H.size;have Yn:=O.lt;refine ⟨q.dh.aj,jA q λd c X7 l p C=>⟨_,_,_,rfl,l.dh.aj,?_⟩⟩;refine app l (t.new (H.new p)) rfl (C.hV λk _ e=>by have:=XJ Y e Xz;omega) λap m XR XG f R Q P=>⟨f.dh.aj,S f R Q (P.aj (ai.aj p O) λe=>?_) U⟩
    obtain ⟨o,I⟩:=e;have:aB=YL/\0=o:=kb I;omega
  ·
   refine jA F λd c X7 l p C=>⟨_,_,_,rfl,l.dh.aj,?_,?_⟩
   ·rintro X XW Z Xv;obtain ⟨E,z⟩:=bK.box l.new (XA.aA (ao.b9 p) λ_ _ e=>e) Z Xv;have f:=l.bB z;have X1:=F.new.size;have X2:=l.new.size;have J:ky (λk=>k<bq.heap.size\/aL (some ⟨X,0,none⟩) k) XW d j.writes.length (j.writes.map (jG j bS)):=(C.hV (M:=λk=>k<bq.heap.size) λk _ e=>by omega).wide z λk X0 e=>by
     rcases e with e | ⟨o,I⟩
     ·exact e
     ·exfalso;have:X=k/\0=o:=kb I;omega
    refine ⟨f.dh.aj,?_,?_⟩
    ·refine app f E rfl J λap m XR XG q Yk Ye _=>⟨q.dh.aj,so q Yk Ye,?_⟩
     rintro YK YM XX XY;obtain ⟨D,Yu,YA,XI⟩:=L q XX XY;exact ⟨D.dh.aj,S D (Yk.new Yu) Ye YA XI⟩
    ·rintro X8 YB V XL;obtain ⟨q,H,O,U⟩:=L f V XL;refine ⟨q.dh.aj,?_⟩;have YE:=s E;refine app q (E.new H) rfl (J.new H) λap m XR XG D XB Xx Xw=>⟨D.dh.aj,S D XB Xx (Xw.aj O λe=>?_) U⟩
     obtain ⟨o,I⟩:=e;have:X=X8/\0=o:=kb I;omega
   ·rintro X8 YB V XL;obtain ⟨q,H,O,U⟩:=L l V XL;refine ⟨q.dh.aj,?_⟩;rintro X XW Z Xv;obtain ⟨E,z⟩:=bK.box q.new (XA.aA (ao.b9 (p.new H)) λ_ _ e=>e) Z Xv;have f:=q.bB z;have X1:=F.new.size;have X2:=l.new.size;have Yn:=O.lt;have J:ky (λk=>k<bq.heap.size\/aL (some ⟨X,0,none⟩) k) XW d j.writes.length (j.writes.map (jG j bS)):=((C.hV (M:=λk=>k<bq.heap.size) λk _ e=>by omega).new H).wide z λk X0 e=>by
     rcases e with e | ⟨o,I⟩
     ·exact e
     ·exfalso;have:X=k/\0=o:=kb I;omega
    refine ⟨f.dh.aj,?_⟩;refine app f E rfl J λap m XR XG D XB Xx Xw=>⟨D.dh.aj,S D XB Xx (Xw.aj (ai.aj z O) λe=>?_) U⟩
    obtain ⟨o,I⟩:=e;have:X=X8/\0=o:=kb I;omega
  ·
   rintro X9 YJ XI X5;obtain ⟨W,Yh,XE,XK⟩:=L F XI X5;have Yl:cL (λk=>k<bq.heap.size) YJ bj (lo j bS):=XA.aA (ao.b9 Yh) λ_ _ e=>e
   refine ⟨W.dh.aj,?_⟩;refine ⟨?_,?_⟩
   ·rintro aB YI XH XP;obtain ⟨t,Xy⟩:=bK.box W.new Yl XH XP;have N:=W.bB Xy;have Xz:=N.new.size;have Y:=s t;have X6:=XE.lt;refine ⟨N.dh.aj,jA N λd c X7 l p C=>⟨_,_,_,rfl,l.dh.aj,?_⟩⟩;refine app l (t.new p) rfl (C.hV λk _ e=>XJ Y e Xz) λap m XR XG f R Q P=>⟨f.dh.aj,S f R Q (P.aj (ai.aj (Xy.new p) XE) λe=>?_) XK⟩
    obtain ⟨o,I⟩:=e;have:aB=X9/\0=o:=kb I;omega
   ·refine jA W λd c X7 l p C=>⟨_,_,_,rfl,l.dh.aj,?_⟩
    rintro X XW Z Xv;obtain ⟨E,z⟩:=bK.box l.new (Yl.aA (ao.b9 p) λ_ _ e=>e) Z Xv;have f:=l.bB z;have X1:=W.new.size;have X2:=p.size;have X6:=XE.lt;have J:ky (λk=>k<bq.heap.size\/aL (some ⟨X,0,none⟩) k) XW d j.writes.length (j.writes.map (jG j bS)):=(C.hV (M:=λk=>k<bq.heap.size) λk _ e=>by omega).wide z λk X0 e=>by
     rcases e with e | ⟨o,I⟩
     ·exact e
     ·exfalso;have:X=k/\0=o:=kb I;omega
    refine ⟨f.dh.aj,?_⟩;refine app f E rfl J λap m XR XG D XB Xx Xw=>⟨D.dh.aj,S D XB Xx (Xw.aj (ai.aj (p.new z) XE) λe=>?_) XK⟩
    obtain ⟨o,I⟩:=e;have:X=X9/\0=o:=kb I;omega
  ·rintro X9 YJ XI X5;obtain ⟨W,Yh,XE,XK⟩:=L XS XI X5;refine ⟨W.dh.aj,cO W λbj YV F Yg XA=>aG.aT bj ⟨rfl,F.dh.aj,?_⟩⟩;have XC:=ai.aj Yg XE;refine ⟨?_,?_⟩
   ·rintro aB YI XH XP;obtain ⟨t,Xy⟩:=bK.box F.new XA XH XP;have N:=F.bB Xy;have Xz:=N.new.size;have Y:=s t;have X6:=XC.lt;refine ⟨N.dh.aj,jA N λd c X7 l p C=>⟨_,_,_,rfl,l.dh.aj,?_⟩⟩;refine app l (t.new p) rfl (C.hV λk _ e=>XJ Y e Xz) λap m XR XG f R Q P=>⟨f.dh.aj,S f R Q (P.aj (ai.aj (Xy.new p) XC) λe=>?_) XK⟩
    obtain ⟨o,I⟩:=e;have:aB=X9/\0=o:=kb I;omega
   ·refine jA F λd c X7 l p C=>⟨_,_,_,rfl,l.dh.aj,?_⟩
    rintro X XW Z Xv;obtain ⟨E,z⟩:=bK.box l.new (XA.aA (ao.b9 p) λ_ _ e=>e) Z Xv;have f:=l.bB z;have X1:=F.new.size;have X2:=p.size;have X6:=XC.lt;have J:ky (λk=>k<bq.heap.size\/aL (some ⟨X,0,none⟩) k) XW d j.writes.length (j.writes.map (jG j bS)):=(C.hV (M:=λk=>k<bq.heap.size) λk _ e=>by omega).wide z λk X0 e=>by
     rcases e with e | ⟨o,I⟩
     ·exact e
     ·exfalso;have:X=k/\0=o:=kb I;omega
    refine ⟨f.dh.aj,?_⟩;refine app f E rfl J λap m XR XG D XB Xx Xw=>⟨D.dh.aj,S D XB Xx (Xw.aj (ai.aj (p.new z) XC) λe=>?_) XK⟩
    obtain ⟨o,I⟩:=e;have:X=X9/\0=o:=kb I;omega
end
end
end Go.Proofs.YtmkljjbioomepaaGreat
