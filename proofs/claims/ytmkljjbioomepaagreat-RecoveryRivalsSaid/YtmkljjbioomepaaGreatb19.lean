import Derived.Test.YtmkljjbioomepaaGreatb18
set_option linter.all false
set_option maxHeartbeats 4000000
set_option maxRecDepth 100000
namespace Go.Proofs.YtmkljjbioomepaaGreat
open Go.Proofs.Tryz Go.bu
variable {A M:a3} {G:List (List aO)} {K:an->Nat->Nat->aE} {T:fV} {a b0:an} {b ig cap aX n fR tb:Nat} {j:cU} {m:aY} {o:bA} {r:dv} {u bE bk w w' w0:ak} {vs sY:List aW}
section
theorem Mg {r:bY} {W:List aK} (h:fh w r.eu r.dO W) (al:fy r.Seq W 256≠0):a9 210 [r.val] w λv w'=>v=.slice none 0 0/\ai w w':=by refine bc Tryz.func210 ?_;rw [G3];rintro b1 w1 c b;obtain ⟨au,a⟩:=bl c b;have au:av w1 b1 r.cells 271:=au;clear b;refine bY.aR r ⟨bJ au rfl,?_⟩;refine aC (ye (h.new a) 256) ?_;rintro v f ⟨rfl,d⟩;exact ⟨_,rfl,dw (λe=>⟨rfl,a.new d⟩) (λe=>absurd e al)⟩
theorem JY (w:ak) (s:Int):a9 214 [.int .i64 s] w λv w'=>∃ x e:Int,v=.tuple #[.int .u64 x,.int .i64 e]/\w'=w/\(1<=s/\s<1073741824->x=fQ s):=by
 refine bc Tryz.func214 ?_;rw [AD];refine aC (sT w s 1 1073741823) ?_;rintro v w1 ⟨rfl,rfl⟩;refine ⟨_,rfl,ev (λa=>⟨_,_,rfl,rfl,λe=>absurd (of_decide_eq_false a) (by omega)⟩) (λ_=>⟨_,_,rfl,rfl,λe=>?_⟩)⟩
 rw [kh (x:=s) (by omega) (by omega)];rfl
theorem Dx {seq:Int} {W:List aK} (g:ca seq) (h:W.length<=12) (eW:∀ p ∈ W,ca p.bo/\ca p.Head/\∀ x ∈ hA p,ca x):∀ x ∈ fi seq W,ca x:=by
 intro x a;unfold fi nD at a;rcases jT.1 a with a | a
 ·rcases e6.1 a with rfl | a
  ·exact g
  rcases e6.1 a with rfl | a
  ·unfold ca;omega
  obtain ⟨l,b,a⟩:=oW.1 a;obtain ⟨p,f,rfl⟩:=cT.1 b;obtain ⟨c,d,e⟩:=eW p f;rcases e6.1 a with rfl | a
  ·exact c
  rcases e6.1 a with rfl | a
  ·exact d
  exact e x a
 ·simp at a;subst a;exact KV _
def oZ (j:cU):Prop:=∀ p ∈ j.writes,∀ x ∈ hA p,ca x
theorem OB (F:fa w0 u aX tb r m j) (ar:oZ j) (X:eP A w0 u tb T G) (P:fY T) :
  a9 172 [ptr aX] u (kL A w0 u tb u.heap.size (rP j G)):=by
 refine bc Tryz.func172 ?_;rw [ptr,Tc];rintro b1 bE O K;obtain ⟨l,J⟩:=bl O K;have l:av bE b1 (bA.cells ⟨0,0⟩) eS:=l;clear K;rintro Z L;have w:ai bE Z:=by rw [L];exact cE _
 clear L;have k:=J.new w;have h:=F.bz k;have N:=X.new k;have V6:=J.size;have V7:=w.size;have V5:=l.lt;have V9:=X.aj.lt;have Q:=F.bM.a1;have I:=F.bM.seq;have t:=F.cf;have V4:=t.a1;have H:=t.s3;refine ⟨λy=>av y aX (lJ r tb m) l6,h.aj,_,λy V=>V.cell (i:=0) rfl,dv.aR r ⟨λy V=>bJ V rfl,?_⟩⟩;refine aC (Dv Z (by omega)) ?_;rintro v bk ⟨rfl,rfl⟩;refine ⟨_,rfl,h.aj,?_⟩;refine aC (CS bk r) ?_;rintro v V2 ⟨rfl,z⟩;refine bY.aR _ ⟨rfl,(h.bz z).aj,?_⟩;have q:=h.bz z;have B:fh V2 r.eu r.dO j.writes:=F.bM.bQ.new q.new;have fin:∀ {E:ak} {a:an} {n cap:Nat},ai V2 E->(j.writes≠[]->bh E a (us (fi j.seq j.writes))/\n=(fi j.seq j.writes).length/\n<=cap/\(a=none->fi j.seq j.writes=[])/\(∀ x ∈ fi j.seq j.writes,ca x)/\(fi j.seq j.writes).length<=1000000)->
   Calls prog 208 #[(.pointer (some ⟨aX,0,none⟩)),(.int .i64 (e' r.Client+8)),(.slice a n cap),(.int .i64 1)] E λe W=>bA.ex λo=>∃ b:Bool,e=.returned (.tuple #[o.val,(.bool b)])/\av W aX (lJ r tb m) l6/\ec W ⟨b1,0,none⟩ 0 o.cells/\∀ M,M=cr W ⟨b1,0,none⟩ 0 o.cells->bA.ex λres=>b6 M ⟨b1,0,none⟩ 0 res.cells/\M=M/\kL A w0 u tb u.heap.size (rP j G) (.tuple #[res.val,(.bool b)]) M:=by
  intro E a n cap f hw;have c:=z.new f;have s:=ED (A:=A) (h.bz c) (N.new c) P (at_:=e' j.a1+8) hw 1;rw [Q];refine aC s ?_;rintro v V' ⟨rfl,C⟩;have V8:=c.size;refine bA.aR _ ⟨_,rfl,C.az.aj (h.bz c).aj F.ne,?_⟩;exact mf (C.az.aj (ai.aj (w.new c) l) (by omega)) rfl _ _ λWa R=>⟨rfl,C.put (k.new c) (ao.refl _ _) R (by omega) (by omega) (by omega) (by omega)⟩
 by_cases D:j.writes=[]
 ·have S:fy r.Seq j.writes 256≠0:=λe=>by have:=(jj e).2.1.2.2.1;rw [D] at this;simp at this
  refine aC (Mg (r:=⟨r.Seq,r.eu,r.dO,r.gX⟩) B S) ?_;rintro v E ⟨rfl,f⟩;exact ⟨_,_,_,rfl,(q.bz f).aj,fin f λe=>absurd D e⟩
 ·obtain ⟨al,Y⟩:=t.wr D;rw [<-I] at al Y;refine aC (yJ (r:=⟨r.Seq,r.eu,r.dO,r.gX⟩) B al Y H t.wl) ?_;rintro v E ⟨a,cap,rfl,f,d,V3⟩;refine ⟨_,_,_,rfl,(q.bz f).aj,fin f λ_=>?_⟩
  have d:a0 E 30 1 a (3+9 * j.writes.length) cap (us (fi j.seq j.writes)):=by rw [<-I];exact d
  refine ⟨d.rd,(pA _ _).symm,a0.le d,λe=>?_,Dx (by unfold ca;omega) H λp U=>?_,by rw [pA];omega⟩
  ·rcases d.2 with ⟨V_,_,_⟩ | ⟨g,cur,t,_⟩
   ·omega
   ·rw [t] at e;cases e
  ·have:=t.wl p U;exact ⟨by unfold ca;omega,B.u64 p U,ar p U⟩
theorem Mh (p:fa w0 u aX tb r m j) (D:eP A w0 u tb T G) (t:fY T) :
  a9 174 [ptr aX] u (kL A w0 u tb u.heap.size (tL j G)):=by
 refine bc Tryz.func174 ?_;rw [ptr,Td];rintro b1 bE q l;obtain ⟨d,c⟩:=bl q l;have d:av bE b1 (bA.cells ⟨0,0⟩) eS:=d;clear l;have g:=p.bz c;have J:=c.size;have I:=d.lt;have L:=D.aj.lt;have w:=p.bM.a1;have z:=p.bM.seq;have E:=p.cf;have H:=E.a1;refine ⟨_,g.aj.cell (i:=1) rfl,?_⟩;refine aC (JY bE r.Seq) ?_;rintro v N ⟨x,e,rfl,rfl,M⟩;refine ⟨_,_,rfl,_,g.aj.cell (i:=0) rfl,?_⟩;refine aC (yY N (by omega)) ?_;rintro v bk ⟨rfl,rfl⟩;refine ⟨_,rfl,?_⟩;rintro aA O s o;obtain ⟨f,b⟩:=bl s o;have f:av O aA (us [x]) om:=f;clear o;have K:=b.size;rw [w];have h:=ED (A:=A) (g.bz b) ((D.new c).new b) t (a:=some ⟨aA,0,none⟩) (n:=1) (cap:=1) (at_:=e' j.a1) (ws:=[fQ j.seq]) (λhw=>by obtain ⟨_,P⟩:=E.wr hw;have C:=M (by omega);rw [C,z] at f;exact ⟨fm f rfl,rfl,by omega,(λe=>by cases e),(λy F=>by simp at F;subst F;exact yX _),by simp⟩) 2
 refine aC h ?_;rintro v Q ⟨rfl,k⟩;refine bA.aR _ ⟨_,rfl,?_⟩;exact mf (k.az.aj (ai.aj b d) (by omega)) rfl _ _ λR B=>⟨rfl,k.put (c.new b) (ao.refl _ _) B (by omega) (by omega) (by omega) (by omega)⟩
theorem x1 (l:List aG):(l.map aG.cells).flatten=(dP l).flatten:=rfl
theorem bH.t' {C:ak} (h:bH w0 bE a n cap vs) (D:ai w0 bE) (G:bH C bE b0 fR ig sY) (o:∀ k,aL a k->k<C.heap.size) (M:w0.heap.size<=C.heap.size) (N:n+fR<=100000)
  (x:∀ ap f i,bH w0 i ap (n+fR) f (vs++sY)->ao (aL a) bE i->ai w0 i->K ap (n+fR) f i) :
  ∃ (ap:an) (d c:Nat),∃ i,(Builtin.append_ #[gx,gx] gx #[(.slice a n cap),(.slice b0 fR ig)]).run prog bE=.ok (.slice ap d c) i/\K ap d c i:=by
 obtain ⟨⟨cl,J,B⟩,I,r⟩:=h;obtain ⟨⟨b,y,j⟩,s,E⟩:=G;obtain ⟨inf,H,au,u,w⟩:=fO (T:=cz) (z:=.agg #[.int .i64 0,.int .i64 0,.int .i64 0,.int .i64 0,.int .u64 0,.int .u64 0,.slice none 0 0,.int .u64 0,.int .i64 0]) (n:=9) (m:=88) (by kernel_rfl);have L:=D.size;refine rb (cells:=aG.cells) (sz:=9) aG.len aG.single Tryz.underlying125 H au (by rw [u];rfl) u (by decide) (by rw [w];decide) (l:=cl) (by rw [x1];exact J) (l2:=b) (m:=fR) (by rw [x1];exact y.rd) (by rw [j.1];exact s) (by omega) λap f i F g p=>?_
 have q:∀ k,aL ap k->w0.heap.size<=k:=λk x=>by
  rcases p k x with e | e
  ·exact r k e
  ·omega
 refine x ap f i ⟨⟨cl++b,F,?_⟩,by rw [dI,I,s],q⟩ g (D.trans g λk o e=>by have:=r k e;omega);have t:∀ k,k<bE.heap.size->(k<w0.heap.size\/aL ap k)->(k<w0.heap.size\/aL a k):=λk o e=>e.imp id λe=>by
  rcases p k e with e | e
  ·exact e
  ·omega
 refine ep.app (B.az (g.mono λk _ e=>.inr e) t) ?_;have A:ep (λk=>k<w0.heap.size\/aL a k) bE b sY:=j.az (ao.refl _ _) λk _ e=>by
  rcases e with e | e
  ·left;omega
  ·left;exact o k e
 exact A.az (g.mono λk _ e=>.inr e) t
def j7 (j:cU) (m:aY):List aW:=if j.writes=[] then [] else j.writes.map (jw j m)++[k9 j m]
def qf (j:cU):List aW:=(j.v.mem.tail.map (j7 j)).flatten
def n3 (j:cU) (G:List (List aO)):cq:=cg G (qf j) 3
theorem KZ (j:cU) (m:aY):(j7 j m).length<=j.writes.length+1:=by
 unfold j7;split
 ·simp
 ·simp
theorem yL {α:Type} {b:Nat}:∀ (l:List (List α)),(∀ x ∈ l,x.length<=b)->l.flatten.length<=l.length * b
 | [],_=>by simp
 |x::l,h=>by
  have c:=h x e2;have d:=yL l λy a=>h y (fu _ a)
  rw [gV,dI,g7,hT];omega
theorem Mi {bN:aY} (Q:fa w0 u aX tb r bN j) (ar:oZ j) (Wf:eP A w0 u tb T G) (V3:fY T) :
  a9 175 [ptr aX] u (kL A w0 u tb u.heap.size (n3 j G)):=by
 refine bc Tryz.func175 ?_;rw [ptr,Sa];rintro b1 bE X N;obtain ⟨p,B⟩:=bl X N;have p:av bE b1 (bA.cells ⟨0,0⟩) eS:=p;clear N;have t:=Q.bz B;have Wy:=B.size;have Wv:=p.lt;have WC:=Wf.aj.lt;have R:=Q.cf;have V5:=R.mem;have Ws:=R.s3;have hlen:=Q.bM.bQ.len;obtain ⟨WH,D⟩:=Q.bM.view;refine c3.aR r.View ⟨bJ t.aj rfl,?_⟩;refine aC (BR (D.new t.new) V5.1) ?_;rintro v U ⟨Wm,ff,rfl,g,Z⟩;refine ⟨_,_,_,rfl,?_⟩;have w:=t.bz g;have Wz:=g.size;have Wh:j.v.mem.tail.length=j.v.mem.length - 1:=rr;refine c2 mix (λq env z=>∃ (i n:Nat) (pa:an) (pc:Nat) (Wj:ax),q=j.v.mem.tail.length - i/\i<=j.v.mem.tail.length/\env=ud ⟨aX,0,none⟩ ⟨b1,0,none⟩ pa n pc Wm (j.v.mem.length - 1) ff ((j.v.mem.length - 1:Nat):Int) i Wj/\ai U z/\bH U z pa n pc (((j.v.mem.tail.take i).map (j7 j)).flatten)) j.v.mem.tail.length
  ⟨0,0,none,0,_,rfl,by omega,rfl,ao.refl _ _,bH.nil _ _⟩ ?_
 rintro q env z ⟨i,n,pa,pc,Wj,rfl,WL,rfl,d,a⟩;rw [Qx];have f:=w.bz d;have WB:=d.size;have WD:=a.len;have Wg:n<=1000:=by
  have Wn:=yL (b:=j.writes.length+1) ((j.v.mem.tail.take i).map (j7 j)) λx WE=>by obtain ⟨m,_,rfl⟩:=cT.1 WE;exact KZ j m
  rw [ft,iM] at Wn;have WJ:min i j.v.mem.tail.length * (j.writes.length+1)<=5 * 13:=p5 (by omega) (by omega);omega
 refine a8 (λWw=>?_) (λWr=>?_)
 ·obtain ⟨m,hm⟩:∃ m,j.v.mem.tail[i]?=some m:=⟨_,bD (by omega)⟩;have Wx:=R.ef m (tm (b7 hm));have H:dN m.cn:=by unfold dN;omega
  have F:((j.v.mem.tail.take (i+1)).map (j7 j)).flatten=((j.v.mem.tail.take i).map (j7 j)).flatten++j7 j m:=by rw [fc,hm];simp
  refine er (cells:=aY.cells) aY.len (by omega) (Z.new d) hm rfl (by omega) λb o V2 _=>aY.aR m ⟨V2,?_⟩
  refine ea (vs:=m.cells) rfl (aY.single _) λWl WG Wq O c=>⟨_,_,_,(f.bz c).aj.cell (i:=6) rfl,?_⟩
  have WA:=c.size;rw [bC (x:=(i:Int)+1) (by omega) (by omega)];refine a8 (λhw=>?_) (λhw=>?_)
  ·have l:j.writes≠[]:=λe=>by rw [e] at hlen;simp at hlen <;> omega
   obtain ⟨_,V_⟩:=R.wr l;refine aY.aR m ⟨bJ O rfl,?_⟩;refine aC (CW (f.bz c) ar H) ?_;rintro v WO ⟨gI,gc,rfl,Wa,h⟩;refine ⟨_,_,_,rfl,?_⟩;have L:∀ k,aL pa k->k<WG.heap.size:=λk S=>by obtain ⟨cl,K,_⟩:=a.ex;have:=K.lt S;omega
   refine bH.t' ((a.new c).new h) ((d.new c).new h) Wa L (by omega) (by omega) λap Wd Wk Wp J C=>?_
   have I:fa w0 Wk aX tb r bN j:=((f.bz c).bz h).az J λk S=>by
    have WK:=a.gi k S;have Wo:=w.new.size;refine ⟨by omega,λe=>?_⟩
    obtain ⟨cl,K,_⟩:=a.ex;obtain ⟨cs,V4⟩:=fM K S;exact absurd (e▸V4 |>.ne f.aj (by decide)) (λWt=>Wt rfl)
   have P:av Wk Wl m.cells eI:=J.aj (ai.aj h O) λe=>by obtain ⟨cl,K,_⟩:=a.ex;have:=K.lt e;omega
   refine aY.aR m ⟨bJ P rfl,?_⟩;refine aC (EQ I V_ H) ?_;rintro v WP ⟨bj,rfl,V',V8⟩;refine aG.aR bj ⟨rfl,?_⟩;rintro WI WQ Y Wc;refine bH.lQ Wp C V8 V' (by omega) Y Wc λV E WR We Wu V9=>?_
   have W:((j.v.mem.tail.take i).map (j7 j)).flatten++j.writes.map (jw j m)++[k9 j m]=((j.v.mem.tail.take (i+1)).map (j7 j)).flatten:=by rw [F];unfold j7;rw [if_neg l,lr]
   rw [W] at We;exact ⟨j.v.mem.tail.length - (i+1),by omega,i+1,_,V,E,_,rfl,by omega,rfl,V9,We⟩
  ·have l:j.writes=[]:=fI (by omega);refine ⟨j.v.mem.tail.length - (i+1),by omega,i+1,n,pa,pc,_,rfl,by omega,rfl,d.new c,?_⟩;have W:j7 j m=[]:=by unfold j7;rw [if_pos l]
   rw [F,W,i'];exact a.new c
 ·have V6:i=j.v.mem.tail.length:=by omega
  subst V6;rw [QI];rw [hx] at a;have a:bH U z pa n pc (qf j):=a;have Wi:=a.len;have s:=(B.new g).new d;have y:=rN (A:=A) f (Wf.new s) V3 w.new (w1:=U) (by omega) a (by omega) 3;refine aC y ?_;rintro v WF ⟨dB,dc,raw,rfl,M,_⟩;refine ⟨_,_,_,bA.aR ⟨(n3 j G).out.1,(n3 j G).out.2⟩ ⟨(n3 j G).ok,rfl,?_⟩⟩;have Wb:av WF b1 (bA.cells ⟨0,0⟩) eS:=M.az.aj (ai.aj (g.new d) p) (by omega);refine EC Wb rfl _ λWM WN C V7=>⟨rfl,M.put s C V7 (by omega) (by omega) (by omega) (by omega)⟩
end
section
theorem j4 {k a c:Nat} (h:(some ⟨b,a,none⟩:an)=some ⟨k,c,none⟩):b=k/\a=c:=by injection h with h;injection h with d e;exact ⟨d,e⟩
theorem av.get {i:Nat} {cs:ax} {T:TypeId} {v:a2} (h:av w b cs T) (a:w.cell? ⟨b,i,none⟩=some v):cs[i]?=some v:=by unfold World.cell? at a;simp only [show w.heap[(⟨b,i,none⟩:aS).block]?=_ from h] at a;simpa using a
theorem bH.Qv {bs:ak} (h:bH w0 u a n cap vs) (w:av u b o.cells eS) (l:ao (λk=>k=b) u bs):bH w0 bs a n cap vs:=by
 obtain ⟨⟨cl,z,al⟩,F,E⟩:=h;have p:¬ aL a b:=λe=>by obtain ⟨cs,q⟩:=fM z e;exact q.ne w (by decide) rfl
 refine ⟨⟨cl,z.az l λk l e=>p (e▸l),al.1,λi v x f C=>?_⟩,F,E⟩;have c:=al.2 i v x f C;have r:cF (λk=>k=b\/(k<w0.heap.size\/aL a k)) u v x:=by
  refine ⟨c.eq,c.rd,c.nil,?_,c.wf,c.new,c.old,c.key,c.ef,c.cap,c.kN⟩;by_cases he:x.words=[]
  ·exact .inl he
  ·right;have d:=c.off.resolve_left he;have g:=c.rd;cases hw:v.Words with
   |none=>trivial
   |some bx=>
    rw [hw] at d g;rintro (e | e)
    ·obtain ⟨y,ys,j⟩:=rm he;rcases g with A | ⟨b',B,s,D⟩
     ·rw [j] at A;cases A
     ·simp only [fe] at s;subst s;have e:b'=b:=e;subst e;have t:=D 0 (.int .u64 y) (by rw [j];rfl);rw [l0] at t;have f:=av.get w t;rcases B with _ | _ | B
      ·cases f
      ·cases f
      ·cases f
    ·exact d e
 exact (r.az (l.mono λk _ e=>.inl e) λ_ _ e=>e).mono λk e=>.inr e
theorem gy.SG {j l:ak} {B B':Nat} {R:cq} (h:gy A w0 bE tb B R j) (t:ai u bE) (a:ai j bk) (w:av bk b o.cells eS) (f:ao (λk=>k=b) bk l) (C:u.heap.size<=b) (d:b≠tb) (z:B'<=B):gy A w0 u tb B' R l:=by
 obtain ⟨g,n,x,hw,c⟩:=h;refine ⟨(((ao.b4 t).trans g λ_ _ e=>e).new a).trans f λk s e=>by omega,n,(x.new a).az f λe=>d e.symm,hw,?_⟩;cases i:R.ask with
 |none=>rw [i] at c;exact c
 |some vs=>rw [i] at c;obtain ⟨p,w1,q,y,r⟩:=c;exact ⟨p,w1,q,by omega,(r.new a).Qv w f⟩
def km (M:a3) (w:ak) (a:an) (n:Nat) (vs:List aW):Prop:=∃ cl:List aG,bh w a (dP cl).flatten/\ep M w cl vs/\n=vs.length
theorem km.new {M:a3} {w w':ak} {a:an} {n:Nat} {vs:List aW} (h:km M w a n vs) (b:ai w w'):km M w' a n vs:=by obtain ⟨cl,c,d,f⟩:=h;exact ⟨cl,c.new b,d.az (ao.b4 b) λ_ _ e=>e,f⟩
theorem bH.hM (h:bH w0 u a n cap vs) (c:∀ k,k<u.heap.size->M k->k<w0.heap.size):km M u a n vs:=by obtain ⟨⟨cl,f,al⟩,d,g⟩:=h;exact ⟨cl,f.rd,al.az (ao.refl _ _) λk b e=>.inl (c k b e),d⟩
theorem km.wide {M':a3} (h:km M w a n vs) (b:ai w w') (i:∀ k,k<w.heap.size->M' k->M k):km M' w' a n vs:=by obtain ⟨cl,c,d,f⟩:=h;refine ⟨cl,c.new b,?_,f⟩;have g:ep M' w cl vs:=d.az (ao.refl _ _) i;exact g.az (ao.b4 b) λ_ _ e=>e
theorem bH.E8 (h:bH w0 bE a n cap vs) (B:ai w0 bE) (D:km (λk=>k<w0.heap.size\/aL a k) bE b0 fR sY) (I:n+fR<=100000)
  (w:∀ ap d i,bH w0 i ap (n+fR) d (vs++sY)->ao (aL a) bE i->ai w0 i->K ap (n+fR) d i) :
  ∃ (ap:an) (c b:Nat),∃ i,(Builtin.append_ #[gx,gx] gx #[(.slice a n cap),(.slice b0 fR ig)]).run prog bE=.ok (.slice ap c b) i/\K ap c b i:=by
 obtain ⟨⟨cl,G,A⟩,F,q⟩:=h;obtain ⟨f,y,j,r⟩:=D;obtain ⟨inf,E,au,t,u⟩:=fO (T:=cz) (z:=.agg #[.int .i64 0,.int .i64 0,.int .i64 0,.int .i64 0,.int .u64 0,.int .u64 0,.slice none 0 0,.int .u64 0,.int .i64 0]) (n:=9) (m:=88) (by kernel_rfl);have H:=B.size;refine rb (cells:=aG.cells) (sz:=9) aG.len aG.single Tryz.underlying125 E au (by rw [t];rfl) t (by decide) (by rw [u];decide) (l:=cl) (by rw [x1];exact G) (l2:=f) (m:=fR) (by rw [x1];exact y) (by rw [j.1];exact r) (by omega) λap d i C g o=>?_
 have p:∀ k,aL ap k->w0.heap.size<=k:=λk w=>by
  rcases o k w with e | e
  ·exact q k e
  ·omega
 have s:∀ k,k<bE.heap.size->(k<w0.heap.size\/aL ap k)->(k<w0.heap.size\/aL a k):=λk x e=>e.imp id λe=>by
  rcases o k e with e | e
  ·exact e
  ·omega
 exact w ap d i ⟨⟨cl++f,C,ep.app (A.az (g.mono λk _ e=>.inr e) s) (j.az (g.mono λk _ e=>.inr e) s)⟩,by rw [dI,F,r],p⟩ g (B.trans g λk x e=>by have:=q k e;omega)
theorem bH.box {v:aG} {x:aW} (j:ai bk w) (al:cF (λk=>k<bk.heap.size) w v x) (f:b=w.heap.size) (hw:w'=w.alloc (.cells v.cells.toArray cz)):bH bk w' (some ⟨b,0,none⟩) 1 1 [x]/\ai w w':=by
 obtain ⟨au,a⟩:=bl f hw;have au:av w' b v.cells cz:=au;have l:=j.size;refine ⟨⟨⟨[v],⟨rfl,.inr ⟨b,_,rfl,au,by omega,by decide,rfl,by rw [show (dP [v]).flatten=v.cells by simp [dP]];rfl⟩⟩,ep.one ?_⟩,rfl,λk h=>by obtain ⟨o,c⟩:=h;simp at c <;> omega⟩,a⟩;have d:cF (λk=>k<bk.heap.size\/aL (some ⟨b,0,none⟩) k) w v x:=al.az (ao.refl _ _) λk i e=>by
  rcases e with e | ⟨o,c⟩
  ·exact e
  ·exfalso;have g:b=k/\0=o:=j4 c;omega
 exact d.az (ao.b4 a) λ_ _ e=>e
def h1 (j:cU):List aW:=match j.v.mem with
 |m::_=>k9 j m::j.writes.map (jw j m)
 | []=>[]
def nq (j:cU) (G:List (List aO)):cq:=if j.writes=[] then rT G else cg G (h1 j) 3
structure FS (A:a3) (w0 bk:ak) (aX tb b1:Nat) (r:dv) (bN:aY) (j:cU) (T:fV) (G:List (List aO)) (w:ak):Prop where
 di:fa w0 w aX tb r bN j
 fS:eP A w0 w tb T G
 b1:av w b1 (bA.cells ⟨0,0⟩) eS
 new:ai bk w
theorem FS.bz {A:a3} {w0 bk w w':ak} {aX tb b1:Nat} {r:dv} {bN:aY} {j:cU} {T:fV} {G:List (List aO)} (h:FS A w0 bk aX tb b1 r bN j T G w) (a:ai w w'):FS A w0 bk aX tb b1 r bN j T G w':=
 ⟨h.di.bz a,h.fS.new a,ai.aj a h.b1,h.new.new a⟩
theorem FS.az {A:a3} {w0 bk w w':ak} {aX tb b1:Nat} {r:dv} {bN:aY} {j:cU} {T:fV} {G:List (List aO)} (h:FS A w0 bk aX tb b1 r bN j T G w) {M:a3} (b:ao M w w') (a:∀ k,M k->bk.heap.size<=k) (g:aX<bk.heap.size) (i:tb<bk.heap.size) (f:b1<bk.heap.size) (d:w0.heap.size<=bk.heap.size):FS A w0 bk aX tb b1 r bN j T G w':=
 ⟨h.di.az b λk e=>by have:=a k e;omega,h.fS.az b λe=>by have:=a _ e;omega,b.aj h.b1 λe=>by have:=a _ e;omega,h.new.trans b λk c e=>by have:=a k e;omega⟩
section
variable {A:a3} {w0 u bk:ak} {aX tb b1:Nat} {r:dv} {bN:aY} {j:cU} {T:fV} {G:List (List aO)}
theorem OC (J:ai u bk) (U:aX<bk.heap.size) (S:tb<bk.heap.size) (L:b1<bk.heap.size) (M:u.heap.size<=b1) (C:b1≠tb) (F:ai w0 bk) (D:fY T) {R:cB} (K:∀ v w',kL A w0 u tb u.heap.size (cg G (h1 j) 3) v w'->R v w') {w:ak} (f:FS A w0 bk aX tb b1 r bN j T G w) {a:an} {n cap:Nat} (al:bH bk w a n cap (h1 j)) (V:n<=100000) :
  Calls prog 213 #[(.pointer (some ⟨aX,0,none⟩)),(.slice a n cap),(.int .i64 3)] w λe p=>∃ (k:an) (l m:Nat),bA.ex λz=>∃ (n:Bool),e=.returned (.tuple #[(.slice k l m),z.val,(.bool n)])/\av p aX (lJ r tb bN) l6/\∀ i q,i=p.heap.size->q=p.alloc (.cells #[(.int .i64 0),(.int .i64 0)] eS)->av q aX (lJ r tb bN) l6/\ec q ⟨i,0,none⟩ 0 z.cells/\∀ cA,cA=cr q ⟨i,0,none⟩ 0 z.cells->bA.ex λr=>b6 cA ⟨i,0,none⟩ 0 r.cells/\ec cA ⟨b1,0,none⟩ 0 r.cells/\∀ o,o=cr cA ⟨b1,0,none⟩ 0 r.cells->bA.ex λig=>b6 o ⟨b1,0,none⟩ 0 ig.cells/\o=o/\R (.tuple #[ig.val,(.bool n)]) o:=by
 have d:=rN (A:=A) f.di f.fS D F S al (by have:=al.len;omega) 3;refine aC d ?_;rintro v p ⟨dB,dc,raw,rfl,b,_⟩;refine ⟨_,_,_,bA.aR ⟨(cg G (h1 j) 3).out.1,(cg G (h1 j) 3).out.2⟩ ⟨_,rfl,?_⟩⟩;have c:av p aX (lJ r tb bN) l6:=b.az.aj f.di.aj f.di.ne;refine ⟨c,?_⟩;rintro i q B y;obtain ⟨h,g⟩:=bl B y;have h:av q i (bA.cells ⟨0,0⟩) eS:=h;clear y;have P:=b.az.size;have Q:=f.new.size;have O:=J.size;refine ⟨ai.aj g c,dQ h rfl (bA.single _) λcA H t=>bA.aR _ ⟨bJ H rfl,?_⟩⟩;have s:av cA b1 (bA.cells ⟨0,0⟩) eS:=t.aj (ai.aj g (b.az.aj f.b1 C)) (by omega);refine dQ s rfl (bA.single _) λo I E=>bA.aR _ ⟨bJ I rfl,rfl,K _ _ ⟨rfl,?_⟩⟩
 have x:ai p cA:=g.trans t λk N e=>by omega
 exact b.put (J.new f.new) x E (by omega) L (by omega) (by omega)
theorem PI (E:ai u bk) (P:aX<bk.heap.size) (N:tb<bk.heap.size) (H:b1<bk.heap.size) (J:u.heap.size<=b1) (t:b1≠tb) (z:ai w0 bk) (x:fY T) {R:cB} (F:∀ v w',kL A w0 u tb u.heap.size (cg G (h1 j) 3) v w'->R v w') {w:ak} (f:FS A w0 bk aX tb b1 r bN j T G w) {a:an} {n cap:Nat} (al:bH bk w a n cap (h1 j)) (Q:n<=100000) {g:Nat} (D:av w g (bA.cells ⟨0,0⟩) eS) (I:bk.heap.size<=g) :
  Calls prog 213 #[(.pointer (some ⟨aX,0,none⟩)),(.slice a n cap),(.int .i64 3)] w λe q=>∃ (k:an) (l m:Nat),bA.ex λs=>∃ (n:Bool),e=.returned (.tuple #[(.slice k l m),s.val,(.bool n)])/\av q aX (lJ r tb bN) l6/\ec q ⟨g,0,none⟩ 0 s.cells/\∀ cA,cA=cr q ⟨g,0,none⟩ 0 s.cells->bA.ex λr=>b6 cA ⟨g,0,none⟩ 0 r.cells/\ec cA ⟨b1,0,none⟩ 0 r.cells/\∀ h,h=cr cA ⟨b1,0,none⟩ 0 r.cells->bA.ex λig=>b6 h ⟨b1,0,none⟩ 0 ig.cells/\h=h/\R (.tuple #[ig.val,(.bool n)]) h:=by
 have d:=rN (A:=A) f.di f.fS x z N al (by have:=al.len;omega) 3;refine aC d ?_;rintro v O ⟨dB,dc,raw,rfl,b,_⟩;refine ⟨_,_,_,bA.aR ⟨(cg G (h1 j) 3).out.1,(cg G (h1 j) 3).out.2⟩ ⟨_,rfl,?_⟩⟩;have L:=b.az.size;have M:=f.new.size;have K:=E.size;have c:av O g (bA.cells ⟨0,0⟩) eS:=b.az.aj D (by omega);refine ⟨b.az.aj f.di.aj f.di.ne,dQ c rfl (bA.single _) λcA B o=>bA.aR _ ⟨bJ B rfl,?_⟩⟩;have i:av cA b1 (bA.cells ⟨0,0⟩) eS:=o.aj (b.az.aj f.b1 t) (by omega);refine dQ i rfl (bA.single _) λh C y=>bA.aR _ ⟨bJ C rfl,rfl,F _ _ ⟨rfl,?_⟩⟩
 have p:=b.SG (u:=u) (B':=bk.heap.size) (E.new f.new) (ao.refl _ _) c o (by omega) (by omega) (cQ _);exact p.put (ao.refl _ _) (ao.refl _ _) y (by omega) H (by omega) (by omega)
theorem K0 (Wh:fa w0 u aX tb r bN j) (ar:oZ j) (W_:eP A w0 u tb T G) (Wu:fY T) :
  a9 176 [ptr aX] u (kL A w0 u tb u.heap.size (nq j G)):=by
 refine bc Tryz.func176 ?_;rw [ptr,RX];rintro b1 bE WV WP;obtain ⟨Wl,Wi⟩:=bl WV WP;have Wl:av bE b1 (bA.cells ⟨0,0⟩) eS:=Wl;clear WP;have WK:=Wh.bz Wi;have WJ:=W_.new Wi;have hlen:=Wh.bM.bQ.len;have W3:=Wi.size;have W0:=Wl.lt;have Xo:=W_.aj.lt;have Xb:=Wh.aj.lt;have WY:=Wh.cf;have Xl:=WY.s3;have V_:=Wh.mem;have Xm:=WY.ef bN (b7 V_);have Wq:dN bN.cn:=by unfold dN;omega
 have WG:h1 j=[k9 j bN]++j.writes.map (jw j bN):=by
  unfold h1;cases WM:j.v.mem with
  |nil=>rw [WM] at V_;cases V_
  |cons x xs=>rw [WM] at V_;simp at V_;subst V_;rfl
 unfold nq;refine ⟨_,_,_,WK.aj.cell (i:=6) rfl,dY (λe=>?_) (λe=>?_)⟩
 ·have Wp:j.writes=[]:=fI (by omega);rw [if_pos Wp];exact mf Wl rfl 0 0 λXu WZ=>⟨rfl,(gy.skip (B:=bE.heap.size) WJ Wu (ao.refl _ _)).put Wi (ao.refl _ _) WZ (by omega) W0 (by omega) W3⟩
 ·have Wp:j.writes≠[]:=λXi=>by rw [Xi] at hlen;simp at hlen <;> omega
  rw [if_neg Wp];obtain ⟨_,W5⟩:=WY.wr Wp;rintro bk WQ;have Wj:ai bE bk:=by rw [WQ];exact cE _
  clear WQ;have WH:=Wi.new Wj;have Xn:=Wj.size;have Wn:FS A w0 bk aX tb b1 r bN j T G bk:=⟨WK.bz Wj,WJ.new Wj,ai.aj Wj Wl,ao.refl _ _⟩;have Wz:=Wn.di.new;have Xd:=Wz.size;have so:=@OC A w0 u bk aX tb b1 r bN j T G WH (by omega) (by omega) (by omega) (by omega) (by omega) Wz Wu (kL A w0 u tb u.heap.size (cg G (h1 j) 3)) (λ_ _ h=>h);have S:=@PI A w0 u bk aX tb b1 r bN j T G WH (by omega) (by omega) (by omega) (by omega) (by omega) Wz Wu (kL A w0 u tb u.heap.size (cg G (h1 j) 3)) (λ_ _ h=>h);have app:∀ {w:ak} {aA:Nat} {d:an} {n g:Nat},FS A w0 bk aX tb b1 r bN j T G w->bH bk w (some ⟨aA,0,none⟩) 1 1 [k9 j bN]->n=j.writes.length->km (λk=>k<bk.heap.size\/aL (some ⟨aA,0,none⟩) k) w d n (j.writes.map (jw j bN))->∀ {K:an->Nat->Nat->aE},(∀ ap m c w',FS A w0 bk aX tb b1 r bN j T G w'->bH bk w' ap m c (h1 j)->m<=100000->ao (aL (some ⟨aA,0,none⟩)) w w'->K ap m c w')->
    ∃ (ap:an) (h i:Nat),∃ Wb,(Builtin.append_ #[gx,gx] gx #[(.slice (some ⟨aA,0,none⟩) 1 1),(.slice d n g)]).run prog w=.ok (.slice ap h i) Wb/\K ap h i Wb:=by
   intro w aA d n g Wa WT Wo W2 K WI;refine bH.E8 WT Wa.new W2 (by omega) λap WF Xp W9 P z=>?_
   rw [<-WG] at W9;exact WI ap _ WF Xp (Wa.az P (λk Xc=>WT.gi k Xc) (by omega) (by omega) (by omega) (by omega)) W9 (by omega) P
  have L:∀ {w w':ak} {b:Nat},FS A w0 bk aX tb b1 r bN j T G w->b=w.heap.size->w'=w.alloc (.cells #[(.int .i64 0),(.int .i64 0)] eS)->FS A w0 bk aX tb b1 r bN j T G w'/\ai w w'/\av w' b (bA.cells ⟨0,0⟩) eS/\bk.heap.size<=b:=by intro w w' b Wa Xk hw;obtain ⟨au,Wo⟩:=bl Xk hw;have:=Wa.new.size;exact ⟨Wa.bz Wo,Wo,au,by omega⟩
  have cH:∀ {w:ak} {K:Ending->aE},FS A w0 bk aX tb b1 r bN j T G w->(∀ (bj:aG) w',FS A w0 bk aX tb b1 r bN j T G w'->ai w w'->cF (λk=>k<bk.heap.size) w' bj (k9 j bN)->K (.returned bj.val) w')->Calls prog 218 #[(.pointer (some ⟨aX,0,none⟩)),bN.val] w K:=by intro w K Wa WI;refine aC (EQ Wa.di W5 Wq) ?_;rintro v w' ⟨bj,rfl,Wy,Wo⟩;have:=Wa.new.size;exact WI bj w' (Wa.bz Wo) Wo (Wy.mono λk Xc=>by omega)
  have jn:∀ {w:ak} {K:Ending->aE},FS A w0 bk aX tb b1 r bN j T G w->(∀ (a:an) (c:Nat) w',FS A w0 bk aX tb b1 r bN j T G w'->ai w w'->bH w w' a j.writes.length c (j.writes.map (jw j bN))->K (.returned (.slice a j.writes.length c)) w')->Calls prog 217 #[(.pointer (some ⟨aX,0,none⟩)),bN.val] w K:=by intro w K Wa WI;refine aC (CW Wa.di ar Wq) ?_;rintro v w' ⟨a,c,rfl,Wy,Wo⟩;exact WI a c w' (Wa.bz Wo) Wo Wy
  have We:∀ {w:ak} {aA k:Nat},aA<w.heap.size->(k<bk.heap.size\/aL (some ⟨aA,0,none⟩) k)->bk.heap.size<=w.heap.size->k<w.heap.size:=by
   intro w aA k Xs Xj Xt;rcases Xj with e | ⟨o,I⟩
   ·omega
   ·have:aA=k/\0=o:=j4 I;omega
  have s:∀ {w:ak} {aA n c:Nat} {vs:List aW},bH bk w (some ⟨aA,0,none⟩) n c vs->aA<w.heap.size:=by intro w aA n c vs h;obtain ⟨cl,I,_⟩:=h.ex;exact I.lt ⟨0,rfl⟩
  refine ⟨λy=>av y aX (lJ r tb bN) l6,Wn.di.aj,aY.aR bN ⟨λy W6=>bJ W6 rfl,aY.aR bN ⟨λy W6=>bJ W6 rfl,?_⟩⟩⟩;refine ⟨cH Wn λbj Xq F WN V7=>aG.aR bj ⟨rfl,F.di.aj,?_,?_,?_⟩,?_⟩
  ·
   rintro aA Xe Wc Wk;obtain ⟨t,V5⟩:=bH.box F.new V7 Wc Wk;have N:=F.bz V5;have V6:=N.new.size;have Y:=s t;refine ⟨N.di.aj,?_,?_⟩
   ·refine jn N λd c WC l p C=>⟨_,_,_,rfl,l.di.aj,?_,?_⟩
    ·refine app l (t.new p) rfl (C.hM λk _ e=>We Y e V6) λap m Wm Wb f R Q _=>⟨f.di.aj,so f R Q,?_⟩
     rintro Xg Xh Ws Wt;obtain ⟨q,H,O,U⟩:=L f Ws Wt;exact ⟨q.di.aj,S q (R.new H) Q O U⟩
    ·rintro WD W8 V Wg;obtain ⟨q,H,O,U⟩:=L l V Wg;refine ⟨q.di.aj,?_⟩;have W4:=p.size;refine app q (t.new (p.new H)) rfl ((C.hM λk _ e=>We Y e V6).new H) λap m Wm Wb f R Q P=>⟨f.di.aj,S f R Q (P.aj O λe=>?_) U⟩
     obtain ⟨o,I⟩:=e;have:aA=WD/\0=o:=j4 I;omega
   ·rintro dq Xr WW WX;obtain ⟨q,H,O,U⟩:=L N WW WX;have W4:=H.size;have WU:=O.lt;refine ⟨q.di.aj,jn q λd c WC l p C=>⟨_,_,_,rfl,l.di.aj,?_⟩⟩;refine app l (t.new (H.new p)) rfl (C.hM λk _ e=>by have:=We Y e V6;omega) λap m Wm Wb f R Q P=>⟨f.di.aj,S f R Q (P.aj (ai.aj p O) λe=>?_) U⟩
    obtain ⟨o,I⟩:=e;have:aA=dq/\0=o:=j4 I;omega
  ·
   refine jn F λd c WC l p C=>⟨_,_,_,rfl,l.di.aj,?_,?_⟩
   ·rintro X Wr Z V2;obtain ⟨E,z⟩:=bH.box l.new (V7.az (ao.b4 p) λ_ _ e=>e) Z V2;have f:=l.bz z;have Ww:=F.new.size;have Wx:=l.new.size;have J:km (λk=>k<bk.heap.size\/aL (some ⟨X,0,none⟩) k) Wr d j.writes.length (j.writes.map (jw j bN)):=(C.hM (M:=λk=>k<bk.heap.size) λk _ e=>by omega).wide z λk Wv e=>by
     rcases e with e | ⟨o,I⟩
     ·exact e
     ·exfalso;have:X=k/\0=o:=j4 I;omega
    refine ⟨f.di.aj,?_,?_⟩
    ·refine app f E rfl J λap m Wm Wb q WR WL _=>⟨q.di.aj,so q WR WL,?_⟩
     rintro Xg Xh Ws Wt;obtain ⟨D,W1,W7,Wd⟩:=L q Ws Wt;exact ⟨D.di.aj,S D (WR.new W1) WL W7 Wd⟩
    ·rintro WD W8 V Wg;obtain ⟨q,H,O,U⟩:=L f V Wg;refine ⟨q.di.aj,?_⟩;have Xa:=s E;refine app q (E.new H) rfl (J.new H) λap m Wm Wb D V8 V4 V3=>⟨D.di.aj,S D V8 V4 (V3.aj O λe=>?_) U⟩
     obtain ⟨o,I⟩:=e;have:X=WD/\0=o:=j4 I;omega
   ·rintro WD W8 V Wg;obtain ⟨q,H,O,U⟩:=L l V Wg;refine ⟨q.di.aj,?_⟩;rintro X Wr Z V2;obtain ⟨E,z⟩:=bH.box q.new (V7.az (ao.b4 (p.new H)) λ_ _ e=>e) Z V2;have f:=q.bz z;have Ww:=F.new.size;have Wx:=l.new.size;have WU:=O.lt;have J:km (λk=>k<bk.heap.size\/aL (some ⟨X,0,none⟩) k) Wr d j.writes.length (j.writes.map (jw j bN)):=((C.hM (M:=λk=>k<bk.heap.size) λk _ e=>by omega).new H).wide z λk Wv e=>by
     rcases e with e | ⟨o,I⟩
     ·exact e
     ·exfalso;have:X=k/\0=o:=j4 I;omega
    refine ⟨f.di.aj,?_⟩;refine app f E rfl J λap m Wm Wb D V8 V4 V3=>⟨D.di.aj,S D V8 V4 (V3.aj (ai.aj z O) λe=>?_) U⟩
    obtain ⟨o,I⟩:=e;have:X=WD/\0=o:=j4 I;omega
  ·
   rintro WE Xf Wd WA;obtain ⟨W,WO,V',Wf⟩:=L F Wd WA;have WS:cF (λk=>k<bk.heap.size) Xf bj (k9 j bN):=V7.az (ao.b4 WO) λ_ _ e=>e
   refine ⟨W.di.aj,?_⟩;refine ⟨?_,?_⟩
   ·rintro aA Xe Wc Wk;obtain ⟨t,V5⟩:=bH.box W.new WS Wc Wk;have N:=W.bz V5;have V6:=N.new.size;have Y:=s t;have WB:=V'.lt;refine ⟨N.di.aj,jn N λd c WC l p C=>⟨_,_,_,rfl,l.di.aj,?_⟩⟩;refine app l (t.new p) rfl (C.hM λk _ e=>We Y e V6) λap m Wm Wb f R Q P=>⟨f.di.aj,S f R Q (P.aj (ai.aj (V5.new p) V') λe=>?_) Wf⟩
    obtain ⟨o,I⟩:=e;have:aA=WE/\0=o:=j4 I;omega
   ·refine jn W λd c WC l p C=>⟨_,_,_,rfl,l.di.aj,?_⟩
    rintro X Wr Z V2;obtain ⟨E,z⟩:=bH.box l.new (WS.az (ao.b4 p) λ_ _ e=>e) Z V2;have f:=l.bz z;have Ww:=W.new.size;have Wx:=p.size;have WB:=V'.lt;have J:km (λk=>k<bk.heap.size\/aL (some ⟨X,0,none⟩) k) Wr d j.writes.length (j.writes.map (jw j bN)):=(C.hM (M:=λk=>k<bk.heap.size) λk _ e=>by omega).wide z λk Wv e=>by
     rcases e with e | ⟨o,I⟩
     ·exact e
     ·exfalso;have:X=k/\0=o:=j4 I;omega
    refine ⟨f.di.aj,?_⟩;refine app f E rfl J λap m Wm Wb D V8 V4 V3=>⟨D.di.aj,S D V8 V4 (V3.aj (ai.aj (p.new z) V') λe=>?_) Wf⟩
    obtain ⟨o,I⟩:=e;have:X=WE/\0=o:=j4 I;omega
  ·rintro WE Xf Wd WA;obtain ⟨W,WO,V',Wf⟩:=L Wn Wd WA;refine ⟨W.di.aj,cH W λbj Xq F WN V7=>aG.aR bj ⟨rfl,F.di.aj,?_⟩⟩;have V9:=ai.aj WN V';refine ⟨?_,?_⟩
   ·rintro aA Xe Wc Wk;obtain ⟨t,V5⟩:=bH.box F.new V7 Wc Wk;have N:=F.bz V5;have V6:=N.new.size;have Y:=s t;have WB:=V9.lt;refine ⟨N.di.aj,jn N λd c WC l p C=>⟨_,_,_,rfl,l.di.aj,?_⟩⟩;refine app l (t.new p) rfl (C.hM λk _ e=>We Y e V6) λap m Wm Wb f R Q P=>⟨f.di.aj,S f R Q (P.aj (ai.aj (V5.new p) V9) λe=>?_) Wf⟩
    obtain ⟨o,I⟩:=e;have:aA=WE/\0=o:=j4 I;omega
   ·refine jn F λd c WC l p C=>⟨_,_,_,rfl,l.di.aj,?_⟩
    rintro X Wr Z V2;obtain ⟨E,z⟩:=bH.box l.new (V7.az (ao.b4 p) λ_ _ e=>e) Z V2;have f:=l.bz z;have Ww:=F.new.size;have Wx:=p.size;have WB:=V9.lt;have J:km (λk=>k<bk.heap.size\/aL (some ⟨X,0,none⟩) k) Wr d j.writes.length (j.writes.map (jw j bN)):=(C.hM (M:=λk=>k<bk.heap.size) λk _ e=>by omega).wide z λk Wv e=>by
     rcases e with e | ⟨o,I⟩
     ·exact e
     ·exfalso;have:X=k/\0=o:=j4 I;omega
    refine ⟨f.di.aj,?_⟩;refine app f E rfl J λap m Wm Wb D V8 V4 V3=>⟨D.di.aj,S D V8 V4 (V3.aj (ai.aj (p.new z) V9) λe=>?_) Wf⟩
    obtain ⟨o,I⟩:=e;have:X=WE/\0=o:=j4 I;omega
end
end
end Go.Proofs.YtmkljjbioomepaaGreat
