import Derived.Test.YtmkljjbioomepaaGreatd32
import Derived.Test.YtmkljjbioomepaaGreatd20
import Derived.Test.YtmkljjbioomepaaGreatd23
set_option linter.all false
set_option maxHeartbeats 4000000
set_option maxRecDepth 100000
namespace Go.Proofs.YtmkljjbioomepaaGreat
open Go.Proofs.Tryz Go.bs
variable {A:bu} {D:List aM} {G:List (List aM)} {aV:List a8} {aH:a8} {f:List (List aM)->cr×dA} {i m:Nat} {j:ca} {l eE:List aK} {p:aK} {eN sp:cT} {s:Int} {u w:ak} {vs:List aQ} {x:aN}
section
def mF (j:ca):a0:=j.v.mem.getD 0 jW
def fM (j:ca) (G:List (List aM)):List aQ×dA×Bool:=
 if j.valid≠0 then ([],⟨j.valid,0,0,0,0⟩,true) else match (ih j (mF j) G).1.ask with
 |some vs=>(vs,⟨0,0,0,0,0⟩,false)
 |none=>if (ih j (mF j) G).1.dD=true\/(ih j (mF j) G).1.a7≠[] then ([],⟨6,0,0,0,0⟩,true) else ([],(ih j (mF j) G).2,true)
def nY (w:ak) (j:ca) (G:List (List aM)) (v:a4) (u:ak):Prop:=
 ∃ (aa:an) (ac:Nat) (cp:List aG),v=.tuple #[.slice aa cp.length ac,(fM j G).2.1.val,.bool (fM j G).2.2]/\ai w u/\bk u aa (dP cp).flatten/\(∀ k,aL aa k->w.heap.size<=k)/\et (λk=>k<w.heap.size) u cp (fM j G).1
theorem nY.nil {o:dA} {b:Bool} (h:fM j G=([],o,b)) (c:ai w u):nY w j G (.tuple #[.slice none 0 0,o.val,.bool b]) u:=
 ⟨none,0,[],by rw [h];rfl,c,.inl rfl,λk a=>absurd a nO,by rw [h];exact ⟨rfl,λi v x al=>by simp at al⟩⟩
theorem x5 {b:Nat} {cs:ax} (au:av u b cs ph) (g:cs.length=5) (o:dA) {K:dA->aF} (f:∀ e,ao (λk=>k=b) u e->K o e) :
  eh u ⟨b,0,none⟩ 0 o.cells/\∀ a,a=cu u ⟨b,0,none⟩ 0 o.cells->dA.ex λres=>cf a ⟨b,0,none⟩ 0 res.cells/\a=a/\K res a:=
 dQ au (vs:=o.cells) (by rw [g];rfl) (dA.single _) λa d c=>dA.aT o ⟨bO d rfl,rfl,f a c⟩
theorem On {A:a6} {r:dE} (Xw:rp w r j) {hb:an} {dL gc:Nat} (Yo:hS A w hb G) (X9:dL=G.length) (X8:dL<=gc) :
  bb 93 [r.val,.slice hb dL gc] w (nY w j G):=by
 refine bd Tryz.func93 ?_;rw [iY];rintro b1 bG X3 XO;obtain ⟨q,XL⟩:=bl X3 XO;have q:av bG b1 r.cells 41:=q;clear XO;rintro aB YE X4 XP;obtain ⟨F,z⟩:=bl X4 XP;have F:av YE aB (dA.cells ⟨0,0,0,0,0⟩) ph:=F;clear XP;have J:=XL.new z;have Yw:=XL.size;have Yq:=q.lt;have Yr:=F.lt;refine dE.aT r ⟨bO (ai.aj z q) rfl,?_⟩;refine aD (JT (Xw.new J)) ?_;rintro v bq ⟨rfl,B⟩;have L:=J.new B;have V:=ai.aj B F;refine ⟨_,rfl,du (λal=>?_) (λal=>?_)⟩
 ·refine x5 V rfl ⟨j.valid,0,0,0,0⟩ (K:=λres XF=>nY w j G (.tuple #[.slice none 0 0,res.val,.bool true]) XF) λYL X_=>nY.nil ?_ (L.trans X_ λk a e=>by omega)
  unfold fM;rw [if_pos al]
 have g:=MM al (Xw.prev▸Xw.u64);obtain ⟨bS,Xy⟩:∃ bS,j.v.mem[0]?=some bS:=⟨_,bE g.mem.1⟩;have Ya:mF j=bS:=by unfold mF;rw [dq,Xy];rfl
 rintro Yd XQ;have C:ai bq Yd:=by rw [XQ];exact cK _
 clear XQ;have M:=L.new C;have s:=ai.aj ((z.new B).new C) q;refine ⟨λy=>ai Yd y,ao.refl _ _,dE.aT r ⟨λy Yc=>bO (ai.aj Yc s) rfl,?_⟩⟩;refine aD (E8 Yd hb dL gc) ?_;rintro v Yj ⟨tb,rfl,YC,XX,f⟩;refine ⟨_,rfl,f,?_⟩;rintro XG YF X5 XR;obtain ⟨XD,D⟩:=bl X5 XR;have XD:av YF XG (pP r tb ⟨0,0,false⟩ 0 ⟨none,0,0,0⟩ (0,0)) oq:=XD;clear XR;have YA:=f.size;have Yi:=M.size;have Yx:=z.size;have Yy:=B.size;have Yz:=C.size;have Yt:=XX.lt;refine ⟨f.new D,c2.aT r.View ⟨bO (ai.aj (f.new D) s) rfl,?_⟩⟩;obtain ⟨YH,XC⟩:=Xw.view;have N:=(M.new f).new D;refine aD (Cl (XC.new N) Xy) ?_;rintro v u8 ⟨rfl,Xz⟩;have XZ:=ai.aj Xz XD;refine a0.aT bS ⟨true,rfl,gq XZ (by simp [pP,a0.cells,dE.cells]) (a0.single _),?_⟩;rintro XH XB;have XE:av XH XG (pP r tb bS 0 ⟨none,0,0,0⟩ (0,0)) oq:=by rw [XB];exact XZ.cu (o:=9) (i:=0) (vs:=bS.cells)
 have XI:ao (λk=>k=XG) u8 XH:=by rw [XB];exact h7 _ _ _ _ _
 clear XB;have XM:ai w XH:=(N.new Xz).trans XI λk a e=>by omega
 have R:ai Yj XH:=(D.new Xz).trans XI λk a e=>by omega
 have U:av XH b1 r.cells 41:=ai.aj (f.new R) s;refine ⟨_,U.cell (i:=1) rfl,_,U.cell (i:=0) rfl,?_⟩;refine aD (wg XH r.ir r.Client) ?_;rintro v Yf ⟨rfl,rfl⟩;refine ⟨_,_,rfl,⟨_,XE.cell (i:=12) rfl⟩,XE.frozen,?_⟩;rintro c p;have I:ao (λk=>k=XG) Yf c:=by rw [p];exact eX _ _ _ _
 have XT:av c XG (pP r tb bS (gG j.inc j.aW) ⟨none,0,0,0⟩ (0,0)) oq:=by rw [p,<-Xw.inc,<-Xw.aW];exact XE.setCell (i:=12) _
 clear p;have O:ai w c:=XM.trans I λk a e=>by omega
 have l:ai Yj c:=R.trans I λk a e=>by omega
 have XY:av c tb (gn.cells ⟨hb,dL,gc,none,0,0,false⟩) pk:=ai.aj l XX;have XU:av c aB (dA.cells ⟨0,0,0,0,0⟩) ph:=ai.aj ((C.new f).new l) V;have X6:dg w c XG tb r bS j ⟨none,0,0,0⟩ (0,0):=⟨XT,Xw,g,Xy,O,by omega,by omega,by omega⟩;have Yn:eP A w c tb ⟨hb,dL,gc,none,0,0,false⟩ G:=⟨XY,Yo,X9,X8⟩;refine aD (Om X6 Yn ⟨rfl,rfl⟩) ?_;rintro v Yk ⟨rfl,E⟩;have YB:=l.size;have X0:av Yk aB (dA.cells ⟨0,0,0,0,0⟩) ph:=E.aA.aj XU (by omega);have Yb:ai w Yk:=O.trans E.aA λk a e=>by omega
 obtain ⟨YI,t⟩:=E.aj;obtain ⟨T,u,Xv,x⟩:=E.fY;rw [<-Ya] at u Xv x t;have Yh:∀ (X:Prop),X->X:=λ_ h=>h
 refine ⟨rfl,_,t.cell (i:=8) rfl,?_⟩;refine aD (DT u.aj) ?_;rintro v YM ⟨rfl,n⟩;have W:=ai.aj n X0;have Z:=ai.aj n t;have P:=Yb.new n;cases b:(ih j (mF j) G).1.ask with
 |some vs=>
  rw [b] at x;obtain ⟨YJ,w1,Yl,YK,Yg⟩:=x;have X2:=Yg.len;refine ⟨_,_,_,_,rfl,gB (by simp;omega) ?_⟩;refine x5 W rfl ⟨0,0,0,0,0⟩ (K:=λres XF=>nY w j G (.tuple #[.slice T.aa T.da T.ac,res.val,.bool false]) XF) λYe XJ=>?_
  have Ym:bK w1 Ye T.aa T.da T.ac vs:=(Yg.new n).aA XJ λk e=>by omega
  obtain ⟨⟨cp,Yu,XS⟩,Ys,X7⟩:=Ym;have Yv:=XS.1;have YD:=Yl.size;have XN:fM j G=(vs,⟨0,0,0,0,0⟩,false):=by unfold fM;rw [if_neg (by simpa using al),b]
  refine ⟨T.aa,T.ac,cp,?_,P.trans XJ λk a e=>by omega,Yu.rd,λk Yp=>by have:=X7 k Yp;omega,?_⟩
  ·rw [XN,X2,Yv]
  ·rw [XN];exact XS.aA (ao.refl _ _) λk a e=>.inl (by omega)
 |none=>
  rw [b] at x;refine ⟨_,_,_,_,rfl,di (by simp;omega) ?_⟩;refine ⟨_,Z.cell (i:=8) rfl,?_⟩;refine aD (DU (ai.aj n u.aj)) ?_;rintro v Ye ⟨rfl,XA⟩;have Y:=ai.aj XA W;have XV:=ai.aj XA Z;have Q:=P.new XA;have H:=u.dL;refine ⟨_,rfl,?_⟩;cases hm:(T.dD || decide ((T.dL:Int)>0)) with
  |true=>
   refine x5 Y rfl ⟨6,0,0,0,0⟩ (K:=λres XF=>nY w j G (.tuple #[.slice none 0 0,res.val,.bool true]) XF) λYG Xx=>nY.nil ?_ (Q.trans Xx λk a e=>by omega)
   unfold fM;rw [if_neg (by simpa using al),b];refine if_pos ?_;rw [Xv] at hm;rw [vB] at hm;rcases hm with hm | hm
   ·exact .inl hm
   ·right;intro e;rw [e] at H;simp at hm H;omega
  |false=>
   rintro X1 S;have d:ai Ye X1:=by rw [S];exact cK _
   clear S;have XW:=ai.aj d XV;refine ⟨λy=>ai X1 y,ao.refl _ _,dA.aT (ih j (mF j) G).2 ⟨λy Yc=>bO (ai.aj Yc XW) rfl,?_⟩⟩;refine x5 (ai.aj d Y) rfl (ih j (mF j) G).2 (K:=λres XF=>nY w j G (.tuple #[.slice none 0 0,res.val,.bool true]) XF) λYG Xx=>nY.nil ?_ ((Q.new d).trans Xx λk a e=>by omega)
   unfold fM;rw [if_neg (by simpa using al),b];refine if_neg ?_;rw [Xv] at hm;obtain ⟨XK,X'⟩:=Bool.or_eq_false_iff.1 hm;rintro (e | e)
   ·rw [e] at XK;cases XK
   ·apply e;apply fF;simp at X' <;> omega
end
section
open e7
theorem E' {f:aK->a8} (a:∀ p,(f p).length=9):∀ {W:List aK} {i:Nat} {p:aK},W[i]?=some p->∀ c,c<9->((W.map f).flatten)[9 * i+c]?=(f p)[c]?
 | [],i,p,h,c,b=>by simp at h
 |q::W,0,p,h,c,b=>by simp at h;subst h;rw [gj,hg,h3 (by rw [a];omega)];congr 1;omega
 |q::W,i+1,p,h,c,b=>by rw [gj,hg,h4 (by rw [a];omega),a,show 9 * (i+1)+c - 9=9 * i+c by omega];exact E' a (by simpa using h) c b
theorem Oo {W:List aK} (h:W[i]?=some p) {c:Nat} (a:c<9):(fo s W).getD (2+9 * i+c) 0=(p.bm::p.Head::hz p).getD c 0:=by have b:=b3 h;have d:=yT s W;unfold fo;simp only [dq];rw [h3 (by omega)];have:=E' (f:=λp=>p.bm::p.Head::hz p) (λ_=>rfl) h c a;unfold nP;rw [show 2+9 * i+c=(9 * i+c)+1+1 by omega,n4,n4,this]
theorem Qg {W:List aK} (h:W[i]?=some p) (b:∀ k,k<(fo s W).length->aH.getD k 0=(fo s W).getD k 0) (f:p.bm<=256):oH aH i=p:=by
 have e:=b3 h;have d:=pD s W;have g:∀ c,c<9->((aH.drop (2+9 * i)).take 9).getD c 0=(p.bm::p.Head::hz p).getD c 0:=λc a=>by rw [<-Oo (s:=s) h a,<-b _ (by omega)];simp only [dq];rw [tl a,kv]
 unfold oH q2;rw [g 0 (by omega),g 1 (by omega),g 2 (by omega),g 3 (by omega),g 4 (by omega),g 5 (by omega),g 6 (by omega),g 7 (by omega),g 8 (by omega)];show (⟨if 256<p.bm then 256 else p.bm,_,_,_,_,_,_,_,_⟩:aK)=p;rw [if_neg (by omega)];rfl
theorem Mf {W:List aK} {lines:Int} (al:fH s W lines=0) (n:aH.length=112) (c:∀ k,k<(fo s W).length->aH.getD k 0=(fo s W).getD k 0):ek aH lines=0/\ew aH lines=(s,W):=by
 obtain ⟨l,⟨s1,s2,kI,fA⟩,j,_⟩:=jy al;have h:=pD s W;have d:aH.getD 0 0=s:=c 0 (by omega);have e:aH.getD 1 0=W.length:=c 1 (by omega);have g:(aH.getD 1 0).toNat=W.length:=by rw [e];rfl
 have b:hA aH W.length=W:=by
  apply jK;intro i;unfold hA;rw [dS];by_cases a:i<W.length
  ·rw [j6 a,bE a];have:=j _ (kY a);simp only [mc];rw [Qg (bE a) c (by omega)]
  ·rw [iF (by simpa using a),iF (by omega)];rfl
 have f:fo s W=aH.take (3+9 * W.length):=by
  apply jK;intro i;by_cases a:i<3+9 * W.length
  ·have:=c i (by omega);simp only [dq] at this;rw [tl a,bE (by omega),bE (by omega)];rw [bE (by omega),bE (by omega)] at this;simpa using this.symm
  ·rw [iF (by omega),iF (by simp;omega)]
 have ay:ek aH lines=0:=by unfold ek;rw [if_neg (by omega),if_neg (by rw [d,e];omega),if_neg (by rw [e];omega),g,d,b,if_neg (by rw [al];simp),if_neg (by simpa using f)]
 refine ⟨ay,?_⟩;unfold ew;rw [if_pos ay,g,d,b]
theorem DC (h:1<=s/\s<1073741824):fX s=4 * s+2:=by
 obtain ⟨n,rfl⟩:∃ n:Nat,s=n:=⟨s.toNat,by omega⟩;have b:ix .u64 (n:Int) 2=((n * 4:Nat):Int):=by show IntKind.u64.wrap ((n:Int) * 2 ^ 2)=_;have:(2:Int) ^ 2=4:=rfl;rw [this,j3 (by omega) (by omega)];omega
 unfold fX;rw [b,show (2:Int)=((2:Nat):Int) from rfl,vg _ _ (by omega) (by omega)];have a:=v_ n 2 2 (by omega);have c:(2:Nat) ^ 2=4:=rfl;rw [c] at a;rw [a];omega
theorem yW (h:1<=s/\s<1073741824):fX s≠0:=by rw [DC h];omega
theorem Mg (h:1<=s/\s<1073741824):ik (fX s)=(s,true):=by
 obtain ⟨_,e⟩:=zW (y6 s);have a:df .u64 (fX s) 2=s:=by rw [e,DC h];omega
 unfold ik;rw [a,if_pos ⟨h.1,h.2,rfl⟩]
theorem Mh:ik 0=(0,false):=by
 obtain ⟨_,e⟩:=zW hq;have a:df .u64 0 2=0:=by rw [e];rfl
 unfold ik;rw [a,if_neg (by omega)]
structure nq (E:Env) (A:bu) (m:Nat) (L:a8):Prop where
 len:L.length=120
 cM:L.getD 0 0=if A.cM m=true then il E else 0
 ez:A.ez m=true->∀ k,k<(g3 E).length->L.getD (8+k) 0=(g3 E).getD k 0
def uL (x:aN):a8:=(x.words.drop 48).take 120
theorem EM (h:i<120):(uL x).getD i 0=x.get (48+i):=by unfold uL aN.get;simp only [dq];rw [tl h,kv]
theorem Mem.fz {E:Env} (ay:cg E) (h:Mem E A m x):nq E A m (uL x):=by have a:=ay.mE;have c:=ay.lS;have d:=h.aU.len;refine ⟨by unfold uL;simp;omega,by rw [EM (by omega)];exact h.cM,λa k b=>?_⟩;rw [EM (by omega),<-h.ez a k b];congr 1;omega
section
variable {E:Env} {A:bu} {m:Nat} {L:a8}
theorem nq.whole (ay:cg E) (h:nq E A m L) (d:A.ez m=true):fU L E.L=true/\c1 L E.L=(dd E,bM E):=by
 have f:(L.drop 8).length=112:=by rw [lH,h.len]
 obtain ⟨b,c⟩:=Mf ay.dI f λk e=>by rw [<-h.ez d k e];simp only [dq];rw [kv]
 have a:fU L E.L=true:=by unfold fU;rw [b,h.len];rfl
 refine ⟨a,?_⟩;unfold c1;rw [if_pos a];exact c
theorem nq.comm (ay:cg E) (h:nq E A m L) (d:A.ez m=true):gx L E.L=A.cM m/\(A.cM m=true->fp L E.L=(dd E,bM E)):=by
 obtain ⟨c,a⟩:=h.whole ay d;have b:gx L E.L=A.cM m:=by
  unfold gx;rw [c,a,h.cM,vD];cases A.cM m
  ·exact beq_eq_false_iff_ne.2 (yW ay.seq)
  ·exact beq_iff_eq.2 rfl
 refine ⟨b,λe=>?_⟩
 unfold fp;rw [b,if_pos e];exact a
theorem nq.none (h:nq E A m L) (c:A.cM m=false):gx L E.L=false:=by
 cases a:gx L E.L with
 |false=>rfl
 |true=>exfalso;obtain ⟨b,_⟩:=BW a;have d:=Ce b;unfold gx at a;rw [b,vD] at a;have:=beq_iff_eq.1 a;rw [h.cM,c] at this;exact yW d this
theorem nq.holds (ay:cg E) (h:nq E A m L) (c:A.ez m=true) (d:j.lines=E.L):rE j (dd E) (bM E) L=A.cM m:=by
 obtain ⟨a,b⟩:=h.comm ay c;unfold rE;rw [d,a];cases hm:A.cM m with
 |false=>rfl
 |true=>rw [b hm];unfold wF;simp
end
structure pe (E:Env) (A:bu) (aV:List a8):Prop where
 len:aV.length=E.n
 at_:∀ (m:Nat) (L:a8),aV[m]?=some L->nq E A m L
section
variable {E:Env} {A:bu} {aV:List a8}
theorem Oq (h:pe E A aV) (g:gk E A):ef E.L aV=((0,[]),false):=by
 have key:∀ (l:List a8),(∀ L ∈ l,gx L E.L=false)->∀ b,l.foldl (mC E.L) b=b:=by
  intro l;induction l with
  |nil=>intro _ b;rfl
  |cons L l j=>intro d b;rw [vy];have:mC E.L b L=b:=if_neg (λe=>by rw [d L eO] at e;cases e.1);rw [this];exact j (λf a=>d f (fw _ a)) b
 refine key aV (λL a=>?_) _;obtain ⟨i,c⟩:=ei.1 a;exact (h.at_ i L c).none (g i (by have:=b3 c;rw [h.len] at this;exact this))
theorem Mi (ay:cg E) (h:pe E A aV) (d:iu E A) (hm:∃ m,m<E.n/\A.cM m=true):ef E.L aV=((dd E,bM E),true):=by
 have y:=ay.seq;have key:∀ (l:List a8),(∀ L ∈ l,gx L E.L=true->fp L E.L=(dd E,bM E))->∀ b,(b=((0,[]),false)\/b=((dd E,bM E),true))->(l.foldl (mC E.L) b=((dd E,bM E),true)\/l.foldl (mC E.L) b=((0,[]),false)/\b=((0,[]),false)/\∀ L ∈ l,gx L E.L=false):=by
  intro l;induction l with
  |nil=>intro _ b d;rcases d with e | e;exact .inr ⟨e,e,λL a=>by cases a⟩;exact .inl e
  |cons L l u=>
   intro o b d;rw [vy];have j:=λp a=>o p (fw _ a)
   unfold mC at u ⊢;by_cases c:gx L E.L=true
   ·have s:=o L eO c;have t:(if gx L E.L=true/\(fp L E.L).1>b.1.1 then (fp L E.L,true) else b)=((dd E,bM E),true):=by
     rcases d with e | e
     ·rw [if_pos ⟨c,by rw [s,e];show dd E>0;omega⟩,s]
     ·rw [if_neg (λg=>by have:=g.2;rw [s,e] at this;exact absurd this (by show ¬ dd E>dd E;omega)),e]
    rw [t];rcases u j _ (.inr rfl) with g | ⟨_,g,_⟩
    ·exact .inl g
    ·exact absurd (congrArg Prod.snd g) (by simp)
   ·have c:gx L E.L=false:=by simpa using c
    rw [if_neg (λg=>by rw [c] at g;cases g.1)];rcases u j b d with g | ⟨q,r,x⟩
    ·exact .inl g
    ·exact .inr ⟨q,r,λp a=>by rcases eU.1 a with e | e;rw [e];exact c;exact x p e⟩
 obtain ⟨m,k,hm⟩:=hm;obtain ⟨L,a⟩:∃ L,aV[m]?=some L:=⟨_,bE (by rw [h.len];exact k)⟩;have o:∀ L ∈ aV,gx L E.L=true->fp L E.L=(dd E,bM E):=λL a c=>by obtain ⟨i,w⟩:=ei.1 a;have f:=b3 w;rw [h.len] at f;obtain ⟨q,r⟩:=(h.at_ i L w).comm ay (d i f);exact r (by rw [<-q];exact c)
 rcases key aV o ((0,[]),false) (.inl rfl) with g | ⟨_,_,g⟩
 ·exact g
 ·have:=g L (b5 a);rw [((h.at_ m L a).comm ay (d m k)).1,hm] at this;cases this
theorem Qh (ay:cg E) (h:pe E A aV) (s:iu E A) {cO:Int} (z:cO=dd E\/cO=E.fi 0):jT E.L cO aV=dd E+1:=by
 have w:=ay.seq;have t:=ay.fi;have B:=ay.e.n;have key:∀ (l:List a8),(∀ L ∈ l,(L.getD 0 0=il E\/L.getD 0 0=0)/\fU L E.L=true/\c1 L E.L=(dd E,bM E))->∀ g:Int,0<=g/\g<=dd E->l.foldl (hP E.L) g=if l=[] then g else dd E:=by
  intro l;induction l with
  |nil=>intro _ g _;rfl
  |cons L l x=>
   intro k g u;obtain ⟨p,q,r⟩:=k L eO;rw [vy];have f:hP E.L g L=dd E:=by
    unfold hP;have d:(if (ik (L.getD 0 0)).2=true then mG g (ik (L.getD 0 0)).1 else g)<=dd E:=by
     rcases p with e | e
     ·rw [e,Mg w,if_pos rfl];unfold mG;simp only;split<;>omega
     ·rw [e,Mh,if_neg (by simp)];exact u.2
    simp only;generalize (if (ik (L.getD 0 0)).2=true then mG g (ik (L.getD 0 0)).1 else g)=y at d ⊢;rw [if_pos q,r];unfold mG;simp only;split<;>omega
   rw [f,x (λo a=>k o (fw _ a)) _ (by omega),if_neg (List.cons_ne_nil L l)];split<;>rfl
 unfold jT;have c:jh cO=cO:=by unfold jh;rw [if_neg (by omega)]
 rw [c,key aV (λL a=>?_) cO (by omega),if_neg (λe=>by have:=h.len;rw [e] at this;simp at this <;> omega)];obtain ⟨i,j⟩:=ei.1 a;have b:=b3 j;rw [h.len] at b;have a:=h.at_ i L j;refine ⟨?_,a.whole ay (s i b)⟩;rw [a.cM];split
 ·exact .inl rfl
 ·exact .inr rfl
end
end
section
open e7
def cC (E:Env) (c:Nat):ca:=⟨(c:Int),1,(E.L:Int),ro E.n,0,2,0⟩
def gK (c:Nat):Int:=256+((c:Int)+1)
section
variable {E:Env} {c:Nat}
theorem wh (a:c<6):gg 1 c=0/\gG 1 c=gK c:=by have h:gg 1 c=0:=EE rfl (by omega);exact ⟨h,by rw [zn h];rfl⟩
theorem rk:(cC E c).v.mem=(List.range E.n).map bg:=rfl
theorem Ot {n:Nat} (h:1<=n/\n<=5):(ro n).valid 5=0:=by
 obtain rfl | rfl | rfl | rfl | rfl:n=1\/n=2\/n=3\/n=4\/n=5:=by omega
 all_goals kernel_rfl
theorem DD (ay:cg E) (i:1<=c/\c<6):(cC E c).valid=0:=by
 have k:=ay.e.L;have g:gg (cC E c).inc (cC E c).aW=0:=(wh i.2).1;have a:(cC E c).v.valid 5=0:=Ot ay.e.n;unfold ca.valid;rw [g,a];show (if (0:Int)≠0 then (0:Int) else if (0:Int)<0\/6<=(0:Int) then 1 else if (0:Int)≠0 then 0 else (cC E c).tail)=0;rw [if_neg (by omega),if_neg (by omega),if_neg (by omega)];unfold ca.tail;have b:¬ ((cC E c).lines<98\/256<(cC E c).lines):=by show ¬ ((E.L:Int)<98\/256<(E.L:Int));omega
 have d:¬ ((cC E c).dead=(cC E c).aW/\(cC E c).dV≠(cC E c).inc):=by show ¬ ((0:Int)=(c:Int)/\_);omega
 have f:¬ ((cC E c).dead≠(cC E c).aW/\((cC E c).dV<2\/60<(cC E c).dV\/Int.tmod (cC E c).dV 2≠0)):=by have j:Int.tmod (cC E c).dV 2=0:=rfl;have a:(cC E c).dV=2:=rfl;omega
 rw [if_neg b,if_neg d,if_neg f];exact if_neg λh=>h.1 rfl
theorem Fa (b:1<=E.n):mF (cC E c)=bg 0:=by unfold mF;rw [rk];obtain ⟨k,a⟩:∃ k,E.n=k+1:=⟨E.n - 1,by omega⟩;rw [a,tg];rfl
theorem Fw (hm:m<E.n):(cC E c).v.mem.getD m jW=bg m:=by rw [rk,dq,dS,j6 hm];rfl
theorem AY (m:Nat) (a o w:Int):r3 (cC E c) (bg m) a o w=f8 m a o w:=rfl
theorem yX:cS (cC E c)=[⟨0,2,true⟩]:=by unfold cS;rw [if_neg (λh=>by have:mT (0:Int)=false:=rfl;have a:mT 0=true:=h.1;rw [this] at a;cases a)];rfl
theorem DE {α β:Type} {f:α->β}:∀ (l:List α),(l.map λx=>[f x]).flatten=l.map f
 | []=>rfl
 |a::l=>by rw [gj,hg,DE l];rfl
def iL (n:Nat):List aQ:=(List.range n).map λm=>cX m 24 1
def hr (eN:cT):List aQ:=eN.map λm=>f8 m 24 1 2
def g' (c:Nat):List aQ:=[f8 0 49 0 (gK c)]
def gV (n:Nat):List aQ:=((List.range n).map λm=>[cX m 24 1,cX m 48 120]).flatten++[cX 0 32 1]
def gL (E:Env) (sp:cT):List aQ:=(sp.map λm=>[cD m 48 [0],cD m 56 (g3 E),cD m 48 [il E]]).flatten
def gY (W:List aK):List aQ:=W.map λp=>cX 0 (p.bm * 8) 1
def fR (E:Env) (l:List aK):List aQ:=((List.range (E.n - 1)).map λm=>l.map (fO (m+1))++[cD (m+1) 32 [dd E]]).flatten
def gd (E:Env) (l:List aK):List aQ:=cD 0 32 [dd E]::l.map (fO 0)
def iE (eE:List aK):List aQ:=eE.map λp=>f8 0 (p.bm * 8) (eK p.Head 0) p.Head
def gS (c:Nat):List aQ:=[f8 0 49 (gK c) 0]
theorem CN:hC (cC E c)=iL E.n:=by unfold hC iL;rw [yX,rk,rC];exact DE (List.range E.n) (f:=λm=>cX m 24 1)
theorem EN (i:Nat):gu (cC E c) i=⟨0,2,true⟩:=by unfold gu;rw [yX];show ([⟨0,2,true⟩]:List de).getD (i % 1) pG=_;rw [Nat.mod_one];rfl
theorem PO (h:i<E.n):nK (cC E c) i=bg i:=by unfold nK;rw [yX];show (cC E c).v.mem.getD (i / 1) jW=_;rw [Nat.div_one];exact Fw h
def kR (n:Nat) (ds:List aM):cT:=(List.range n).filter λi=>dv ds i == 1
theorem DF {ds:List aM} (h:∀ i,i<E.n->dv ds i=1\/dv ds i=2):∀ {k:Nat},k<=E.n->h' (cC E c) ds k=(kR k ds).map λm=>(f8 m 24 1 2,(⟨0,2,true⟩:de))
 | 0,_=>rfl
 |k+1,a=>by
  rw [A8,DF h (by omega)];unfold kR tc tw;rw [ku,BG,jn,EN,PO (by omega),AY];congr 1;rcases h k (by omega) with e | e
  ·rw [if_pos (show dv ds k<2 by omega)];simp [e]
  ·rw [if_neg (show ¬ dv ds k<2 by omega)];simp [e]
def d3 (eN:cT) (X:List (List aM)):cr:=oW (eN.map λm=>(f8 m 24 1 2,(⟨0,2,true⟩:de))) (bP X (hr eN))
def lj (X:List (List aM)):cr:=⟨true,[],(0,0),X,none,false⟩
def Kp (E:Env) (c:Nat) (G:List (List aM)) (f:List (List aM)->cr×dA):Prop:=∀ X,ih (cC E c) (bg 0) (G++X)=f X
theorem Kp.next {a:List (List aM)->cr×dA} (h:Kp E c G f) (b:∀ X,f (D::X)=a X):Kp E c (G++[D]) a:=λX=>by rw [lF];exact (h ([D]++X)).trans (b X)
theorem Kp.ask (ay:cg E) (b:1<=c/\c<6) (h:Kp E c G f) (a:(f []).1.ask=some vs):fM (cC E c) G=(vs,⟨0,0,0,0,0⟩,false):=by have:=h [];rw [jJ] at this;unfold fM;rw [if_neg (by rw [DD ay b];simp),Fa ay.e.n.1,this,a]
theorem Kp.out (ay:cg E) (g:1<=c/\c<6) (h:Kp E c G f) (a:(f []).1.ask=none) (b:(f []).1.dD=false) (d:(f []).1.a7=[]):fM (cC E c) G=([],(f []).2,true):=by have:=h [];rw [jJ] at this;unfold fM;rw [if_neg (by rw [DD ay g];simp),Fa ay.e.n.1,this,a];simp only;rw [if_neg (by rw [b,d];simp)]
theorem nZ (h:vs≠[]):bP [] vs=⟨false,[],(0,0),[],some vs,false⟩:=Bd h 0
theorem mI (h:vs≠[]) (a:Fit vs D) (X:List (List aM)):bP (D::X) vs=⟨true,D,(0,0),X,none,false⟩:=Bv X h a 0
theorem tG (X:List (List aM)):bP X []=lj X:=Cv X 0
def qN (E:Env) (c:Nat):List (List aM)->cr×dA:=ih (cC E c) (bg 0)
def k7 (E:Env) (c:Nat) (X:List (List aM)):cr×dA:=sS (cC E c) (bg 0) (h_ (cC E c) (bg 0) X)
def mw (E:Env) (c:Nat) (eN:cT) (X:List (List aM)):cr×dA:=if (d3 eN X).ok=false then (d3 eN X,iP (d3 eN X).out) else k7 E c (d3 eN X).a7
def oA (E:Env) (c:Nat) (X:List (List aM)):cr×dA:=sS (cC E c) (bg 0) (lj X)
def fJ (E:Env) (c:Nat) (aV:List a8) (cO:Int) (c_:Int×Int) (S:cr):cr×dA:=q7 (cC E c) (bg 0) aV cO (c_,S)
theorem R9:Kp E c [] (qN E c):=λX=>rfl
theorem zY (a:1<=E.n):iL E.n≠[]:=by unfold iL;intro e;have:=congrArg List.length e;simp at this <;> omega
theorem PQ (a:1<=E.n):(qN E c []).1.ask=some (iL E.n):=by unfold qN ih hD tx;rw [CN,nZ (zY a)];rfl
theorem Ou (f:1<=E.n) (a:Fit (iL E.n) D) (hw:∀ i,i<E.n->dv D i=1\/dv D i=2) (X:List (List aM)):qN E c (D::X)=mw E c (kR E.n D) X:=by
 have e:D.length=E.n:=by rw [a.len];unfold iL;simp
 have b:(List.range D.length).any (jH (cC E c) D)=false:=by rw [yK];intro i d;have:=hw i (by have:=fs.1 d;omega);unfold jH;rw [EN];simp;show dv D i<=2;omega
 have aq:hD (cC E c) (D::X)=d3 (kR E.n D) X:=by unfold hD;rw [CN,mI (zY f) a];unfold tx;simp only;rw [if_neg (by simp),if_neg (by rw [b];simp),e,DF hw (cY _)];unfold d3 hr;rw [rC];rfl
 unfold qN ih mw k7;rw [aq]
theorem PR (X:List (List aM)):d3 [] X=lj X:=by unfold d3 oW;rw [show hr []=[] from rfl,tG];rfl
theorem PS (X:List (List aM)):mw E c [] X=k7 E c X:=by unfold mw;rw [PR];exact if_neg (by simp [lj])
theorem PT (h:eN≠[]):(mw E c eN []).1.ask=some (hr eN):=by
 have au:hr eN≠[]:=by unfold hr;simpa using h
 unfold mw d3 oW;rw [nZ au];rfl
theorem Ov (h:eN≠[]) (a:Fit (hr eN) D) (hw:∀ i,i<eN.length->dv D i=1\/dv D i=2) (X:List (List aM)):mw E c eN (D::X)=k7 E c X:=by
 have au:hr eN≠[]:=by unfold hr;simpa using h
 have f:D.length=eN.length:=by rw [a.len];unfold hr;simp
 have aq:d3 eN (D::X)=lj X:=by
  unfold d3 oW;rw [mI au a];simp only;have d:(List.range D.length).any (ny (eN.map λm=>(f8 m 24 1 2,(⟨0,2,true⟩:de))) D)=false:=by rw [yK];intro i b;have b:=fs.1 b;have hw:=hw i (by omega);obtain ⟨m,hm⟩:∃ m,eN[i]?=some m:=⟨_,bE (by omega)⟩;unfold ny mq;rw [dq,dS,hm];show ¬ ((decide (dv D i≠1) && (decide (dv D i≠2) && (true || decide (dv D i<2))))=true);rcases hw with e | e<;>simp [e]
  rw [if_neg (by simp),if_neg (by rw [d];simp)];rfl
 unfold mw;rw [aq];exact if_neg (by simp [lj])
theorem Bs (a:c<6):[jz (cC E c) (bg 0)]=g' c:=by unfold jz g';rw [AY];show [f8 0 49 0 (gG 1 c)]=_;rw [(wh a).2]
theorem PU (a:c<6):(k7 E c []).1.ask=some (g' c):=by unfold k7 h_;rw [Bs a,nZ (by simp [g'])];rfl
theorem Ow (b:c<6) (d:Fit (g' c) D) (a:m6 D=0) (X:List (List aM)):k7 E c (D::X)=oA E c X:=by unfold k7 h_ oA;rw [Bs b,mI (by simp [g']) d,if_neg (by simp)];simp only;rw [a,if_neg (λh=>h.1 rfl)];rfl
theorem Ox (a:c<6) (e:Fit (g' c) D) (b:m6 D≠0) (d:m6 D≠gK c) (X:List (List aM)):k7 E c (D::X)=(⟨false,[],(3,m6 D),X,none,false⟩,⟨3,0,0,0,m6 D⟩):=by unfold k7 h_;rw [Bs a,mI (by simp [g']) e,if_neg (by simp)];simp only;rw [if_pos ⟨b,by show m6 D≠gG 1 c;rw [(wh a).2];exact d⟩];rfl
theorem CO:fI (cC E c) (bg 0)=gV E.n:=by unfold fI gV;rw [rk,rC];rfl
theorem zZ (n:Nat):gV n≠[]:=by unfold gV;simp
theorem PV:(oA E c []).1.ask=some (gV E.n):=by unfold oA sS fK r4 lj;rw [CO,nZ (zZ _)];rfl
def m1 (n:Nat) (D:List aM):List a8:=(List.range n).map λi=>(D.getD (2 * i+1) ⟨0,[]⟩).words
theorem Oy (h:Fit (gV E.n) D) (aq:∀ i,i<E.n->dv D (2 * i)=2) (X:List (List aM)):oA E c (D::X)=fJ E c (m1 E.n D) (dv D (2 * E.n)) (hN (cC E c) (bg 0) (m1 E.n D) X).1 (hN (cC E c) (bg 0) (m1 E.n D) X).2:=by
 have a:(cC E c).v.mem.length=E.n:=by rw [rk];simp
 have b:bP (D::X) (fI (cC E c) (bg 0))=⟨true,D,(0,0),X,none,false⟩:=by rw [CO];exact mI (zZ _) h X
 have d:mH (cC E c) D E.n=true:=by unfold mH;rw [fE];intro i j;exact beq_iff_eq.2 (aq i (fs.1 j))
 have e:fK (cC E c) (bg 0) (D::X)=lj X:=by unfold fK r4;rw [b,if_neg (by simp)];simp only;rw [a,if_pos d];rfl
 have f:kq (cC E c) (bg 0) (D::X)=m1 E.n D:=by unfold kq rI;rw [b,a];rfl
 have g:m8 (cC E c) (bg 0) (D::X)=dv D (2 * E.n):=by unfold m8 td;rw [b,a]
 unfold oA sS;rw [if_neg (by simp [lj])];show (if (fK (cC E c) (bg 0) (D::X)).ok=false then _ else q7 _ _ (kq (cC E c) (bg 0) (D::X)) (m8 (cC E c) (bg 0) (D::X)) (hN _ _ (kq (cC E c) (bg 0) (D::X)) (fK (cC E c) (bg 0) (D::X)).a7))=_;rw [e,f,g,if_neg (by simp [lj])];rfl
end
end
section
open e7
section
variable {E:Env} {c:Nat}
def my (E:Env) (l:List aK) (X:List (List aM)):cr:=bP X (gd E l)
def ka (E:Env) (l:List aK) (X:List (List aM)):cr:=if (bP X (fR E l)).ok=false then bP X (fR E l) else my E l (bP X (fR E l)).a7
def ig (E:Env) (D:List aM):List aK:=gD (cC E 0) (bM E) D (bM E).length
def kE (E:Env) (X:List (List aM)):cr:=
 if (bP X (gY (bM E))).ok=false then bP X (gY (bM E)) else if (ig E (bP X (gY (bM E))).done).length=0 then bP X (gY (bM E)) else ka E (ig E (bP X (gY (bM E))).done) (bP X (gY (bM E))).a7
def kF (E:Env) (sp:cT) (X:List (List aM)):cr:=if (bP X (gL E sp)).ok=false then bP X (gL E sp) else kE E (bP X (gL E sp)).a7
def nE (eE:List aK) (X:List (List aM)):cr:=bP X (iE eE)
def j2 (E:Env) (A:bu):cT:=(List.range E.n).filter λm=>!A.cM m
theorem Oz (b:1<=E.n):(cC E c).v.mem.tail=(List.range (E.n - 1)).map λm=>bg (m+1):=by
 rw [rk];cases a:E.n with
 |zero=>omega
 |succ k=>rw [tg];simp
theorem Mk (a:1<=E.n) (l:List aK):tF (cC E c) (dd E) l=fR E l:=by unfold tF fR;rw [Oz a,rC];rfl
theorem OA (l:List aK):wG (cC E c) (bg 0) (dd E) l=gd E l:=rfl
theorem OB (X:List (List aM)):fy (cC E c) (bg 0) (bM E) X=bP X (gY (bM E)):=rfl
theorem CP (ay:cg E) {A:bu} {aV:List a8} (h:pe E A aV) (b:iu E A):∀ k,k<=E.n->nT (cC E c) (dd E) (bM E) aV k=gL E ((List.range k).filter λm=>!A.cM m)
 | 0,_=>rfl
 |k+1,e=>by
  rw [CM,CP ay h b k (by omega)];obtain ⟨L,a⟩:∃ L,aV[k]?=some L:=⟨_,bE (by rw [h.len];omega)⟩;have d:=(h.at_ k L a).holds ay (b k (by omega)) (j:=cC E c) rfl;unfold x_ gL;rw [dq,a,Option.getD_some,d,Fw (by omega),ku,BG,jn,BH];congr 1;cases hm:A.cM k with
  |true=>simp [hm]
  |false=>simp [hm];rfl
theorem OC (g:1<=E.n) (X:List (List aM)):pv (cC E c) (bg 0) (dd E) (bM E) (fy (cC E c) (bg 0) (bM E) X)=kE E X:=by
 unfold pv kE ka my qO;rw [OB];have b:∀ D:List aM,D.length=(bM E).length->gD (cC E c) (bM E) D D.length=ig E D:=λD e=>by unfold ig;rw [e];rfl
 by_cases a:(bP X (gY (bM E))).ok=true
 ·have f:=Ee a;have d:¬ (bP X (gY (bM E))).ok=false:=by rw [a];simp
  rw [if_neg d,if_neg d,b _ (by rw [f];unfold gY;simp),Mk g,OA]
 ·rw [if_pos (by simpa using a),if_pos (by simpa using a)]
theorem K1 (ay:cg E) (h:pe E A aV) (b:iu E A) (X:List (List aM)):p0 (cC E c) (bg 0) (dd E) (bM E) aV X=kF E (j2 E A) X:=by
 unfold p0 kF lf;have a:(cC E c).v.mem.length=E.n:=by rw [rk];simp
 rw [a,CP ay h b _ (cY _)];show (if (bP X (gL E (j2 E A))).ok=false then bP X (gL E (j2 E A)) else pv _ _ _ _ (fy _ _ _ (bP X (gL E (j2 E A))).a7))=_;rw [OC ay.e.n.1]
theorem Ml (ay:cg E) (h:pe E A aV) (b:iu E A) (hm:∃ m,m<E.n/\A.cM m=true) (X:List (List aM)):hN (cC E c) (bg 0) aV X=((2,dd E),kF E (j2 E A) X):=by have a:ef (cC E c).lines aV=((dd E,bM E),true):=Mi ay h b hm;unfold hN;rw [a,if_pos rfl];exact congrArg _ (K1 ay h b X)
theorem Mm (ay:cg E) (h:pe E A aV) (q:gk E A):∃ c_ eE,(∀ X,hN (cC E c) (bg 0) aV X=(c_,nE eE X))/\c_.1≠2/\(iu E A->eE=bM E/\c_=(3,dd E))/\eE.length<=12/\∀ p ∈ eE,96<=p.bm/\p.bm<E.L:=by
 have d:ef (cC E c).lines aV=((0,[]),false):=Oq h q;have r:=ay.e.n;obtain ⟨L,l⟩:∃ L,aV[0]?=some L:=⟨_,bE (by rw [h.len];omega)⟩;have k:aV.getD 0 []=L:=by rw [dq,l];rfl
 have hw:iu E A->fU L E.L=true/\c1 L E.L=(dd E,bM E):=λi=>(h.at_ 0 L l).whole ay (i 0 (by omega))
 cases g:fU L E.L with
 |true=>
  refine ⟨(3,(c1 L E.L).1),(c1 L E.L).2,λX=>?_,by simp,λi=>by rw [(hw i).2];exact ⟨rfl,rfl⟩,?_⟩
  ·unfold hN;rw [d,if_neg (by simp),k,if_pos (show fU L (cC E c).lines=true from g)];rfl
  ·have j:=g;unfold fU at j;simp only [ep,decide_eq_true_eq,beq_iff_eq] at j;have f:=j.2;have o:c1 L E.L=((L.drop 8).getD 0 0,hA (L.drop 8) ((L.drop 8).getD 1 0).toNat):=by unfold c1 ew;rw [if_pos g,if_pos f]
   unfold ek at f;split at f
   ·omega
   split at f
   ·omega
   split at f
   ·omega
   split at f
   ·omega
   rename_i t;obtain ⟨_,a,b,_⟩:=jy (by omega:fH ((L.drop 8).getD 0 0) (hA (L.drop 8) ((L.drop 8).getD 1 0).toNat) E.L=0);rw [o];exact ⟨a.2.2.2,b⟩
 |false=>refine ⟨(1,0),[],λX=>?_,by simp,λi=>(by rw [(hw i).1] at g;cases g),by simp,λp s=>by cases s⟩;unfold hN;rw [d,if_neg (by simp),k,if_neg (show ¬ fU L (cC E c).lines=true by show ¬ fU L E.L=true;rw [g];simp)];unfold nE iE;rw [vE,tG];rfl
def sE (D:List aM) (X:List (List aM)):cr:=⟨true,D,(0,0),X,none,false⟩
def pq (vs:List aQ):cr:=⟨false,[],(0,0),[],some vs,false⟩
theorem z0 (h:sp≠[]):gL E sp≠[]:=by
 cases sp with
 |nil=>exact absurd rfl h
 |cons a l=>simp [gL]
theorem z1 (ay:cg E):gY (bM E)≠[]:=by unfold gY;have:=ay.bQ.some_;simpa using this
theorem wA (b:1<E.n) (l:List aK):fR E l≠[]:=by obtain ⟨k,a⟩:∃ k,E.n - 1=k+1:=⟨E.n - 2,by omega⟩;unfold fR;rw [a,tg];simp
theorem zG (a:E.n=1) (l:List aK):fR E l=[]:=by unfold fR;rw [a];rfl
theorem Pi (X:List (List aM)):kF E [] X=kE E X:=by unfold kF;rw [show gL E []=[] from rfl,tG];exact if_neg (by simp [lj])
theorem PW (h:sp≠[]):kF E sp []=pq (gL E sp):=by unfold kF;rw [nZ (z0 h)];rfl
theorem OD (h:sp≠[]) (a:Fit (gL E sp) D) (X:List (List aM)):kF E sp (D::X)=kE E X:=by unfold kF;rw [mI (z0 h) a];exact if_neg (by simp)
theorem PX (ay:cg E):kE E []=pq (gY (bM E)):=by unfold kE;rw [nZ (z1 ay)];rfl
theorem NZ (ay:cg E) (a:Fit (gY (bM E)) D) (X:List (List aM)):kE E (D::X)=if ig E D=[] then sE D X else ka E (ig E D) X:=by
 unfold kE;rw [mI (z1 ay) a,if_neg (by simp)];simp only;by_cases h:ig E D=[]
 ·rw [if_pos (by rw [h];rfl),if_pos h];rfl
 ·rw [if_neg (λe=>h (lI.1 e)),if_neg h]
theorem PY (a:E.n=1) (l:List aK) (X:List (List aM)):ka E l X=my E l X:=by unfold ka;rw [zG a,tG];exact if_neg (by simp [lj])
theorem PZ (a:1<E.n) (l:List aK):ka E l []=pq (fR E l):=by unfold ka;rw [nZ (wA a l)];rfl
theorem N0 (b:1<E.n) (a:Fit (fR E l) D) (X:List (List aM)):ka E l (D::X)=my E l X:=by unfold ka;rw [mI (wA b l) a];exact if_neg (by simp)
theorem P0 (l:List aK):my E l []=pq (gd E l):=nZ (by simp [gd])
theorem N1 (a:Fit (gd E l) D) (X:List (List aM)):my E l (D::X)=sE D X:=mI (by simp [gd]) a X
theorem P1 (X:List (List aM)):nE [] X=lj X:=tG X
theorem P2 (h:eE≠[]):nE eE []=pq (iE eE):=nZ (by unfold iE;simpa using h)
theorem N2 (h:eE≠[]) (a:Fit (iE eE) D) (X:List (List aM)):nE eE (D::X)=sE D X:=mI (by unfold iE;simpa using h) a X
def nA (E:Env) (c:Nat) (aV:List a8) (cO:Int) (c_:Int×Int) (X:List (List aM)):cr×dA:=
 if (bP X (gS c)).ok=false then (bP X (gS c),iP (bP X (gS c)).out) else (bP X (gS c),⟨0,c_.1,c_.2,jT E.L cO aV,0⟩)
variable {aV:List a8} {cO:Int} {c_:Int×Int}
theorem P3 (a:c<6) (X:List (List aM)):hM (cC E c) (bg 0) X=bP X (gS c):=by unfold hM gS;rw [AY];show bP X [f8 0 49 (gG 1 c) 0]=_;rw [(wh a).2]
theorem wB (a:c<6) {S:cr} (h:S.ok=true):fJ E c aV cO c_ S=nA E c aV cO c_ S.a7:=by unfold fJ q7 nA;rw [if_neg (by rw [h];simp),P3 a];rfl
theorem tH (vs:List aQ):(fJ E c aV cO c_ (pq vs)).1.ask=some vs:=by unfold fJ q7;rw [if_pos (show (pq vs).ok=false from rfl)];rfl
theorem P4:(nA E c aV cO c_ []).1.ask=some (gS c):=by unfold nA;rw [nZ (by simp [gS])];rfl
theorem NE (a:Fit (gS c) D) (X:List (List aM)):nA E c aV cO c_ (D::X)=(sE D X,⟨0,c_.1,c_.2,jT E.L cO aV,0⟩):=by unfold nA;rw [mI (by simp [gS]) a];exact if_neg (by simp)
end
end
end Go.Proofs.YtmkljjbioomepaaGreat
