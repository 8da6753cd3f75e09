import Derived.Test.YtmkljjbioomepaaGreatd42
import Derived.Test.YtmkljjbioomepaaGreatd21
import Derived.Test.YtmkljjbioomepaaGreatd22
set_option linter.all false
set_option maxHeartbeats 4000000
set_option maxRecDepth 100000
namespace Go.Proofs.YtmkljjbioomepaaGreat
open Go.Proofs.Tryz Go.bs
variable {A:bu} {F G K:aE} {X:bR} {c k most n sc y:Nat} {g:f7} {gr:Nat->c5} {rs:cT} {sa:an} {sch:a8} {x:aN}
section
open gP
theorem vS {α β:Type} {f:α->β} {l:List α} {y:β} (h:l.map f=[y]):∃ x,l=[x]/\f x=y:=by
 cases l with
 |nil=>cases h
 |cons x l=>
  cases l with
  |nil=>exact ⟨x,rfl,by simpa using h⟩
  |cons y l=>simp at h
section
attribute [local irreducible] dK
theorem Ds {A:a6} {aw:Nat->Tag} {h z:ak} {aJ b1:Nat} (J:b6 A aw h aJ X) (S:ai h z) (N:h.heap.size<=b1/\b1<z.heap.size) (P:cd X.pure) {r:e2} {t:bJ conv} (V:ip (λk=>A k\/k=b1) z r t) (E:nb t)
  {a2:an} {pc:Nat} (y:bk z a2 r.cells) (D:o' (λk=>A k\/k=b1) z sa (is sch)) (F:∀ x ∈ sch,d9 x) (hm:most<=1000000) {cy:aE} {l:bJ conv} (aq:dK X.pure [t] sch [] most=(cy,[l])) :
  bb 15 [ptr aJ,.slice a2 1 pc,.slice sa sch.length sc,.slice none 0 0,.int .i64 most] z λv u=>∃ la lc c B dz j,v=.slice la 1 lc/\ft A aw h aJ (λk=>k=b1) u B dz j/\j.pure=cy/\ip (λk=>B k\/k=b1) u c l/\(∀ K:aX->Prop,(∀ b o,cf u ⟨b,o,none⟩ 0 c.cells->K ⟨b,o,none⟩)->bA la 1 0 36 K)/\
   u.heap[b1]?=z.heap[b1]?:=by
 have G:ft A aw h aJ (λk=>k=b1) z A aw X:=ft.start J S λk Q=>by subst Q;exact N
 have C:bk z a2 (iU [(r,t)]).flatten:=by simpa [iU] using y
 have d:=Er G.ck P (ts:=[(r,t)]) (pc:=pc) C (λx g=>by simp at g;rw [g];exact ⟨V,E⟩) (by simp) (sch:=sch) (sa:=sa) (sc:=sc) D F (most:=most) hm;have H:dK X.pure ([(r,t)].map Prod.snd) sch [] most=(cy,[l]):=aq;rw [H] at d;refine aD d ?_;rintro v u U;obtain ⟨B',Y,j,I,s,p,R,M,q⟩:=G.op U;obtain ⟨la,lc,W,rfl,e,w,T,f⟩:=p;obtain ⟨⟨c,t2⟩,rfl,n⟩:=vS e;have n:t2=l:=n;subst n;refine ⟨_,rfl,la,lc,c,B',Y,j,rfl,I,s,f (c,t2) (by simp),λK L=>?_,q b1 rfl⟩;have a:bk u la (([(c,t2)]:List (e2×bJ conv)).map λx=>x.1.cells).flatten:=w.rd
 exact eI (cells:=λx:e2×bJ conv=>x.1.cells) (λx=>cb.len x.1) (by omega) a (i:=0) rfl rfl rfl λb o O _=>L b o O
end
def lC (n y:Nat):bJ conv:=qh 0 (u5 n y)
theorem MV (f:1<=n/\n<=3) (g:y<14):jL (gF n y) [] [0] (aE.fresh n 4 101) [lC n y] (aE.fresh n 4 101) lL ⟨8,hn⟩ λ_=>nF 12:=by
 refine ⟨L' f g (by omega),.inl rfl,rfl,λk c t a b=>?_⟩;have d:k=0:=by have:=b3 a;simp at this;exact this
 subst d;simp at a b;subst a b;exact .inl ⟨rfl,rfl,rfl,rfl,rfl,λe=>by have:8<=4:=e;omega,λe=>by have:8=6:=e;omega,λe=>by have:8=7:=e;omega,λ_=>⟨rfl,rfl⟩,by show 8<=8/\8≠5;omega⟩
theorem MW:g4 [] (aE.fresh n 4 101) ⟨8,hn⟩ (λ_=>nF 12)=700:=by
 have b:(aE.fresh n 4 101).aR[0]?=some (hl n 0):=rfl;have c:hE (hl n 0):=λk l a=>by have a:=b5 a;unfold hl jP at a;simp only at a;obtain ⟨z,au,rfl⟩:=cZ.1 a;rfl
 have:dW (aE.fresh n 4 101) 0=0:=by unfold dW;rw [b];exact u_ c
 unfold g4;rw [this];rfl
structure rV (n y:Nat) (sure:Bool) (F G:aE) (A:bu) (g:f7) (gr:Nat->c5):Prop where
 iD:gQ (gF n y) [] G A g gr
 mP:gm F G
 fl:cd F
 wt:g4 [] G g gr<=700
 sure:sure=true->h5 (gF n y) A
 clean:en F
theorem O6 {E:Env} {t:e3} (j:1<=E.n) (h:gQ E [] G A g gr) (b:om E A g t) (d:3<=t.a7.length):h5 E A:=by
 have a:=h.q0;obtain ⟨l,k⟩:=b.aC;unfold e1 at a;by_cases f:g.aC<=4
 ·obtain ⟨_,_,_,o⟩:=b.run f;obtain e | e:g.aC=3\/g.aC=4:=by omega
  ·rw [e] at a;exact a.1
  ·rw [e] at a;exact a.1
 ·obtain e | e | e:g.aC=6\/g.aC=7\/g.aC=8:=by omega
  ·rw [e] at a;exact a.1
  ·obtain ⟨_,_,_,_,_,m,_,hm⟩:=b.ref e;rw [h.op (λc i=>by cases i) m] at hm;cases hm
  ·rw [(b.new e).2] at d;simp at d
theorem PC (r:1<=n/\n<=3) (t:y<14) (sch:a8) (most:Nat):∃ i h,dK (aE.fresh n 4 101) [lC n y] sch [] most=(i,[h])/\h.bad=false/\cd i/\∃ j,i.die 0=(true,j)/\∃ G A g gr,rV n y (decide ((h.a7.length:Int)>=3)) j G A g gr:=by
 have ay:=wz r t;obtain ⟨G,A,g,gr,aq,_,hw,_⟩:=Mu ay (rs:=[]) (λc k=>by cases k) (cs:=[0]) (by simp) (MV r t) sch most;rw [MW] at hw;have d:cd (dK (aE.fresh n 4 101) [lC n y] sch [] most).1:=cd.dK (cd.fresh (by omega) (by omega) (by omega)) _ _ _ _;have f:en (dK (aE.fresh n 4 101) [lC n y] sch [] most).1:=(en.fresh n 4 101).dK _ _ _;generalize w:dK (aE.fresh n 4 101) [lC n y] sch [] most=R at *;obtain ⟨i,ts⟩:=R;have o:=aq.len;simp only at aq o d f;obtain ⟨h,rfl⟩:∃ h,ts=[h]:=by
  cases ts with
  |nil=>simp at o
  |cons a l=>
   cases l with
   |nil=>exact ⟨a,rfl⟩
   |cons b l=>simp at o
 rcases aq.fY 0 0 h rfl rfl with ⟨_,e,q⟩ | ⟨k,_⟩
 ·subst e;obtain ⟨j,p,u⟩:=aq.iD.die;refine ⟨i,h,rfl,q.bad,d,j,p,i,A,g,gr,aq.iD,u,?_,hw,λs=>?_,?_⟩
  ·have:=d.die ((0:Nat):Int);rw [p] at this;exact this
  ·have s:=of_decide_eq_true s;exact O6 ay.e.n.1 aq.iD q (by omega)
  ·have:=f.die ((0:Nat):Int);rw [p] at this;exact this
 ·cases k
theorem CD (i:1<=n/\n<=3) (o:y<14) (j:x=⟨fmt 101 n,false⟩):k6 x (fj y)=(fj y).map jO:=by
 obtain ⟨h,_⟩:=yk i;simp only [vi,ep,fE,fs,beq_iff_eq] at h;obtain ⟨_,_,_,_,c⟩:=h;unfold k6;refine rB λl f=>?_
 obtain ⟨c9,l2⟩:=Bi f;have g:∀ k,k<8->x.get (l * 8+k)=tU 0 k:=λk d=>by have:=c (l - 96) (by omega) k d;rw [show l - 96+96=l by omega] at this;rw [j];exact this
 have a:=g 0 (by omega);rw [mb] at a;unfold uj aN.dx jO;simp only;rw [a,g 1 (by omega),g 2 (by omega),g 3 (by omega),g 4 (by omega),g 5 (by omega),g 6 (by omega),g 7 (by omega)];have e:tM .u64 256 255=256:=by decide
 have b:IntKind.u64.wrap (0+1)=1:=by decide
 show (⟨(l:Int),tM .u64 256 255,IntKind.u64.wrap (0+1),0,0,0,0,0,0⟩:aK)=_;rw [e,b]
theorem Ey:∀ p ∈ (fj y).map jO,z2 p:=λp b=>by obtain ⟨l,_,rfl⟩:=cZ.1 b;refine ⟨⟨by show (0:Int)<=256;omega,by show (256:Int)<_;omega⟩,λx a=>?_⟩;simp [hz,jO] at a;rcases a with rfl | rfl<;>exact ⟨by omega,by omega⟩
theorem H4 (n y:Nat):nb (lC n y):=λ_=>by show ([]:List (List aM)).length<=200;simp
section
attribute [local irreducible] dK
theorem Qy {w:ak} (Yc:1<=n/\n<=3) {XU XI:Int} (Ym:d9 XU) (X2:d9 XI) (Yh:bk w sa (is sch)) (Yi:∀ x ∈ sch,d9 x) :
  bb 13 [.int .i64 n,.int .i64 XU,.int .i64 XI,.slice sa sch.length sc] w λv u=>∃ aJ sure A aw X F G B g gr,v=.tuple #[ptr aJ,.bool sure,.bool true]/\oe w u aJ A aw X F/\rV n (XU % 14).toNat sure F G B g gr:=by
 obtain ⟨y,Yo,s⟩:∃ y:Nat,(XU % 14).toNat=y/\y<14:=⟨(XU % 14).toNat,rfl,by omega⟩;obtain ⟨X0,Yp,Ya,XJ,XM,Yr,XL,G,B,g,gr,XK⟩:=PC Yc s sch (XI % 70).toNat
 rw [Yo];refine bd Tryz.func13 ?_;rw [Ww];refine aD (D1 (n:=n) (c:=4) (lines:=101) (by omega) (by omega) (by omega)) ?_;rintro v bG ⟨aJ,A,aw,X,rfl,X5,XO,X3,XW⟩;refine ⟨_,_,rfl,di rfl ?_⟩;refine aD (MU Ym) ?_;rw [Yo];rintro v YM ⟨YJ,cc,rfl,Yg,N⟩;refine ⟨_,_,_,rfl,?_⟩;have P:∀ (i:Nat) (x:hF),X.nodes[i]?=some x->x.n=⟨fmt 101 n,false⟩:=λi x XY=>by
  have:X.pure.nodes[i]?=some x.n:=by simp [bR.pure,XY]
  rw [XW] at this;exact (yR.1 (b5 this)).2
 have Yy:X.nodes.length=n:=by
  have:X.pure.nodes.length=n:=by rw [XW];simp [aE.fresh]
  rw [<-this];simp [bR.pure]
 obtain ⟨x,XY⟩:∃ x,X.nodes[0]?=some x:=⟨_,bE (by omega)⟩;have XC:=P 0 x XY;have hlen:x.n.words.length=808:=by rw [XC];obtain ⟨h,_⟩:=yk Yc;simp only [vi,ep,beq_iff_eq] at h;exact h.1
 refine aD (Bu (X5.new N) (n:=n) (by omega) XY (by rw [XC]) (L:=fj y) (λl Yv=>by have:=Bi Yv;omega) (by have:=(A9 y s).2;omega) Yg 0 1) ?_;rintro v bq ⟨dI,c6,eg,rfl,Xz,al,r,Yk⟩;rw [CD Yc s XC] at r;refine cb.aT (hQ 0 1 101 dI c6 (fj y).length eg) ⟨true,rfl,?_⟩;have YA:=N.size;have YB:=Xz.size;refine ec (vs:=(hQ 0 1 101 dI c6 (fj y).length eg).cells) rfl (cb.single _) λb1 YF Yt XD Yd=>?_
 refine di rfl ?_;rintro XT XQ;have O:ai YF XT:=by rw [XQ];exact cK _
 clear XQ;have Yw:=XD.lt;refine ⟨λq=>ai XT q,ao.refl _ _,cb.aT (hQ 0 1 101 dI c6 (fj y).length eg) ⟨λq Yz=>bO (ai.aj (O.new Yz) XD) rfl,?_⟩⟩;have XN:ai bq XT:=Yd.new O;have p:ai w bq:=XO.new (N.new Xz);have Z:b6 A aw bq aJ X:=X5.new (N.new Xz);have Y:∀ k,A k->k<bG.heap.size:=λk S=>X5.low k S
 have tail:∀ {z:ak} {a2:an},ai XT z->bk z a2 (hQ 0 1 101 dI c6 (fj y).length eg).cells->bb 15 [ptr aJ,.slice a2 1 1,.slice sa sch.length sc,.slice none 0 0,.int .i64 (XI % 70)] z λv XF=>∃ la lc,v=.slice la 1 lc/\∀ {X1:aF},(∀ d q,av q b1 (cb.cells d) 45->d.r'=Yp.a7.length->d.n8=false->(∃ XV XZ Q,ft A aw bq aJ (λk=>k=b1) q XV XZ Q/\Q.pure=X0)->X1 q)->bA la 1 0 36 λbx=>cb.ex λr1=>cf XF bx 0 r1.cells/\eh XF ⟨b1,0,none⟩ 0 r1.cells/\∀ q,q=cu XF ⟨b1,0,none⟩ 0 r1.cells->X1 q:=λ{z a2} XA Yf=>by
  have j:ai bq z:=XN.new XA;have XR:(fj y).length=((fj y).map jO).length:=by simp
  have YD:=XA.size;have YC:=O.size;have Yj:ip (λk=>A k\/k=b1) z (hQ 0 1 101 dI c6 (fj y).length eg) (lC n y):=by
   refine yZ ?_ (r.rd.new j) XR (by rw [<-XR];have:=(A9 y s).2;omega) ?_ Ey
   ·exact (al.mono λk Yx S=>S.resolve_right (by omega)).new j
   ·exact hk r.rd λk S XX=>by
     have YK:=Yk _ S;have YL:=r.lt S;rcases XX with XX | XX
     ·have:=Y _ XX;omega
     ·omega
  have Xy:((XI % 70).toNat:Int)=XI % 70:=by omega
  have E:=Ds Z j (b1:=b1) ⟨by omega,by omega⟩ (by rw [XW];exact cd.fresh (by omega) (by omega) (by omega)) Yj (H4 n y) (pc:=1) Yf (sch:=sch) (sc:=sc) (sa:=sa) (Np Yh (p.new j) λk S=>S.elim (X3 k) λe=>(by have:=p.size;omega)) Yi (most:=(XI % 70).toNat) (by omega) (by rw [XW];exact Ya);rw [Xy] at E;refine aD E ?_;rintro v XF ⟨la,lc,d,B',YN,YH,rfl,X7,X9,XP,I,X'⟩;refine ⟨_,rfl,la,lc,rfl,λ{X1} Ys=>I _ λb o Yu=>cb.aT d ⟨Yu,?_⟩⟩;have Yl:av XF b1 (hQ 0 1 101 dI c6 (fj y).length eg).cells 45:=by exact X'.trans (ai.aj (O.new XA) XD)
  refine dQ (vs:=d.cells) Yl rfl (cb.single _) λq f Yb=>?_
  have X8:=X7.local Yb λk e=>e
  exact Ys d q f XP.dL (XP.bad.trans XJ) ⟨_,_,_,X8,X9⟩
 have fin:∀ d q,av q b1 (cb.cells d) 45->d.r'=Yp.a7.length->d.n8=false->(∃ XV XZ Q,ft A aw bq aJ (λk=>k=b1) q XV XZ Q/\Q.pure=X0)->∀ XG,XG=q.drew->∃ M:aF,M XG/\∃ (tO:an) (a t:Nat),(∀ u,M u->u.cell? ⟨b1,23,none⟩=some (.slice tO a t))/\Calls prog 22 #[ptr aJ,.int .i64 0] XG λe XH=>∃ W:Bool,e=.returned (.bool W)/\M XH/\(bif W then (∃ n8:Bool,(∀ u,M u->u.cell? ⟨b1,25,none⟩=some (.bool n8))/\∃ C sure A aw X F G B g gr,(.tuple #[ptr aJ,.bool (decide ((a:Int)>=3)),.bool (!n8)]:a4)=.tuple #[ptr C,.bool sure,.bool true]/\oe w XH C A aw X F/\rV n y sure F G B g gr) else (∃ C sure A aw X F G B g gr,(.tuple #[ptr aJ,.bool (decide ((a:Int)>=3)),.bool false]:a4)=.tuple #[ptr C,.bool sure,.bool true]/\oe w XH C A aw X F/\rV n y sure F G B g gr)):=by
  rintro d q f H D ⟨XV,XZ,Q,X7,Xw⟩ XS U;have T:ai q XS:=by rw [U];exact cK _
  clear U;have V:=ai.aj T f;have R:=X7.new T;refine ⟨λv=>v.heap[b1]?=XS.heap[b1]?,rfl,_,_,_,λu hu=>av.cell (i:=23) (hu.trans V) rfl,?_⟩;have Ye:Q.bU.length<=100000000:=by
   have Ym:=XM.le;have X2:Q.bU.length=X0.bU.length:=by rw [<-Xw];simp [bR.pure]
   omega
  refine aD (Fb R.ck (by rw [Xw];exact XM.b8.ok) Ye 0) ?_;rintro v YE ⟨rfl,Yn⟩;rw [Xw,XL] at Yn ⊢;obtain ⟨YG,YO,YI,Xv,X_,_,_,_,X6⟩:=R.op Yn;refine ⟨_,rfl,X6 b1 rfl,gB rfl ⟨_,λu hu=>av.cell (i:=25) (hu.trans V) rfl,aJ,_,_,_,_,Yr,G,B,g,gr,?_,⟨Xv.ck,X_,Xv.iz Z p X3,Xv.owns Z p X3⟩,XK⟩⟩;rw [H,D];rfl
 refine ⟨?_,?_⟩
 ·rintro aB Yq Xx K;obtain ⟨XE,J⟩:=bl Xx K;clear K;refine ⟨J,?_⟩;refine aD (tt _ _ _ X2 (by omega)) ?_;rintro v u8 ⟨rfl,XB⟩;obtain rfl:Yq=u8:=XB.symm;rw [if_neg (by omega)];refine ⟨_,rfl,J,?_⟩;refine aD (tail J (fu XE (by simp))) ?_;rintro v XF ⟨la,lc,rfl,I⟩;refine ⟨_,_,_,rfl,I λd q f H D X4=>?_⟩;exact fin d q f H D X4
 ·refine aD (tt _ _ _ X2 (by omega)) ?_;rintro v u8 ⟨rfl,XB⟩;obtain rfl:XT=u8:=XB.symm;rw [if_neg (by omega)];refine ⟨_,rfl,ao.refl _ _,?_⟩;rintro aB Yq Xx K;obtain ⟨XE,J⟩:=bl Xx K;clear K;refine aD (tail J (fu XE (by simp))) ?_;rintro v XF ⟨la,lc,rfl,I⟩;refine ⟨_,_,_,rfl,I λd q f H D X4=>?_⟩;exact fin d q f H D X4
end
end
section
open gP
def z3 (n y:Nat) (rs:cT) (ts:List e3) (sure:Bool) (F:aE) (m:Nat):Prop:=
 ∃ G A g gr,jL (gF n y) rs rs F ts G A g gr/\g4 rs G g gr<=m/\cd F/\(sure=true->h5 (gF n y) A)
def iV (n c:Nat):e3:=PP c ⟨(c:Int),1,101,ro n,0,2,0⟩
theorem Dt {f:Nat->Nat} {k:Nat}:∀ {l:cT},(∀ c ∈ l,f c=k)->(l.map f).sum=l.length * k
 | [],_=>by simp
 |a::l,h=>by rw [gj,jI,h a eO,Dt λc b=>h c (fw _ b),hh,h2];omega
theorem JI {sure:Bool} (h:rV n y sure F G A g gr) (b:∀ c ∈ rs,1<=c/\c<4):z3 n y rs (rs.map (iV n)) sure F (700+rs.length * 1680):=by
 have d:=h.iD.join b;refine ⟨G,A,g,_,⟨d,h.mP,by simp,λk c t a f=>?_⟩,?_,h.fl,h.sure⟩
 ·rw [dS,a] at f;cases f;exact .inr ⟨b5 a,rfl,rfl,rfl,λe=>by have:12<=9:=e;omega,λe=>by have:12=10:=e;omega,λe=>by have:12=11:=e;omega,λ_=>⟨rfl,rfl⟩⟩
 ·have o:=h.wt;have i:(rs.map λc=>dW G c+g1 ((λ_=>nF 12) c).aC).sum=rs.length * 1680:=Dt λc a=>by
   obtain ⟨C,j,_,_,q⟩:=d.q6 c a;have:dW G c=0:=by unfold dW;rw [j];exact u_ (q (by show 10<=12;omega)).2
   show dW G c+1680=1680;omega
  have l:g4 [] G g gr=dW G 0+oO g.aC:=by unfold g4;simp
  unfold g4;rw [i];omega
def wO (n y:Nat) (sure:Bool) (F:aE) (t:e3):Prop:=
 ∃ (b:Bool) (v s q:Int),zp n y b F.nodes/\(sure=true->b=true)/\t.out=.inr ⟨0,v,s,q,0⟩/\(v=2↔b=true)/\(b=true->q=2)/\t.a7.length<=9
theorem MX (J:1<=n/\n<=3) (L:y<14) (C:∀ c ∈ rs,1<=c/\c<4) {ts:List e3} {sure:Bool} {m:Nat} (h:z3 n y rs ts sure F m) (V:rP ts) :
  (∀ t ∈ ts,t.bad=false/\(wO n y sure F t\/∃ w,t.out=.inr ⟨3,0,0,0,w⟩))/\(rs≠[]->∃ t ∈ ts,wO n y sure F t)/\(rs.length=1->∀ t ∈ ts,wO n y sure F t):=by
 obtain ⟨G,A,g,gr,aq,_,Z,W⟩:=h;have ay:=wz J L;have x:∀ {c:Nat},c ∈ rs->∃ t,t ∈ ts/\mm (gF n y) c (gr c) t:=λ{c} d=>by
  obtain ⟨k,B⟩:=ei.1 d;obtain ⟨t,j⟩:∃ t,ts[k]?=some t:=⟨_,bE (by rw [aq.len];exact b3 B)⟩;rcases aq.fY k c t B j with ⟨e,_⟩ | ⟨_,i⟩
  ·have:=C c d;omega
  ·exact ⟨t,b5 j,i⟩
 have D:∀ {t:e3},t ∈ ts->∃ c,c ∈ rs/\mm (gF n y) c (gr c) t:=λ{t} j=>by
  obtain ⟨k,B⟩:=ei.1 j;obtain ⟨c,d⟩:∃ c,rs[k]?=some c:=⟨_,bE (by rw [<-aq.len];exact b3 B)⟩;rcases aq.fY k c t d B with ⟨e,_⟩ | h
  ·have:=C c (b5 d);omega
  ·exact ⟨c,h⟩
 have q:∀ {c:Nat} {t:e3},c ∈ rs->t ∈ ts->mm (gF n y) c (gr c) t->(gr c).aC=10\/(gr c).aC=11:=λ{c t} d j i=>by
  have T:=(aq.iD.mJ c d).2.2.2;have p:=V t j;by_cases U:(gr c).aC<=9
  ·rw [(i.run U).1] at p;cases p
  ·by_cases I:(gr c).aC=12
   ·rw [(i.new I).1] at p;cases p
   ·omega
 have f:∀ {c:Nat} {t:e3},c ∈ rs->mm (gF n y) c (gr c) t->(gr c).aC=10->wO n y sure F t:=λ{c t} d i e=>by
  obtain ⟨ok,_⟩:=aq.iD.mJ c d;unfold cI at ok;rw [e] at ok;obtain ⟨Q,X⟩:=ok;obtain ⟨_,f2,f3⟩:=i.fin e;have o:=aq.mP.nodes;rcases X with ⟨H,M,Y⟩ | ⟨H,M⟩
  ·exact ⟨true,_,_,_,by rw [o];exact Et J L aq.iD.rep aq.iD.law Q (b:=true) H,λ_=>rfl,f2,⟨λ_=>rfl,λ_=>M⟩,λ_=>Y,f3⟩
  ·refine ⟨false,_,_,_,by rw [o];exact Et J L aq.iD.rep aq.iD.law Q (b:=false) H,λh=>?_,f2,⟨λe=>absurd e M,(λe=>nomatch e)⟩,(λe=>nomatch e),f3⟩;have E:=W h 0 (by have:=ay.e.n;omega);rw [H.2.1 0 (by have:=ay.e.n;omega)] at E;cases E
 have s:∀ {c:Nat},c ∈ rs->(gr c).aC=11->∃ c' ∈ rs,c'≠c/\(gr c').aC=10:=λ{c} d e=>by
  obtain ⟨ok,_⟩:=aq.iD.mJ c d;unfold cI at ok;rw [e] at ok;obtain ⟨c',r,N,O⟩:=ok;obtain ⟨R,z,u⟩:=x r;refine ⟨c',r,N,?_⟩;rcases q r z u with P | P
  ·exact P
  ·rcases O with ⟨S,_⟩ | ⟨_,S⟩<;>omega
 refine ⟨λt j=>?_,λK=>?_,λE t j=>?_⟩
 ·obtain ⟨c,d,i⟩:=D j;refine ⟨i.bad,?_⟩;rcases q d j i with e | e
  ·exact .inl (f d i e)
  ·exact .inr (i.busy e).2
 ·obtain ⟨c,l,e⟩:=rv K;have d:c ∈ rs:=by rw [e];exact eO
  obtain ⟨t,j,i⟩:=x d;rcases q d j i with e | e
  ·exact ⟨t,j,f d i e⟩
  ·obtain ⟨c',r,_,O⟩:=s d e;obtain ⟨R,z,u⟩:=x r;exact ⟨R,z,f r u O⟩
 ·obtain ⟨c,d,i⟩:=D j;rcases q d j i with e | e
  ·exact f d i e
  ·obtain ⟨c',r,N,_⟩:=s d e;obtain ⟨a,rfl⟩:=tm.1 E;simp at r d;exact absurd (r.trans d.symm) N
end
section
open gP
def uB:Nat->aE->List e3->Option (aE×List e3)
 | 0,_,_=>none
 |f+1,F,l=>match turns F l with
  | (cy,l')=>match fC cy [] 0 with
   | (true,a)=>uB f a l'
   | (false,a)=>some (a,l')
theorem LN (F:aE) (n:Nat):fC F [] n=fC F [] 0:=by unfold fC t7;simp
theorem Ez (cs:a8):∀ (f a n:Nat) {F:aE} {l:List e3} {e:aE×List e3},uB f F l=some e->f<=a->f_ cs [] [] a n F l=e
 | 0,a,n,F,l,e,h,c=>by cases h
 |f+1,0,n,F,l,e,h,c=>by omega
 |f+1,a+1,n,F,l,e,h,c=>by
  unfold uB at h;unfold f_;have d:jU F cs n []=F:=rfl;rw [d,LN];cases i:turns F l with
  |mk cy l'=>
   rw [i] at h;simp only at h ⊢;cases g:fC cy [] 0 with
   |mk b j=>
    rw [g] at h;cases b with
    |true=>simp only at h ⊢;rw [if_pos trivial];exact Ez cs f a (n+1) h (by omega)
    |false=>simp only at h ⊢;rw [if_neg (λh=>nomatch h)];exact me h
def FJ:aE×List e3:=dK (aE.fresh 1 2 101) [lC 1 0] [] [] 3
def GF (t:e3):Bool:=match t.out with
 | .inl _=>false
 | .inr o=>o.Code == 0 && (o.k4 == 3 && o.k2 == 2)
def FI (e:aE×List e3):Bool:=match e.2 with
 | [t]=>t.e4 && (GF t && match e.1.nodes with
  | [x]=>!x.down && (x.words.length == 808 && x.get 768 == 256)
  | _=>false)
 | _=>false
def FH:Bool:=match FJ with
 | (a,c9)=>(match a.nodes with
  | [x]=>!x.down && (x.words.length == 808 && x.get 768 == 257)
  | _=>false) && (c9.length == 1 && match a.die 0 with
   | (true,b)=>(match uB 60 b [iV 1 1] with
    |some e=>FI e
    |none=>false)
   | (false,_)=>false)
theorem PD:FH=true:=by kernel_rfl
structure Ih (zu Dq Dr:aE) (c9:List e3) (t:e3) (yp yq:aN):Prop where
 d1:dK (aE.fresh 1 2 101) [lC 1 0] [] [] 3=(zu,c9)
 kI:zu.nodes=[yp]/\yp.down=false/\yp.words.length=808/\yp.get 768=257
 die:zu.die 0=(true,Dq)
 d3:ko Dq (iV 1 1)=(Dr,[t])
 Gu:Dr.nodes=[yq]/\yq.down=false/\yq.words.length=808/\yq.get 768=256
 one:∃ t1,c9=[t1]
 e4:t.e4=true
 out:∃ o:dA,t.out=.inr o/\o.Code=0/\o.k4=3/\o.k2=2
theorem Rr:∃ q s r c9 t f g,Ih q s r c9 t f g:=by
 have h:=PD;unfold FH at h;cases C:FJ with
 |mk q c9=>
 rw [C] at h;simp only [ep] at h;obtain ⟨i,u,d⟩:=h;have k:∃ f,q.nodes=[f]/\f.down=false/\f.words.length=808/\f.get 768=257:=by
  cases j:q.nodes with
  |nil=>rw [j] at i;cases i
  |cons x l=>
   cases l with
   |nil=>rw [j] at i;simp only [ep,qc,beq_iff_eq] at i;exact ⟨x,rfl,i⟩
   |cons y l=>rw [j] at i;cases i
 obtain ⟨f,k⟩:=k;cases aq:q.die 0 with
 |mk b s=>
 rw [aq] at d;cases b with
 |false=>cases d
 |true=>
 simp only at d;cases B:uB 60 s [iV 1 1] with
 |none=>rw [B] at d;cases d
 |some e=>
 rw [B] at d;obtain ⟨r,iM⟩:=e;unfold FI at d;simp only at d;cases iM with
 |nil=>cases d
 |cons t l=>
 cases l with
 |cons a l=>cases d
 |nil=>
 simp only [ep] at d;obtain ⟨D,c,p⟩:=d;have n:∃ g,r.nodes=[g]/\g.down=false/\g.words.length=808/\g.get 768=256:=by
  cases j:r.nodes with
  |nil=>rw [j] at p;cases p
  |cons x l=>
   cases l with
   |nil=>rw [j] at p;simp only [ep,qc,beq_iff_eq] at p;exact ⟨x,rfl,p⟩
   |cons y l=>rw [j] at p;cases p
 obtain ⟨g,n⟩:=n;have A:ko s (iV 1 1)=(r,[t]):=by unfold ko dK;rw [Ez _ 60 20000 0 B (by omega)];exact Bh λE w=>by simp at w;rw [w];exact D
 refine ⟨q,s,r,c9,t,f,g,C,k,aq,A,n,?_,D,?_⟩
 ·rw [beq_iff_eq] at u;exact tm.1 u
 unfold GF at c;cases z:t.out with
 |inl o=>rw [z] at c;cases c
 |inr o=>rw [z] at c;simp only [ep,beq_iff_eq] at c;exact ⟨o,rfl,c⟩
end
section
open gP
theorem zL (h:X.pure=F) (a:F.nodes=[x]):∃ y,X.nodes[0]?=some y/\y.n=x:=by rw [<-h] at a;obtain ⟨y,b,rfl⟩:=vS (f:=λy:hF=>y.n) (l:=X.nodes) (y:=x) (by simpa [bR.pure] using a);exact ⟨y,by rw [b];rfl,rfl⟩
theorem O7 (h:X.pure=F) (a:cd F):X.bU.length<=100000000:=by
 have b:=a.le;have c:X.bU.length=F.bU.length:=by rw [<-h];simp [bR.pure]
 omega
theorem H5 (n c:Nat):nb (iV n c):=λ_=>by show ([]:List (List aM)).length<=200;simp
section
attribute [local irreducible] dK ko
theorem O8 (w:ak):bb 14 [] w λv u=>v=.bool true/\ai w u:=by
 obtain ⟨X_,X',YI,c9,t,YV,YW,p⟩:=Rr;obtain ⟨t1,rfl⟩:=p.one;have XK:fj 0=[96]:=by decide
 have W:cd (aE.fresh 1 2 101):=cd.fresh (by omega) (by omega) (by omega);have I:cd X_:=by have:=cd.dK W [lC 1 0] [] [] 3;rw [p.d1] at this;exact this
 have XQ:cd X':=by have:=I.die 0;rw [p.die] at this;exact this
 refine bd Tryz.func14 ?_;rw [V7];refine aD (D1 (n:=1) (c:=2) (lines:=101) (by omega) (by omega) (by omega)) ?_;rintro v bG ⟨aJ,A,aw,X,rfl,XJ,Xw,Yc,XL⟩;refine ⟨_,_,rfl,di rfl ?_⟩;rintro b1 YE XM XB;obtain ⟨M,r⟩:=bl XM XB;have M:av YE b1 (is (bp [96])) 3:=M;clear XB;obtain ⟨X8,XY,f⟩:=zL (x:=⟨fmt 101 1,false⟩) XL rfl;have hlen:X8.n.words.length=808:=by rw [f];obtain ⟨h,_⟩:=yk (n:=1) (by omega);simp only [vi,ep,beq_iff_eq] at h;exact h.1
 refine aD (Bu (XJ.new r) (n:=1) (by omega) XY (by rw [f]) (L:=[96]) (λl Yg=>by simp at Yg <;> omega) (by simp) (cc:=1) (fu M rfl) 0 1) ?_;rintro v bq ⟨dI,c6,eg,rfl,J,al,b,XX⟩;have XP:k6 X8.n [96]=[jO 96]:=by have:=CD (n:=1) (y:=0) (by omega) (by omega) f;rw [XK] at this;exact this
 rw [XP] at b;have Yk:=r.size;have Yl:=J.size;refine cb.aT (hQ 0 1 101 dI c6 1 eg) ⟨true,rfl,?_⟩;refine ec (vs:=(hQ 0 1 101 dI c6 1 eg).cells) rfl (cb.single _) λaB YT Yd N XT=>?_
 refine di rfl (cb.aT (hQ 0 1 101 dI c6 1 eg) ⟨bO N rfl,?_⟩);rintro YM X7 XN XC;obtain ⟨X1,K⟩:=bl XN XC;clear XC;have Yh:=N.lt;have Ym:=K.size;have d:ai bq X7:=XT.new K;have Xx:ai w bq:=Xw.new (r.new J);have O:b6 A aw bq aJ X:=XJ.new (r.new J);have H:∀ k,A k->k<bG.heap.size:=λk D=>XJ.low k D
 have XV:ip (λk=>A k\/k=aB) X7 (hQ 0 1 101 dI c6 1 eg) (lC 1 0):=by
  have XU:lC 1 0=qh 0 ⟨0,1,101,ro 1,[],[jO 96]⟩:=by unfold lC u5;rw [XK];rfl
  rw [XU];refine yZ ((al.mono λk Yi D=>D.resolve_right (by omega)).new d) (b.rd.new d) rfl (by simp) ?_ ?_
  ·exact hk b.rd λk D XI=>by
    have YP:=XX _ D;have YQ:=b.lt D;rcases XI with XI | XI
    ·have:=H _ XI;omega
    ·omega
  ·have:=Ey (y:=0);rw [XK] at this;exact this
 refine aD (Ds O d (b1:=aB) ⟨by omega,by omega⟩ (by rw [XL];exact W) XV (H4 1 0) (pc:=1) (fu X1 (by simp)) (sch:=[]) (sa:=none) (sc:=0) ⟨.inl rfl,.inl rfl⟩ (λx Yo=>by cases Yo) (most:=3) (by omega) (by rw [XL];exact p.d1)) ?_;rintro v YF ⟨la,lc,r1,YG,YX,YJ,rfl,S,q,Yn,_,XO⟩;refine ⟨_,_,_,rfl,?_⟩;obtain ⟨kI,fA,Gu,Ys⟩:=p.kI;obtain ⟨XG,XZ,g⟩:=zL q kI;refine aD (tK S.ck XZ (l:=96) (by omega) (by rw [g];omega) (by rw [g];exact fA)) ?_;rintro v u8 ⟨rfl,Z⟩;refine aK.aT (XG.n.dx 96) ⟨true,rfl,?_⟩;refine ec (vs:=(XG.n.dx 96).cells) rfl (aK.single _) λYN YU Ye X2 Xv=>?_
 have T:=S.new (Z.new Xv);have XR:(XG.n.dx 96).Head=257:=by have:(XG.n.dx 96).Head=XG.n.get 768:=rfl;rw [this,g,Ys]
 refine di rfl ⟨_,X2.cell (i:=1) rfl,di (by rw [XR];rfl) ?_⟩;refine aD (Fb T.ck (by rw [q];exact I.b8.ok) (O7 q I) 0) ?_;rintro v X4 ⟨rfl,Xy⟩;rw [q,p.die] at Xy ⊢;obtain ⟨X9,YY,YK,z,U,_,_,_,P⟩:=T.op Xy;refine ⟨_,rfl,di rfl ?_⟩;refine aD (Fv (A:=λk=>X9 k\/k=aB) (λk D=>z.ck.low k D) (n:=1) (by omega) 1 0) ?_;rintro v YA ⟨X3,rfl,E,XW⟩;refine cb.aT (sQ 1 0 X3) ⟨rfl,?_⟩;have B:=z.new E;refine aD (zi B.ck (by rw [U];exact XQ) (t:=iV 1 1) (DP XW ⟨by omega,by omega⟩) (H5 1 1)) ?_;rintro v X5 Xy;rw [U] at Xy;obtain ⟨YH,YZ,YL,R,V,⟨Yz,X6,s,rfl,Xz⟩,_,_,Q⟩:=B.op Xy;rw [p.d3] at s V;have s:Yz=t:=by simpa using s.symm
 subst s;have XD:av X5 aB (hQ 0 1 101 dI c6 1 eg).cells 45:=by have Ya:av YF aB (hQ 0 1 101 dI c6 1 eg).cells 45:=XO.trans (ai.aj K N);have Yb:av X4 aB (hQ 0 1 101 dI c6 1 eg).cells 45:=(P aB rfl).trans (ai.aj (Z.new Xv) Ya);exact (Q aB rfl).trans (ai.aj E Yb)
 refine cb.aT X6 ⟨rfl,?_⟩;refine dQ (vs:=X6.cells) XD rfl (cb.single _) λYB XE Y=>?_
 have C:=R.local Y λk e=>e
 obtain ⟨Yp,Yq,YR,Yr⟩:=p.Gu;obtain ⟨XH,X0,j⟩:=zL V Yp;refine aD (tK C.ck X0 (l:=96) (by omega) (by rw [j];omega) (by rw [j];exact Yq)) ?_;rintro v YC ⟨rfl,F⟩;refine aK.aT (XH.n.dx 96) ⟨true,rfl,?_⟩;refine ec (vs:=(XH.n.dx 96).cells) rfl (aK.single _) λYO YD Yf XF G=>?_
 have a:=ai.aj (F.new G) XE;obtain ⟨o,Yj,Yt,Yu,Yv⟩:=p.out;have XA:=Xz.out;rw [Yj] at XA;obtain ⟨Yw,Yx,YS,Yy⟩:=XA;have XS:(XH.n.dx 96).Head=256:=by have:(XH.n.dx 96).Head=XH.n.get 768:=rfl;rw [this,j,Yr]
 refine ⟨_,a.cell (i:=24) rfl,gB (Xz.e4.trans p.e4) ⟨_,a.cell (i:=26) rfl,gB (by rw [Yw,Yt];rfl) ⟨_,a.cell (i:=33) rfl,gB (by rw [Yx,Yu];rfl) ⟨_,a.cell (i:=35) rfl,gB (by rw [Yy,Yv];rfl) (gB rfl ⟨_,XF.cell (i:=1) rfl,?_,?_⟩)⟩⟩⟩⟩
 ·rw [XS];rfl
 ·exact (C.new (F.new G)).iz O Xx Yc
end
end
section
def kL (k:Nat):Bool:=decide (k<2) || (decide (24<=k) && decide (k<30)) || (decide (32<=k) && decide (k<38)) || decide (768<=k)
structure ht (x y:aN):Prop where
 down:x.down=y.down
 len:x.words.length=y.words.length
 get:∀ k,kL k=true->x.get k=y.get k
theorem ht.at_ {y:aN} (h:ht x y) (b:kL k=true):x.words[k]?=y.words[k]?:=by
 by_cases a:k<x.words.length
 ·rw [aN.get_some a,aN.get_some (by rw [<-h.len];exact a),h.get k b]
 ·rw [iF (by omega),iF (by have:=h.len;omega)]
def tY:Nat->Nat->Bool
 | _,0=>true
 |a,n+1=>kL a && tY (a+1) n
theorem Du:∀ {n a q:Nat},tY a n=true->q<n->kL (a+q)=true
 | 0,a,q,h,b=>by omega
 |n+1,a,q,h,b=>by
  unfold tY at h;rw [ep] at h;cases q with
  |zero=>exact h.1
  |succ q=>rw [show a+(q+1)=a+1+q by omega];exact Du h.2 (by omega)
theorem ht.read {x y:aN} (h:ht x y) {a c:Int} (b:tY a.toNat c.toNat=true):x.read a c=y.read a c:=by
 unfold aN.read;apply jK;intro q;rw [m4,m4,kv,kv];split
 ·rename_i d;exact h.at_ (Du b d)
 ·rfl
theorem ht.write {x y:aN} (h:ht x y) {a:Nat} {ws:a8} (b:a+ws.length<=y.words.length):ht (x.write a ws) (y.write a ws):=by
 have d:a+ws.length<=x.words.length:=by rw [h.len];exact b
 refine ⟨h.down,?_,λk c=>?_⟩
 ·unfold aN.write;simp only [dy,iG,lH];have:=h.len;omega
 ·rw [pF d,pF b,h.get k c]
theorem MY {n:aN} {i:Nat} {v:Int} (k:Nat):aN.get { n with words:=n.words.set i v } k=if i=k/\i<n.words.length then v else n.get k:=by
 unfold aN.get;simp only [dq,im];by_cases e:i=k
 ·subst e;by_cases h:i<n.words.length
  ·simp [h]
  ·simp [h,iF (vq h)]
 ·simp [e]
theorem ht.set {x y:aN} (h:ht x y) (i:Nat) (v:Int):ht { x with words:=x.words.set i v } { y with words:=y.words.set i v }:=by refine ⟨h.down,by simp [h.len],λk a=>?_⟩;simp only [MY,h.get k a,h.len]
theorem ht.fx {x y:aN} (h:ht x y) {a o v:Int} (b:kL a.toNat=true):ht (x.fx a o v) (y.fx a o v):=by
 unfold aN.fx;rw [h.get _ b];split
 ·exact h.set _ _
 ·exact h
def AK (p:cR) (y:aN):Bool:=match p.a3 with
 | []=>true
 |x::_=>kL (24+p.aW).toNat && (if x.kind=1 then tY (x.v.pieces.getD p.bz (0,0)).1.toNat (x.v.pieces.getD p.bz (0,0)).2.toNat
  else if x.kind=2 then decide ((x.v.pieces.getD p.bz (0,0)).1.toNat+((x.words.drop ((x.v.pieces.getD p.bz (0,0)).1 - x.at_).toNat).take (x.v.pieces.getD p.bz (0,0)).2.toNat).length<=y.words.length)
  else if x.kind=3 then kL x.at_.toNat else false)
theorem MZ {p:cR} {y:aN} (h:ht x y) (e:AK p y=true):(p.step x).1=(p.step y).1/\(p.step x).2.2=(p.step y).2.2/\ht (p.step x).2.1 (p.step y).2.1:=by
 unfold AK at e;unfold cR.step;cases al:p.a3 with
 |nil=>exact ⟨rfl,rfl,h⟩
 |cons v vs=>
  rw [al] at e;simp only [ep] at e;obtain ⟨i,a⟩:=e;have j:p.refusal v x=p.refusal v y:=by unfold cR.refusal;rw [h.down,h.len,h.get _ i,h.get 0 rfl,h.get 1 rfl]
  simp only [j];split
  ·exact ⟨rfl,rfl,h⟩
  ·have he:(exec v (v.v.pieces.getD p.bz (0,0)) x).2=(exec v (v.v.pieces.getD p.bz (0,0)) y).2/\ht (exec v (v.v.pieces.getD p.bz (0,0)) x).1 (exec v (v.v.pieces.getD p.bz (0,0)) y).1:=by
    unfold exec;split at a
    ·rename_i b;rw [if_pos b,if_pos b];exact ⟨h.read a,h⟩
    ·rename_i c;rw [if_neg c,if_neg c];split at a
     ·rename_i b;rw [if_pos b,if_pos b];exact ⟨rfl,h.write (of_decide_eq_true a)⟩
     ·rename_i d;rw [if_neg d,if_neg d];split at a
      ·rename_i b;rw [if_pos b,if_pos b];exact ⟨by simp only;rw [h.get _ a],h.fx a⟩
      ·cases a
   obtain ⟨f,g⟩:=he;split
   ·exact ⟨by simp only;rw [f],rfl,g⟩
   ·exact ⟨rfl,by simp only;rw [f],g⟩
def bh.oG (C:bh):bh:={ C with hJ:=0,iS:=0 }
structure gH (c:Nat) (F K:aE):Prop where
 lines:F.lines=K.lines
 len:F.nodes.length=K.nodes.length
 node:∀ (m:Nat) (x y:aN),F.nodes[m]?=some x->K.nodes[m]?=some y->ht x y
 cE:∃ C D,F.aR[c]?=some C/\K.aR[c]?=some D/\C.oG=D.oG
theorem EA {C D:bh} (h:C.oG=D.oG):∃ a b,C={ D with hJ:=a,iS:=b }:=by obtain ⟨e,g9,f,g,i,c,d⟩:=C;obtain ⟨d1,d2,d3,d4,d5,d6,d7⟩:=D;unfold bh.oG at h;simp only [bh.mk.injEq,and_true] at h;obtain ⟨rfl,rfl,rfl,rfl,rfl⟩:=h;exact ⟨c,d,rfl⟩
theorem gH.dO {c:Nat} {F K:aE} (h:gH c F K) {C D:bh} (f:C.oG=D.oG):gH c (F.dO (c:Int) C) (K.dO (c:Int) D):=by obtain ⟨g,i,d,e,_⟩:=h.cE;have a:=b3 d;have b:=b3 e;exact ⟨h.lines,h.len,h.node,C,D,by simp [aE.dO,a],by simp [aE.dO,b],f⟩
theorem gH.Ac (h:gH c F K):∃ D a b,F.cE (c:Int)=some { D with hJ:=a,iS:=b }/\K.cE (c:Int)=some D:=by obtain ⟨C,D,d,e,f⟩:=h.cE;obtain ⟨a,b,rfl⟩:=EA f;exact ⟨D,a,b,by rw [h9];exact d,by rw [h9];exact e⟩
theorem gH.take {c:Nat} {F K:aE} (h:gH c F K):(F.take (c:Int)).1=(K.take (c:Int)).1/\gH c (F.take (c:Int)).2 (K.take (c:Int)).2:=by
 obtain ⟨D,a,b,d,e⟩:=h.Ac;unfold aE.take;rw [d,e];simp only;split
 ·exact ⟨rfl,h⟩
 ·cases D.batch with
  |none=>exact ⟨rfl,h⟩
  |some ds=>
   simp only;split
   ·exact ⟨rfl,h⟩
   ·exact ⟨rfl,h.dO rfl⟩
theorem HR (a b:Int):∀ (vs:List aQ) (D:bh) (k:Nat),bh.fc { D with hJ:=a,iS:=b } k vs={ D.fc k vs with hJ:=a,iS:=b }
 | [],D,k=>rfl
 |v::vs,D,k=>by show bh.fc (bh.e5 { D with hJ:=a,iS:=b } k v) (k+1) vs=_;have e:bh.e5 { D with hJ:=a,iS:=b } k v={ D.e5 k v with hJ:=a,iS:=b }:=rfl;rw [e,HR a b vs];rfl
theorem gH.post {c:Nat} {F K:aE} (h:gH c F K) (vs:List aQ):(F.post (c:Int) vs).1=(K.post (c:Int) vs).1/\gH c (F.post (c:Int) vs).2 (K.post (c:Int) vs).2:=by
 obtain ⟨D,a,b,d,e⟩:=h.Ac;unfold aE.post;rw [d,e,h.len,h.lines];simp only;split
 ·exact ⟨rfl,h⟩
 ·split
  ·exact ⟨rfl,h⟩
  ·split
   ·exact ⟨rfl,h⟩
   ·split
    ·exact ⟨rfl,h⟩
    ·split
     ·exact ⟨rfl,h⟩
     ·refine ⟨rfl,h.dO ?_⟩;unfold bh.j0 bh.oG;rw [HR]
section
variable {cv:Conv} {t:bJ cv}
theorem gH.tail (h:gH c F K) (d:t.aW=(c:Int)):(hG F t).2=(hG K t).2/\gH c (hG F t).1 (hG K t).1:=by
 unfold hG;rw [d];obtain ⟨b,a⟩:=h.post (cv.next t.bQ t.a7).1;rw [b];split
 ·exact ⟨rfl,h⟩
 ·split
  ·exact ⟨rfl,h⟩
  ·split
   ·exact ⟨rfl,a⟩
   ·exact ⟨rfl,a⟩
theorem gH.bN {c:Nat} {F K:aE} (h:gH c F K) {t:bJ cv} (f:t.aW=(c:Int)):(bN F t).2=(bN K t).2/\gH c (bN F t).1 (bN K t).1:=by
 obtain ⟨D,a,b,d,e⟩:=h.Ac;have j:F.alive (c:Int)=K.alive (c:Int):=by unfold aE.alive;rw [d,e]
 have hw:F.waiting (c:Int)=K.waiting (c:Int):=by unfold aE.waiting;rw [d,e]
 unfold Go.Proofs.YtmkljjbioomepaaGreat.bN;rw [f,j,hw];obtain ⟨g,i⟩:=h.take;split
 ·exact ⟨rfl,h⟩
 ·rw [g];exact i.tail (by cases (K.take (c:Int)).1<;>exact f)
def AJ (c j:Nat) (K:aE):Bool:=match K.aR[c]? with
 |none=>true
 |some C=>match C.az[j]?,K.nodes[j]? with
  |some l,some n=>AK l.pair n
  | _,_=>true
theorem gH.fe {c j:Nat} {F K:aE} (h:gH c F K) (d:AJ c j K=true):(fe c j K=none/\fe c j F=none)\/∃ o cy,fe c j K=some o/\fe c j F=some cy/\gH c cy o:=by
 obtain ⟨C,D,p,k,u⟩:=h.cE;obtain ⟨a,b,rfl⟩:=EA u;unfold AJ at d;unfold Go.Proofs.YtmkljjbioomepaaGreat.fe;rw [k] at d;rw [p,k];simp only at d ⊢;cases t:D.az[j]? with
 |none=>exact .inl ⟨rfl,rfl⟩
 |some l=>
  rw [t] at d;cases i:K.nodes[j]? with
  |none=>
   have:F.nodes[j]?=none:=by rw [BI,h.len];exact BI.1 i
   rw [this];exact .inl ⟨rfl,rfl⟩
  |some y=>
   rw [i] at d;simp only at d;have g:=b3 i;obtain ⟨x,n⟩:∃ x,F.nodes[j]?=some x:=⟨_,bE (by rw [h.len];exact g)⟩;rw [n];simp only;split
   ·exact .inl ⟨rfl,rfl⟩
   ·obtain ⟨q,r,s⟩:=MZ (h.node j x y n i) d;refine .inr ⟨_,_,rfl,rfl,⟨h.lines,by simp [h.len],λm gh w e f=>?_,bh.comes { D with hJ:=a,iS:=b } j l (l.pair.step x).1 (l.pair.step x).2.2,D.comes j l (l.pair.step y).1 (l.pair.step y).2.2,by simp [b3 p],by simp [b3 k],?_⟩⟩
    ·by_cases em:j=m
     ·subst em;simp [b3 n] at e;simp [g] at f;rw [<-e,<-f];exact s
     ·simp only [gN em] at e f;exact h.node m gh w e f
    ·rw [q,r];cases (l.pair.step y).2.2<;>rfl
def tE (c:Nat) (s:aE×bJ cv):Nat->Nat->Option (Option (aE×bJ cv))
 | 0,_=>some none
 |q+1,j=>if AJ c j s.1=true then match ic c j s with
  |some a=>some (some a)
  |none=>tE c s q (j+1) else none
theorem B0 {c:Nat} {F K:aE} {t:bJ cv} (h:gH c F K) (f:t.aW=(c:Int)):∀ {q j:Nat} {r:Option (aE×bJ cv)},tE c (K,t) q j=some r->(r=none/\nV c (F,t) q j=none)\/∃ b i cy,r=some (b,i)/\nV c (F,t) q j=some (cy,i)/\gH c cy b/\i.aW=(c:Int)
 | 0,j,r,a=>by cases a;exact .inl ⟨rfl,rfl⟩
 |q+1,j,r,a=>by
  unfold tE at a;unfold nV;split at a
  ·rename_i g;rcases h.fe g with ⟨d,e⟩ | ⟨b,cy,d,e,k⟩
   ·have s1:ic c j (K,t)=none:=by unfold ic;rw [d];rfl
    have s2:ic c j (F,t)=none:=by unfold ic;rw [e];rfl
    rw [s1] at a;rw [s2];exact B0 h f a
   ·have s1:ic c j (K,t)=some (bN b t):=by unfold ic;rw [d];rfl
    have s2:ic c j (F,t)=some (bN cy t):=by unfold ic;rw [e];rfl
    rw [s1] at a;rw [s2];obtain ⟨l,n⟩:=k.bN f;refine .inr ⟨(bN b t).1,(bN b t).2,(bN cy t).1,(me a).symm,?_,n,by rw [A6];exact f⟩;show some (bN cy t)=_;rw [<-l]
  ·cases a
def q9 (c:Nat):Nat->aE×bJ cv->Option (Nat×(aE×bJ cv))
 | 0,_=>none
 |f+1,s=>match tE c s 5 0 with
  |none=>none
  |some none=>some (0,s)
  |some (some a)=>(q9 c f a).map λx=>(x.1+1,x.2)
theorem Dv {c:Nat}:∀ {f:Nat} {F K:aE} {t:bJ cv} {k:Nat} {e:aE×bJ cv},gH c F K->t.aW=(c:Int)->q9 c f (K,t)=some (k,e)->∃ cy,q8 c f (F,t)=some (k,(cy,e.2))/\gH c cy e.1/\e.2.aW=(c:Int)
 | 0,F,K,t,k,e,h,d,a=>by cases a
 |f+1,F,K,t,k,e,h,d,a=>by
  unfold q9 at a;unfold q8;cases i:tE c (K,t) 5 0 with
  |none=>rw [i] at a;cases a
  |some r=>
   rw [i] at a;rcases B0 h d i with ⟨rfl,b⟩ | ⟨n,u,cy,rfl,b,o,g⟩
   ·rw [b];cases a;exact ⟨F,rfl,h,d⟩
   ·rw [b];simp only at a ⊢;cases j:q9 c f (n,u) with
    |none=>rw [j] at a;cases a
    |some x=>rw [j] at a;cases a;obtain ⟨l,p,q,s⟩:=Dv o g (k:=x.1) (e:=x.2) j;exact ⟨l,by rw [p];rfl,q,s⟩
theorem LO (a:kx c (F,t)) (h:gH c F K) {f:Nat} {e:aE×bJ cv} (j:q9 c f (bN K t)=some (k,e)) (sch:a8) (i:k<most):∃ cy,dK F [t] sch [] most=(cy,[(bN e.1 e.2).2])/\gH c cy (bN e.1 e.2).1:=by
 obtain ⟨l,n⟩:=h.bN a.cE;have b:(bN K t).2.aW=(c:Int):=by rw [A6];exact a.cE
 obtain ⟨d,o,p,q⟩:=Dv n b j;have g:bN F t=((bN F t).1,(bN K t).2):=by rw [<-l]
 have aq:=K_ a (f:=f) (k:=k) (e:=(d,e.2)) (by rw [g];exact o) sch i;obtain ⟨kI,fA⟩:=p.bN q;exact ⟨_,by rw [aq];simp only;rw [kI],fA⟩
end
end
section
open gP
def lY:cT:=[96,97,98,99]
def kw (n y:Nat) (b:Bool):a8:=(if b=true then ((fj y).foldl (λw l=>(w.set (l * 8) 512).set (l * 8+1) 1) (fmt 101 n)).set 32 1 else fmt 101 n).set 24 2
def kd (n y:Nat) (b:Bool):aN:=⟨kw n y b,false⟩
def xG (n y:Nat) (b:Bool):aE:={ aE.fresh n 4 101 with nodes:=List.replicate n (kd n y b) }
def Ay (n y:Nat) (b:Bool):c0:=⟨3,1,101,ro n,[],k6 (kd n y b) lY⟩
def xI (n y:Nat) (b:Bool):bJ gP.conv:=qh 3 (Ay n y b)
def A4 (x:Int):Bool:=decide (0<=x) && decide (x<18446744073709551616)
def sy (n y:Nat) (b:Bool):Bool:=
 (kw n y b).length == 808 && ((kd n y b).get 0 == 1 && ((kd n y b).get 1 == 1 && ((List.range 6).all (λc=>(kd n y b).get (24+c) == (if c=0 then 2 else 1) && (kd n y b).get (32+c) == if b=true/\c=0 then 1 else 0) &&
  ((List.range 5).all (λq=>decide ((kd n y b).dx (q+96)=AN (b && (fj y).contains (q+96)) (q+96))) && (Ay n y b).writes.all λp=>A4 p.Head && (hz p).all A4))))
def Ah (bp:List aN):Bool:=match bp with
 | []=>false
 |a::_=>bp.all λz=>!z.down && ((List.range 5).all (λq=>decide (a.dx (q+96)=z.dx (q+96)) && a.get ((q+96) * 8) % 256 == 0) && (List.range 6).all λc=>a.get (32+c) == z.get (32+c) && a.get (24+c) == z.get (24+c))
def xH (n y:Nat) (b:Bool):Bool:=match q9 3 400 (bN (xG n y b) (xI n y b)) with
 |none=>false
 |some (k,e)=>decide (k<5000) && ((bN e.1 e.2).2.out.elim (λo=>o.1 == 0) (λ_=>false) && (Ah (bN e.1 e.2).1.nodes && ((bN e.1 e.2).1.nodes.length == n && (bN e.1 e.2).1.nodes.all λz=>z.words.length == 808)))
def dN (n y:Nat) (b:Bool):Bool:=sy n y b && xH n y b
end
section
set_option maxRecDepth 100000
theorem Qz:dN 1 0 false=true:=by kernel_rfl
theorem QA:dN 1 0 true=true:=by kernel_rfl
theorem QB:dN 1 1 true=true:=by kernel_rfl
theorem QC:dN 1 2 true=true:=by kernel_rfl
theorem QD:dN 1 3 true=true:=by kernel_rfl
theorem P9:dN 1 4 true=true:=by kernel_rfl
theorem P_:dN 1 5 true=true:=by kernel_rfl
theorem P':dN 1 6 true=true:=by kernel_rfl
theorem Qa:dN 1 7 true=true:=by kernel_rfl
theorem Qb:dN 1 8 true=true:=by kernel_rfl
theorem Qc:dN 1 9 true=true:=by kernel_rfl
theorem PE:dN 1 10 true=true:=by kernel_rfl
theorem PF:dN 1 11 true=true:=by kernel_rfl
theorem PG:dN 1 12 true=true:=by kernel_rfl
theorem PH:dN 1 13 true=true:=by kernel_rfl
theorem Sa:(List.range 14).all (λy=>dN 1 y true)=true:=by rw [show List.range 14=[0,1,2,3,4,5,6,7,8,9,10,11,12,13] from rfl];simp only [vv,List.all_nil,Bool.and_self,QA,QB,QC,QD,P9,P_,P',Qa,Qb,Qc,PE,PF,PG,PH]
end
section
set_option maxRecDepth 100000
theorem Qd:dN 2 0 false=true:=by kernel_rfl
theorem Qe:dN 2 0 true=true:=by kernel_rfl
theorem Q4:dN 2 1 true=true:=by kernel_rfl
theorem Q5:dN 2 2 true=true:=by kernel_rfl
theorem Q6:dN 2 3 true=true:=by kernel_rfl
theorem Q7:dN 2 4 true=true:=by kernel_rfl
theorem Q8:dN 2 5 true=true:=by kernel_rfl
theorem Q9:dN 2 6 true=true:=by kernel_rfl
theorem Q_:dN 2 7 true=true:=by kernel_rfl
theorem Q':dN 2 8 true=true:=by kernel_rfl
theorem Ra:dN 2 9 true=true:=by kernel_rfl
theorem PI:dN 2 10 true=true:=by kernel_rfl
theorem PJ:dN 2 11 true=true:=by kernel_rfl
theorem PK:dN 2 12 true=true:=by kernel_rfl
theorem Pl:dN 2 13 true=true:=by kernel_rfl
theorem Sb:(List.range 14).all (λy=>dN 2 y true)=true:=by rw [show List.range 14=[0,1,2,3,4,5,6,7,8,9,10,11,12,13] from rfl];simp only [vv,List.all_nil,Bool.and_self,Qe,Q4,Q5,Q6,Q7,Q8,Q9,Q_,Q',Ra,PI,PJ,PK,Pl]
end
end Go.Proofs.YtmkljjbioomepaaGreat
