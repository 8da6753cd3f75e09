import Derived.Test.YtmkljjbioomepaaGreatd19
import Derived.Test.YtmkljjbioomepaaGreatd15
set_option linter.all false
set_option maxHeartbeats 4000000
set_option maxRecDepth 100000
namespace Go.Proofs.YtmkljjbioomepaaGreat
open Go.Proofs.Tryz Go.bs
variable {A B L:a6} {C:bh} {F:aE} {G:List (List aM)} {K:bF->aF} {T:gn} {X:bR} {b aJ gc i tb:Nat} {c:Int} {ds:List aM} {hb:an} {j:c0} {l:cA} {n:aN} {o:bF} {p:cR} {u bw w z:ak} {v x:aQ} {dz aw:Nat->Tag}
section
def nR:List (List (List aM)->cr)->List (List aM)->cr
 | [],G=>r7 G
 |f::a,G=>tR (f G) (nR a)
def rm (j:c0):List (List (List aM)->cr):=[r8 j,kl j,tP j,n6 j,nD j]
def runM (j:c0) (G:List (List aM)):cr:=nR (rm j) G
def rn (R:cr):Int×Int:=if R.ok=true then (0,3) else R.out
theorem TN:iA prog 172=true:=by kernel_rfl
theorem TO:iA prog 173=true:=by kernel_rfl
theorem TP:iA prog 174=true:=by kernel_rfl
theorem TQ:iA prog 175=true:=by kernel_rfl
theorem TR:iA prog 176=true:=by kernel_rfl
def Ap (aY:Nat):ax:=[.func (.func 172) #[ptr aY] #[],.func (.func 173) #[ptr aY] #[],.func (.func 174) #[ptr aY] #[],.func (.func 175) #[ptr aY] #[],.func (.func 176) #[ptr aY] #[]]
variable {A:a6} {w0 u:ak} {aY tb:Nat} {r:dt} {bS:a0} {j:c0}
theorem OV (b:fa w0 z aY tb r bS j) (aq:o7 j) (c:eP A w0 z tb T G) (a:ga T) (e:i<5) :
  ∃ (f:FuncId) (F:List (List aM)->cr),(Ap aY)[i]?=some (.func (.func f) #[ptr aY] #[])/\(rm j)[i]?=some F/\iA prog f=true/\bb f [ptr aY] z (wd A w0 z tb z.heap.size (F G)):=by
 have d:i=0\/i=1\/i=2\/i=3\/i=4:=by omega
 rcases d with rfl | rfl | rfl | rfl | rfl
 ·exact ⟨_,_,rfl,rfl,TN,OS b aq c a⟩
 ·exact ⟨_,_,rfl,rfl,TO,OU b c a⟩
 ·exact ⟨_,_,rfl,rfl,TP,Nf b c a⟩
 ·exact ⟨_,_,rfl,rfl,TQ,Ng b aq c a⟩
 ·exact ⟨_,_,rfl,rfl,TR,Lk b aq c a⟩
theorem Kk {F:List (List aM)->cr} {l:List (List (List aM)->cr)} (h:l[i]?=some F) (G:List (List aM)):nR (l.drop i) G=tR (F G) (nR (l.drop (i+1))):=by have a:=b3 h;rw [oZ a];rw [bE a] at h;cases h;rfl
theorem C_ (G:List (List aM)):(r7 G).ask=none/\(r7 G).dD=false:=⟨rfl,rfl⟩
theorem DS {j:c0} {a:Int} {ws:a8} {f:Int} (h:(nJ j G a ws f).ok=true):(nJ j G a ws f).ask=none/\(nJ j G a ws f).dD=false:=by
 unfold nJ at h ⊢;split
 ·exact C_ G
 ·rename_i b;rw [if_neg b] at h;exact ⟨(pK h).1,(pK h).2.1⟩
theorem Ll {j:c0} (h:(kl j G).ok=true):(kl j G).ask=none/\(kl j G).dD=false:=by
 unfold kl at h ⊢;split
 ·rename_i a;rw [if_pos a] at h;rw [a] at h;cases h
 ·rename_i a;rw [if_neg a] at h;split
  ·exact ⟨rfl,rfl⟩
  ·rename_i c;rw [if_neg c] at h;split
   ·rename_i b;rw [if_pos b] at h;cases h
   ·rename_i b;rw [if_neg b] at h;exact absurd h b
theorem Lm {j:c0} (h:(n6 j G).ok=true):(n6 j G).ask=none/\(n6 j G).dD=false:=⟨(pK h).1,(pK h).2.1⟩
theorem Nj {j:c0} (h:(nD j G).ok=true):(nD j G).ask=none/\(nD j G).dD=false:=by
 unfold nD at h ⊢;split
 ·exact C_ G
 ·rename_i a;rw [if_neg a] at h;exact ⟨(pK h).1,(pK h).2.1⟩
theorem OW {j:c0} (i:Nat) (F:List (List aM)->cr) (h:(rm j)[i]?=some F) (G:List (List aM)) (a:(F G).ok=true):(F G).ask=none/\(F G).dD=false:=by
 have b:=b3 h;have c:i=0\/i=1\/i=2\/i=3\/i=4:=by unfold rm at b;simp at b <;> omega
 rcases c with rfl | rfl | rfl | rfl | rfl<;>cases h
 ·exact DS a
 ·exact Ll a
 ·exact DS a
 ·exact Lm a
 ·exact Nj a
attribute [local irreducible] iA jk m0
theorem QS (C:fa w0 u aY tb r bS j) (aq:o7 j) (Xv:eP A w0 u tb T G) (O:ga T) :
  bb 126 [ptr aY] u λv bw=>v=bF.val ⟨(rn (runM j G)).1,(rn (runM j G)).2⟩/\gJ A w0 u tb u.heap.size (runM j G) bw:=by
 refine bd Tryz.func126 ?_;rw [ptr,U8];rintro b1 bG M H;obtain ⟨b,D⟩:=bl M H;have b:av bG b1 (bF.cells ⟨0,0⟩) eR:=b;clear H;rintro aB XK N I;obtain ⟨d,E⟩:=bl N I;obtain ⟨lO,d⟩:∃ lO,av XK aB (Ap aY) lO:=⟨_,d⟩;clear I;have g:=D.new E;have s:=ai.aj E b;have XF:=s.lt;have XG:=d.lt;have XJ:=Xv.aj.lt;have Xw:=C.aj.lt;have XI:=D.size;refine c8 mix (λq env z=>∃ (i:Nat) (c:List (List aM)) (Xx:ax),q=5 - i/\i<=5/\env=w8 ⟨b1,0,none⟩ (some ⟨aB,0,none⟩) 5 5 5 i Xx/\fa w0 z aY tb r bS j/\(∃ T,eP A w0 z tb T c/\ga T)/\ao (λk=>k=tb) u z/\av z b1 (bF.cells ⟨0,0⟩) eR/\av z aB (Ap aY) lO/\runM j G=nR ((rm j).drop i) c) 5
  ⟨0,G,_,rfl,by omega,rfl,C.bB g,⟨T,Xv.new g,O⟩,ao.b9 g,s,d,rfl⟩ ?_
 rintro q env z ⟨i,c,Xx,rfl,XQ,rfl,l,⟨Xz,y,w⟩,n,b,d,a⟩;rw [ms];refine bc (λXH=>?_) (λXE=>?_)
 ·obtain ⟨f,F,XD,Z,V,P⟩:=OV l aq y w (i:=i) (by omega);rw [Kk Z] at a;refine ej (by omega) (by omega) ⟨_,d.cell (i:=0+i * 1) (by rw [gM,Nat.mul_one];exact XD),?_⟩;refine q4 V (xs:=#[ptr aY]) (by simp) ?_;refine aD P ?_;rintro v XL ⟨rfl,p⟩;refine bF.aT ⟨(F c).out.1,(F c).out.2⟩ ⟨(F c).ok,rfl,?_⟩;refine ec (vs:=bF.cells ⟨(F c).out.1,(F c).out.2⟩) rfl (bF.single _) λXN XM XC X o=>?_
  have W:=n.size;have U:=b.lt;have h:=(p.after n).new o;have t:av XM b1 (bF.cells ⟨0,0⟩) eR:=ai.aj o (p.aA.aj b (by omega));have J:=ai.aj o (p.aA.aj d (by omega));unfold tR at a;cases K:(F c).ok with
  |false=>
   rw [if_neg (by rw [K];simp)] at a;refine gB rfl ?_;refine bF.aT ⟨(F c).out.1,(F c).out.2⟩ ⟨bO X rfl,?_⟩;refine dQ t rfl (bF.single _) λXR Y S=>?_
   refine bF.aT ⟨(F c).out.1,(F c).out.2⟩ ⟨bO Y rfl,rfl,?_,?_⟩
   ·rw [a];unfold rn;rw [if_neg (by rw [K];simp)]
   ·rw [a];exact h.put (ao.refl _ _) (ao.refl _ _) S (by omega) (by omega) (by omega) (by omega)
  |true=>rw [if_pos K] at a;obtain ⟨XB,hw⟩:=OW i F Z c K;obtain ⟨Xy,L,B⟩:=h.clean XB hw;rw [bH (x:=(i:Int)+1) (by omega) (by omega)];exact ⟨5 - (i+1),by omega,i+1,(F c).a7,_,rfl,by omega,rfl,(l.aA p.aA λk e=>by have XO:=l.kS;have XP:=l.ne;exact ⟨by omega,by omega⟩).bB o,⟨Xy,L,B⟩,h.aA,t,J,a⟩
 ·have Q:i=5:=by omega
  subst Q;rw [S9,a];refine mv b rfl 0 3 λXL R=>⟨rfl,?_⟩
  have XA:gJ A w0 u tb z.heap.size (nR ((rm j).drop 5) c) z:=⟨n,Xz,y,w.dD,w.da⟩;have W:=n.size;have U:=b.lt;exact XA.put (ao.refl _ _) (ao.refl _ _) R (by omega) (by omega) (by omega) (by omega)
end
section
def ed (j:c0) (G:List (List aM)):List aQ×(Int×Int)×Bool:=
 if j.valid≠0 then ([],(j.valid,0),true) else match (runM j G).ask with
 |some vs=>(vs,(0,0),false)
 |none=>if (runM j G).dD=true\/(runM j G).a7≠[] then ([],(6,0),true) else ([],rn (runM j G),true)
theorem DT (au:av w tb T.cells pk):bb 118 [ptr tb] w λx w'=>x=.tuple #[.slice T.aa T.da T.ac,.bool (decide ((T.da:Int)>0))]/\ai w w':=by
 refine bd Tryz.func118 ?_;rw [ptr,VU];rintro w1 b;have a:ai w w1:=by rw [b];exact cK _
 clear b;exact ⟨λy=>ai w1 y,ao.refl _ _,_,_,_,λy c=>(ai.aj (a.new c) au).cell (i:=1) rfl,_,_,_,λy c=>(ai.aj (a.new c) au).cell (i:=1) rfl,rfl,a⟩
theorem DU (au:av w tb T.cells pk):bb 119 [ptr tb] w λx w'=>x=.bool (T.dD || decide ((T.dL:Int)>0))/\ai w w':=by
 refine bd Tryz.func119 ?_;rw [ptr,Vh];refine ⟨T.dD,au.cell (i:=2) rfl,?_⟩;cases T.dD
 ·exact di rfl ⟨_,_,_,au.cell (i:=0) rfl,rfl,ao.refl _ _⟩
 ·exact gB rfl ⟨rfl,ao.refl _ _⟩
def r_ (w:ak) (j:c0) (G:List (List aM)) (v:a4) (u:ak):Prop:=
 ∃ (aa:an) (ac:Nat) (cp:List aG),v=.tuple #[.slice aa cp.length ac,bF.val ⟨(ed j G).2.1.1,(ed j G).2.1.2⟩,.bool (ed j G).2.2]/\ai w u/\bk u aa (dP cp).flatten/\(∀ k,aL aa k->w.heap.size<=k)/\et (λk=>k<w.heap.size) u cp (ed j G).1
theorem r_.nil {o:Int×Int} {b:Bool} (h:ed j G=([],o,b)) (c:ai w u):r_ w j G (.tuple #[.slice none 0 0,bF.val ⟨o.1,o.2⟩,.bool b]) u:=
 ⟨none,0,[],by rw [h];rfl,c,.inl rfl,λk a=>absurd a nO,by rw [h];exact ⟨rfl,λi v x al=>by simp at al⟩⟩
theorem Fi (au:av u b o.cells eR) (l:∀ j,ao (λk=>k=b) u j->K o j) :
  ∀ w1,w1=u.drew->∃ i:aF,i w1/\bF.ex λr=>(∀ y,i y->cf y ⟨b,0,none⟩ 0 r.cells)/\eh w1 ⟨b,0,none⟩ 0 r.cells/\∀ a,a=cu w1 ⟨b,0,none⟩ 0 r.cells->bF.ex λres=>cf a ⟨b,0,none⟩ 0 res.cells/\a=a/\K res a:=by
 rintro w1 d;have c:ai u w1:=by rw [d];exact cK _
 clear d;have f:=ai.aj c au;refine ⟨λy=>ai w1 y,ao.refl _ _,bF.aT o ⟨λy n=>bO (ai.aj n f) rfl,?_⟩⟩;exact dQ f rfl (bF.single _) λa h g=>bF.aT o ⟨bO h rfl,rfl,l a ((ao.b9 c).trans g λ_ _ e=>e)⟩
theorem QT (au:av u b o.cells eR) (c f:Int) (n:∀ d,ao (λk=>k=b) u d->K ⟨c,f⟩ d) :
  eh u ⟨b,0,none⟩ 0 [(.int .i64 c),(.int .i64 f)]/\∀ j,j=cu u ⟨b,0,none⟩ 0 [(.int .i64 c),(.int .i64 f)]->∀ w1,w1=j.drew->∃ l:aF,l w1/\bF.ex λr=>(∀ y,l y->cf y ⟨b,0,none⟩ 0 r.cells)/\eh w1 ⟨b,0,none⟩ 0 r.cells/\∀ a,a=cu w1 ⟨b,0,none⟩ 0 r.cells->bF.ex λres=>cf a ⟨b,0,none⟩ 0 res.cells/\a=a/\K res a:=
 dQ au (vs:=bF.cells ⟨c,f⟩) rfl (bF.single _) λj i g=>Fi i λd h=>n d (g.trans h λ_ _ e=>e)
theorem Nk {r:dt} (XY:p4 w r j) (aq:j.valid=0->o7 j) {dL:Nat} (X9:hS A w hb G) (XX:dL=G.length) (XW:dL<=gc) :
  bb 92 [r.val,.slice hb dL gc] w (r_ w j G):=by
 refine bd Tryz.func92 ?_;rw [Ib];rintro b1 bG XR XE;obtain ⟨l,XC⟩:=bl XR XE;have l:av bG b1 r.cells 39:=l;clear XE;rintro aB Yo XS XF;obtain ⟨t,n⟩:=bl XS XF;have t:av Yo aB (bF.cells ⟨0,0⟩) eR:=t;clear XF;have B:=XC.new n;have Yf:=XC.size;have X':=l.lt;have Ya:=t.lt;refine dt.aT r ⟨bO (ai.aj n l) rfl,?_⟩;refine aD (LF (XY.new B)) ?_;rintro v bq ⟨rfl,p⟩;have C:=B.new p;have J:=ai.aj p t;refine ⟨_,rfl,du (λal=>?_) (λal=>?_)⟩
 ·refine mv J rfl j.valid 0 λYw XZ=>r_.nil (o:=(j.valid,0)) (b:=true) ?_ (C.trans XZ λk c e=>by omega)
  unfold ed;rw [if_pos al]
 have g:=Nc al;have Xw:=aq al;obtain ⟨bS,XA⟩:∃ bS,j.v.mem[0]?=some bS:=⟨_,bE g.mem.1⟩;rintro X1 XG;have q:ai bq X1:=by rw [XG];exact cK _
 clear XG;have D:=C.new q;have I:=ai.aj ((n.new p).new q) l;refine ⟨λy=>ai X1 y,ao.refl _ _,dt.aT r ⟨λy Yn=>bO (ai.aj Yn I) rfl,?_⟩⟩;refine aD (E8 X1 hb dL gc) ?_;rintro v Yp ⟨tb,rfl,Yl,XK,f⟩;refine ⟨_,rfl,f,?_⟩;rintro Z Yq XT XH;obtain ⟨Y,s⟩:=bl XT XH;have Y:av Yq Z (lU r tb ⟨0,0,false⟩) mi:=Y;clear XH;have Yj:=f.size;have X3:=D.size;have Yg:=n.size;have Yh:=p.size;have Yi:=q.size;have Yc:=XK.lt;refine ⟨f.new s,c2.aT r.View ⟨bO (ai.aj (f.new s) I) rfl,?_⟩⟩;obtain ⟨Yt,X⟩:=XY.view;have E:=(D.new f).new s;refine aD (Cl (X.new E) XA) ?_;rintro v u8 ⟨rfl,Q⟩;have XM:=ai.aj Q Y;refine a0.aT bS ⟨true,rfl,gq XM (by simp [lU,a0.cells,dt.cells]) (a0.single _),?_⟩;rintro x W;have XN:av x Z (lU r tb bS) mi:=by rw [W];exact XM.cu (o:=8) (i:=0) (vs:=bS.cells)
 have Xx:ao (λk=>k=Z) u8 x:=by rw [W];exact h7 _ _ _ _ _
 clear W;have F:ai w x:=(E.new Q).trans Xx λk c e=>by omega
 have h:ai Yp x:=(s.new Q).trans Xx λk c e=>by omega
 have XL:av x tb (gn.cells ⟨hb,dL,gc,none,0,0,false⟩) pk:=ai.aj h XK;have XJ:av x aB (bF.cells ⟨0,0⟩) eR:=ai.aj ((q.new f).new h) J;have XU:fa w x Z tb r bS j:=⟨XN,XY,g,XA,F,by omega,by omega,by omega⟩;have X8:eP A w x tb ⟨hb,dL,gc,none,0,0,false⟩ G:=⟨XL,X9,XX,XW⟩;have P:=QS XU Xw X8 ⟨rfl,rfl⟩;refine aD P ?_;rintro v Yr ⟨rfl,V⟩;have Yk:=h.size;have XO:av Yr aB (bF.cells ⟨0,0⟩) eR:=V.aA.aj XJ (by omega);refine bF.aT ⟨(rn (runM j G)).1,(rn (runM j G)).2⟩ ⟨rfl,?_⟩;refine dQ XO rfl (bF.single _) λX4 XP Xy=>?_
 have H:=(V.after (u:=w) (ao.b9 F)).put (B':=x.heap.size) (ao.refl _ _) (ao.refl _ _) Xy (by omega) (by omega) (by omega) (cY _);have R:ai w X4:=(ao.refl _ w).trans H.aA λk c e=>by omega
 have M:av X4 Z (lU r tb bS) mi:=Xy.aj (V.aA.aj XN (by omega)) (by omega);obtain ⟨_,T,N,Xv,O⟩:=H;refine ⟨_,M.cell (i:=7) rfl,?_⟩;refine aD (DT N.aj) ?_;rintro v Yx ⟨rfl,d⟩;have K:=ai.aj d XP;cases a:(runM j G).ask with
 |some vs=>
  rw [a] at O;obtain ⟨Yu,w1,X6,Yv,X2⟩:=O;have XQ:=X2.len;refine ⟨_,_,_,_,rfl,gB (by simp;omega) ?_⟩;refine mv K rfl 0 0 λX5 Xz=>?_
  have X7:bK w1 X5 T.aa T.da T.ac vs:=(X2.new d).aA Xz λk e=>by omega
  obtain ⟨⟨cp,Yd,XI⟩,Yb,XV⟩:=X7;have Ye:=XI.1;have Ym:=X6.size;have XD:ed j G=(vs,(0,0),false):=by unfold ed;rw [if_neg (by simpa using al),a]
  refine ⟨T.aa,T.ac,cp,?_,(R.new d).trans Xz λk c e=>by omega,Yd.rd,λk X_=>by have:=XV k X_;omega,?_⟩
  ·rw [XD,XQ,Ye]
  ·rw [XD];exact XI.aA (ao.refl _ _) λk c e=>.inl (by omega)
 |none=>
  rw [a] at O;refine ⟨_,_,_,_,rfl,di (by simp;omega) ?_⟩;refine ⟨_,(ai.aj d M).cell (i:=7) rfl,?_⟩;refine aD (DU (ai.aj d N.aj)) ?_;rintro v X5 ⟨rfl,S⟩;have L:=ai.aj S K;have z:=N.dL;refine ⟨_,rfl,?_⟩;cases hm:(T.dD || decide ((T.dL:Int)>0)) with
  |true=>
   refine QT L 6 0 λYs U=>r_.nil (o:=(6,0)) (b:=true) ?_ (((R.new d).new S).trans U λk c e=>by omega)
   unfold ed;rw [if_neg (by simpa using al),a];refine if_pos ?_;rw [Xv] at hm;rw [vB] at hm;rcases hm with hm | hm
   ·exact .inl hm
   ·right;intro e;rw [e] at z;simp at hm z;omega
  |false=>
   refine Fi L λYs U=>r_.nil (o:=rn (runM j G)) (b:=true) ?_ (((R.new d).new S).trans U λk c e=>by omega)
   unfold ed;rw [if_neg (by simpa using al),a];refine if_neg ?_;rw [Xv] at hm;obtain ⟨XB,X0⟩:=Bool.or_eq_false_iff.1 hm;rintro (e | e)
   ·rw [e] at XB;cases XB
   ·apply e;apply fF;simp at X0 <;> omega
end
section
def pn (v:aQ):Prop:=1<=v.v.count
theorem pn.pieces {v:aQ} (h:pn v):0<v.v.pieces.length:=by refine vC.2 (Iq _ _ _ h ?_);unfold pn at h;omega
structure fS (p:cR):Prop where
 mX:∀ v ∈ p.a3,pn v
 idle:p.a3=[]->p.bz=0
 zero:p.bz=0->p.words=[]
 hX:p.hX
theorem fS.done {p:cR} (h:fS p):fS p.done:=by
 refine ⟨λv al=>h.mX v (rD al),λ_=>rfl,λ_=>rfl,?_⟩
 intro x xs a;have hm:x ∈ p.a3.tail:=by rw [show p.a3.tail=x::xs from a];exact eO
 exact (h.mX x (rD hm)).pieces
theorem fS.step {p:cR} (h:fS p) (n:aN):fS (p.step n).1:=by
 unfold cR.step;split
 ·exact h
 ·rename_i x xs c;dsimp only;split
  ·exact h.done
  ·split
   ·rename_i a;refine ⟨h.mX,λe=>?_,λe=>by simp at e,?_⟩
    ·rw [c] at e;cases e
    ·intro y ys d;have:x=y:=by have b:p.a3=y::ys:=d;rw [c] at b;exact (List.cons.inj b).1
     subst this;exact a
   ·exact h.done
theorem fS.post (h:fS p) (al:pn v):fS { p with a3:=p.a3++[v] }:=by
 refine ⟨λx a=>?_,λe=>by simp at e,h.zero,?_⟩
 ·rcases iq.1 a with b | b
  ·exact h.mX x b
  ·simp at b;rw [b];exact al
 ·intro x xs a;cases c:p.a3 with
  |nil=>simp [c] at a;rw [<-a.1];show p.bz<_;rw [h.idle c];exact al.pieces
  |cons y ys=>simp [c] at a;rw [<-a.1];exact h.hX y ys c
theorem Cp (p:cR) (n:aN):(p.step n).1.aW=p.aW/\(p.step n).1.inc=p.inc/\(p.step n).1.node=p.node:=by
 unfold cR.step;split
 ·exact ⟨rfl,rfl,rfl⟩
 ·dsimp only;split
  ·exact ⟨rfl,rfl,rfl⟩
  ·split<;>exact ⟨rfl,rfl,rfl⟩
theorem J' (p:cR) (n:aN):((p.step n).2.2=none/\(p.step n).1.a3=p.a3)\/(∃ d,(p.step n).2.2=some d/\(p.step n).1.a3=p.a3.tail/\p.a3≠[]):=by
 unfold cR.step;split
 ·exact .inl ⟨rfl,rfl⟩
 ·rename_i a;dsimp only;split
  ·exact .inr ⟨_,rfl,rfl,by rw [a];simp⟩
  ·split
   ·exact .inl ⟨rfl,rfl⟩
   ·exact .inr ⟨_,rfl,rfl,by rw [a];simp⟩
theorem Ik (h:p.refusal x n=0):n.down=false/\x.v.valid 5 (n.words.length / 8:Nat)=0:=by
 unfold cR.refusal at h;split at h
 ·omega
 ·rename_i aq;split at h
  ·omega
  ·rename_i al;exact ⟨by simpa using aq,by omega⟩
theorem Cq (al:x.v.valid 5 (n.words.length / 8:Nat)=0) {pc:Int×Int} (c:pc ∈ x.v.pieces):(exec x pc n).1.words.length=n.words.length:=by
 obtain ⟨d,a⟩:=x' al;obtain ⟨i1,i2,i3,i4,i5,i6,i7,i8,i9,i10,i11⟩:=i0 a;unfold aG.c9 at i10;have b:=AO _ _ _ (by omega) pc c;unfold exec;split
 ·rfl
 ·split
  ·simp only [aN.write,dy,iG,lH];omega
  ·split
   ·simp only [aN.fx];split<;>simp
   ·split
    ·simp [aN.add]
    ·rfl
theorem Da (h:fS p) (n:aN):(p.step n).2.1.words.length=n.words.length:=by
 unfold cR.step;split
 ·rfl
 ·rename_i x xs b;dsimp only;split
  ·rfl
  ·rename_i c;have al:=(Ik (p:=p) (x:=x) (n:=n) (by omega)).2;have a:=h.hX x xs b;have hm:x.v.pieces.getD p.bz (0,0) ∈ x.v.pieces:=by rw [dq,bE a];exact kY _
   split
   ·exact Cq al hm
   ·exact Cq al hm
theorem yA:∀ {ls:List cA} {j:Nat} {l l':cA},ls[j]?=some l->gz (ls.set j l')+l.pair.a3.length=gz ls+l'.pair.a3.length
 | [],j,l,l',h=>by simp at h
 |a::ls,0,l,l',h=>by simp at h;subst h;simp [gz];omega
 |a::ls,j+1,l,l',h=>by have:=yA (ls:=ls) (j:=j) (l:=l) (l':=l') (by simpa using h);simp [gz] at this ⊢;omega
theorem u7:∀ {ls:List cA},gz ls=0->∀ l ∈ ls,l.pair.a3=[]
 | [],_,l,h=>by simp at h
 |a::ls,b,l,h=>by
  simp [gz] at b;rcases eU.1 h with rfl | h
  ·exact b.1
  ·exact u7 (by simp [gz];exact b.2) l h
structure Good (F:aE):Prop where
 ok:n9 F
 cE:∀ C ∈ F.aR,∀ l ∈ C.az,fS l.pair
 or:∀ p ∈ F.bU,fS p
theorem aE.ox (h:F.cE c=some C):0<=c/\F.aR[c.toNat]?=some C:=by
 unfold aE.cE at h;split at h
 ·cases h
 ·exact ⟨by omega,h⟩
theorem Good.dO (h:Good F) {C':bh} (f:F.aR[i]?=some C) (b:tB F.nodes.length i C') (c:∀ l ∈ C'.az,fS l.pair):Good { F with aR:=F.aR.set i C' }:=by
 refine ⟨⟨h.ok.lines,h.ok.nodes,h.ok.words,by simpa using h.ok.aR,λk D a=>?_,h.ok.eC⟩,λD a=>?_,h.or⟩
 ·simp only [im] at a;split at a
  ·split at a
   ·rename_i e _;cases a;rw [<-e];exact b
   ·cases a
  ·exact h.ok.aW k D a
 ·rcases lK a with d | rfl
  ·exact h.cE D d
  ·exact c
theorem Good.nS (h:Good F) (i:Nat) {n':aN} (b:n'.words.length=F.lines * 8):Good { F with nodes:=F.nodes.set i n' }:=by
 refine ⟨⟨h.ok.lines,by simpa using h.ok.nodes,λn hm=>?_,h.ok.aR,by simpa using h.ok.aW,by simpa using h.ok.eC⟩,h.cE,h.or⟩;rcases lK hm with a | rfl
 ·exact h.ok.words n a
 ·exact b
theorem Good.take {F:aE} (h:Good F) (c:Int):Good (F.take c).2:=by
 unfold aE.take;cases p:F.cE c with
 |none=>exact h
 |some C=>
  obtain ⟨r,d⟩:=aE.ox p;dsimp only;split
  ·exact h
  ·cases s:C.batch with
   |none=>exact h
   |some ds=>
    dsimp only;split
    ·exact h
    ·rename_i hw;have a:=h.ok.aW _ _ d;have q:gz C.az=0:=by have:=a.waiting;omega
     refine h.dO d ⟨a.inc,a.az,λj l i=>?_,a.waiting,?_,λn e=>by cases e⟩ (h.cE C (b5 d))
     ·have b:=a.lane j l i;have f:=u7 q l (b5 i);refine ⟨b.aW,b.inc,b.node,b.bC,λk g=>?_,b.hX⟩;have:=b.bC;rw [f] at this;have:l.bC=[]:=fF this;rw [this] at g;cases g
     ·have:=a.waiting;have o:C.waiting=0:=by omega
      rw [show ({ C with batch:=none }:bh).waiting=C.waiting from rfl,o];exact ⟨vt _,by simp⟩
theorem Mv (h:Good F) (a:(F.take c).1=some ds):ds.length<=1024:=by
 unfold aE.take at a;cases d:F.cE c with
 |none=>rw [d] at a;cases a
 |some C=>
  rw [d] at a;dsimp only at a;obtain ⟨f,e⟩:=aE.ox d;split at a
  ·cases a
  ·cases b:C.batch with
   |none=>rw [b] at a;cases a
   |some es=>
    rw [b] at a;dsimp only at a;split at a
    ·cases a
    ·cases a;have:=(h.ok.aW _ _ e).batch.2;rw [b] at this;exact this
structure oi (n i:Nat) (inc:Int) (k:Nat) (ls:List cA):Prop where
 len:ls.length=n
 lane:∀ (j:Nat) (l:cA),ls[j]?=some l->zD i inc j k l/\fS l.pair
 gz:gz ls=k
def ta (l:cA) (k:Nat) (v:aQ):cA:=⟨{ l.pair with a3:=l.pair.a3++[v] },l.bC++[k]⟩
theorem Ic {k:Nat} (c:C.az[v.node.toNat]?=some l):(C.e5 k v).az=C.az.set v.node.toNat (ta l k v):=by
 show C.az.modify _ _=_;apply jK;intro j;obtain ⟨a,b⟩:=lG.1 c;rw [rA,im];by_cases e:v.node.toNat=j
 ·subst e;simp [a,b,ta]
 ·simp [e]
theorem zk {α:Type} {l:List α} {j:Nat} {x y:α} (a:i<l.length) (h:(l.set i x)[j]?=some y):(i=j/\y=x)\/(i≠j/\l[j]?=some y):=by
 by_cases e:i=j
 ·subst e;rw [g5 a] at h;exact .inl ⟨rfl,(me h).symm⟩
 ·rw [gN e] at h;exact .inr ⟨e,h⟩
theorem oi.post {n i:Nat} {inc:Int} {k:Nat} {C:bh} (h:oi n i inc k C.az) {v:aQ} (p:0<=v.node) (r:v.node<n) (al:pn v):oi n i inc (k+1) (C.e5 k v).az:=by
 have b:v.node.toNat<C.az.length:=by rw [h.len];omega
 have f:C.az[v.node.toNat]?=some C.az[v.node.toNat]:=bE b;rw [Ic f];generalize C.az[v.node.toNat]=cN at f;refine ⟨by simpa using h.len,λj l g=>?_,?_⟩
 ·rcases zk b g with ⟨e,rfl⟩ | ⟨e,g⟩
  ·obtain ⟨a,d⟩:=h.lane _ _ f;refine ⟨⟨a.aW,a.inc,by rw [<-e];exact a.node,by simp [ta,a.bC],λq o=>?_,(d.post al).hX⟩,d.post al⟩;rcases iq.1 o with c | c
   ·have:=a.low q c;omega
   ·simp at c <;> omega
  ·obtain ⟨a,d⟩:=h.lane j l g;exact ⟨⟨a.aW,a.inc,a.node,a.bC,λq o=>by have:=a.low q o;omega,a.hX⟩,d⟩
 ·have:=yA (l':=ta cN k v) f;have s:(ta cN k v).pair.a3.length=cN.pair.a3.length+1:=by simp [ta]
  have c:=h.gz;omega
theorem oi.GJ {n i:Nat} {inc:Int}:∀ (vs:List aQ) (k:Nat) (C:bh),oi n i inc k C.az->(∀ v ∈ vs,0<=v.node/\v.node<n/\pn v)->oi n i inc (k+vs.length) (C.fc k vs).az
 | [],k,C,h,_=>h
 |v::vs,k,C,h,al=>by
  obtain ⟨a,b,c⟩:=al v eO;have:=oi.GJ vs (k+1) (C.e5 k v) (h.post a b c) λx d=>al x (fw _ d)
  rw [bh.fc,hh,Nat.add_comm vs.length 1,<-vn];exact this
theorem AZ:∀ (vs:List aQ) (k:Nat) (C:bh),(C.fc k vs).alive=C.alive/\(C.fc k vs).inc=C.inc
 | [],_,_=>⟨rfl,rfl⟩
 |v::vs,k,C=>by rw [bh.fc];exact AZ vs (k+1) (C.e5 k v)
theorem Hw {nodes lines:Int}:∀ {vs:List aQ},jS nodes lines vs=0->∀ v ∈ vs,v.v.valid nodes lines=0
 | [],_,v,al=>by simp at al
 |x::vs,h,v,al=>by
  unfold jS at h;split at h
  ·rename_i a;exact absurd h a
  ·rename_i a;rcases eU.1 al with rfl | al
   ·omega
   ·exact Hw h v al
theorem Good.post {F:aE} (h:Good F) (c:Int) (vs:List aQ):Good (F.post c vs).2:=by
 unfold aE.post;cases B:F.cE c with
 |none=>exact h
 |some C=>
  obtain ⟨I,k⟩:=aE.ox B;have e:=h.ok.aW _ _ k;dsimp only;split
  ·exact h
  rename_i A;split
  ·exact h
  rename_i u;split
  ·exact h
  rename_i G;split
  ·exact h
  rename_i H;split
  ·exact h
  rename_i n;have g:C.batch=none:=by cases z:C.batch with | none=>rfl | some x=>rw [z] at u;simp at u
  have f:C.alive=true:=by simpa using A
  have s:C.waiting=0:=by have:=e.batch.1;rw [g] at this;simpa using this
  have p:gz C.az=0:=by rw [<-e.waiting];exact s
  have r:∀ v ∈ vs,0<=v.node/\v.node<F.nodes.length/\pn v:=by intro v al;obtain ⟨w,y⟩:=x' (Hw (Decidable.not_not.1 n) v al);obtain ⟨i1,i2,i3,i4,i5,i6,i7⟩:=i0 y;exact ⟨i5,i6,w⟩
  have o:C.az.length=F.nodes.length:=by rw [e.az,f];rfl
  have hinv:oi F.nodes.length c.toNat C.inc 0 C.az:=by refine ⟨o,λj l d=>?_,p⟩;have b:=e.lane j l d;refine ⟨⟨b.aW,b.inc,b.node,b.bC,λq E=>?_,b.hX⟩,h.cE C (b5 k) l (b5 d)⟩;have t:=b.low q E;rw [g] at t;simp at t
  have a:=oi.GJ vs 0 C hinv r;rw [gM] at a;obtain ⟨s1,s2⟩:=AZ vs 0 C;refine h.dO k ⟨?_,?_,λj l d=>?_,?_,?_,?_⟩ λl d=>?_
  ·show 0<=(C.fc 0 vs).inc/\(C.fc 0 vs).inc<=59;rw [s2];exact e.inc
  ·show (C.fc 0 vs).az.length=if (C.fc 0 vs).alive then _ else _;rw [s1,f,a.len];rfl
  ·have:=(a.lane j l d).1;show zD c.toNat (C.fc 0 vs).inc j _ l;rw [s2];simpa [bh.j0] using this
  ·show vs.length=gz (C.fc 0 vs).az;rw [a.gz]
  ·show vs.length<=_/\_;simp [bh.j0];omega
  ·intro ds i;simp [bh.j0] at i;rw [<-i];simp;omega
  ·obtain ⟨j,D⟩:=ei.1 d;exact (a.lane j l D).2
theorem tB.comes {n i:Nat} {C:bh} (b:tB n i C) {j:Nat} {l:cA} (s:C.az[j]?=some l) (nd:aN) (y:fS l.pair):tB n i (C.comes j l (l.pair.step nd).1 (l.pair.step nd).2.2):=by
 have c:=b.lane j l s;have r:=(lG.1 s).1;obtain ⟨s1,s2,u⟩:=Cp l.pair nd;have h:=y.step nd;rcases J' l.pair nd with ⟨t,g⟩ | ⟨d,t,g,w⟩
 ·rw [t];refine ⟨b.inc,?_,λk l' a=>?_,?_,b.batch,b.full⟩
  ·show (C.az.set j _).length=_;rw [o0];exact b.az
  ·rcases zk r a with ⟨e,rfl⟩ | ⟨e,a⟩
   ·exact ⟨s1.trans c.aW,s2.trans c.inc,by rw [<-e];exact u.trans c.node,by show l.bC.length=(l.pair.step nd).1.a3.length;rw [c.bC,g],c.low,h.hX⟩
   ·exact b.lane k l' a
  ·have:=yA (l':={ l with pair:=(l.pair.step nd).1 }) s;show C.waiting=gz (C.az.set j { l with pair:=(l.pair.step nd).1 });have hw:=b.waiting;have x:({ l with pair:=(l.pair.step nd).1 }:cA).pair.a3.length=l.pair.a3.length:=by show (l.pair.step nd).1.a3.length=_;rw [g]
   omega
 ·rw [t];have z:0<l.pair.a3.length:=vC.2 w;have p:((C.comes j l (l.pair.step nd).1 (some d)).batch.getD []).length=(C.batch.getD []).length:=by cases o:C.batch<;>simp [bh.comes,o]
  refine ⟨b.inc,?_,λk l' a=>?_,?_,?_,?_⟩
  ·show (C.az.set j _).length=_;rw [o0];exact b.az
  ·rw [p];rcases zk r a with ⟨e,rfl⟩ | ⟨e,a⟩
   ·refine ⟨s1.trans c.aW,s2.trans c.inc,by rw [<-e];exact u.trans c.node,?_,λq A=>c.low q (rD A),h.hX⟩;show l.bC.tail.length=(l.pair.step nd).1.a3.length;rw [g,o1,o1,c.bC]
   ·exact b.lane k l' a
  ·have:=yA (l':=⟨(l.pair.step nd).1,l.bC.tail⟩) s;show C.waiting - 1=gz (C.az.set j ⟨(l.pair.step nd).1,l.bC.tail⟩);have hw:=b.waiting;have x:(⟨(l.pair.step nd).1,l.bC.tail⟩:cA).pair.a3.length=l.pair.a3.length - 1:=by show (l.pair.step nd).1.a3.length=_;rw [g,o1]
   omega
  ·rw [p];have:=b.batch;show C.waiting - 1<=_/\_;omega
  ·intro ds f;cases o:C.batch with
   |none=>simp [bh.comes,o] at f
   |some es=>simp [bh.comes,o] at f;rw [<-f,o0];exact b.full es o
theorem Ka {j:Nat} {nd:aN} (b:fS l.pair) (c:∀ l ∈ C.az,fS l.pair):∀ l' ∈ (C.comes j l (l.pair.step nd).1 (l.pair.step nd).2.2).az,fS l'.pair:=by
 intro l' a;cases aq:(l.pair.step nd).2.2 with
 |none=>
  rw [aq] at a;rcases lK a with h | rfl
  ·exact c l' h
  ·exact b.step nd
 |some d=>
  rw [aq] at a;rcases lK a with h | rfl
  ·exact c l' h
  ·exact b.step nd
theorem Good.bU {F:aE} (h:Good F) {os:List cR} (b:∀ p ∈ os,(0<=p.node/\p.node<F.nodes.length)/\fS p):Good { F with bU:=os }:=
 ⟨⟨h.ok.lines,h.ok.nodes,h.ok.words,h.ok.aR,h.ok.aW,λp a=>⟨(b p a).1.1,(b p a).1.2,(b p a).2.hX⟩⟩,h.cE,λp a=>(b p a).2⟩
theorem Good.gX (h:Good F):∀ p ∈ F.bU,(0<=p.node/\p.node<F.nodes.length)/\fS p:=λp a=>⟨⟨(h.ok.eC p a).1,(h.ok.eC p a).2.1⟩,h.or p a⟩
theorem Good.drop {F:aE} (h:Good F) (c:Int):Good (F.drop c).2:=by
 unfold aE.drop;split
 ·exact h
 ·exact h.bU λp a=>h.gX p (yQ a)
theorem Good.iX {F:aE} (h:Good F) (i:Nat):Good (F.iX i).2:=by
 unfold aE.iX;split
 ·exact h
 ·rename_i p g;split
  ·exact h
  ·rename_i n f;dsimp only;have hm:=b5 g;have c:=h.or p hm;have hw:=h.ok.words n (b5 f);have d:=h.nS p.node.toNat (n':=(p.step n).2.1) (by rw [Da c];exact hw);have a:=(h.gX p hm).1;have j:=(Cp p n).2.2;refine d.bU (os:=if (p.step n).1.a3.length=0 then F.bU.eraseIdx i else F.bU.set i (p.step n).1) λq b=>?_
   have hlen:(F.nodes.set p.node.toNat (p.step n).2.1).length=F.nodes.length:=by simp
   show (0<=q.node/\q.node<((F.nodes.set p.node.toNat (p.step n).2.1).length:Int))/\_;rw [hlen];split at b
   ·exact h.gX q (yQ b)
   ·rcases lK b with e | rfl
    ·exact h.gX q e
    ·exact ⟨by rw [j];exact a,c.step n⟩
theorem Good.step {F:aE} (h:Good F) (x:fv):Good (F.step x).2:=by
 unfold aE.step;split
 ·exact h.iX _
 split
 ·exact h
 split
 ·exact h
 rename_i C e;obtain ⟨g,a⟩:=aE.ox e;split
 ·exact h
 split
 ·rename_i l n c f;split
  ·exact h
  dsimp only;have hm:=b5 a;have b:=h.cE C hm l (b5 c);have hw:=h.ok.words n (b5 f);have d:=h.nS x.node.toNat (n':=(l.pair.step n).2.1) (by rw [Da b];exact hw);refine d.dO a ?_ (Ka b (h.cE C hm));have:=(h.ok.aW _ _ a).comes c n b;simpa using this
 ·exact h
theorem Good.die {F:aE} (h:Good F) (c:Int):Good (F.die c).2:=by
 unfold aE.die;cases q:F.cE c with
 |none=>exact h
 |some C=>
  obtain ⟨t,b⟩:=aE.ox q;have f:=h.ok.aW _ _ b;dsimp only;split
  ·exact h
  ·have k:=h.dO b (C':={ C with alive:=false,az:=[],batch:=none,waiting:=0 }) ⟨f.inc,rfl,λj l a=>by simp at a,rfl,by simp,λds e=>by cases e⟩ (λl a=>by simp at a);refine k.bU λp s=>?_
   rcases iq.1 s with d | d
   ·exact h.gX p d
   ·obtain ⟨n,u⟩:=tp.1 d;obtain ⟨l,a,rfl⟩:=cZ.1 n;obtain ⟨j,i⟩:=ei.1 a;have o:=f.lane j l i;have r:=(lG.1 i).1;have g:=f.az;refine ⟨?_,h.cE C (b5 b) l a⟩;rw [o.node];split at g
    ·exact ⟨by omega,by show (j:Int)<(F.nodes.length:Int);omega⟩
    ·omega
theorem BP (n i:Nat) (inc:Int) (j:Nat) (l:cA) (h:(jP n i inc)[j]?=some l):l=sL i inc j/\j<n:=by
 unfold jP at h;rw [dS] at h;cases a:(List.range n)[j]? with
 |none=>rw [a] at h;cases h
 |some k=>rw [a] at h;obtain ⟨b,c⟩:=lG.1 a;simp at b c h;subst c;exact ⟨h.symm,b⟩
theorem Kb (n i:Nat) (inc:Int):gz (jP n i inc)=0:=by
 unfold jP gz;rw [rC];induction n with
 |zero=>rfl
 |succ n a=>rw [ku,jn,List.sum_append,a];rfl
theorem Good.fresh {n c lines:Nat} (y:1<=n/\n<=5) (w:1<=c/\c<=6) (b:98<=lines/\lines<=256):Good (aE.fresh n c lines):=by
 have q:∀ (j:Nat) (l:cA) (i:Nat),(jP n i 1)[j]?=some l->fS l.pair:=by intro j l i b;obtain ⟨rfl,_⟩:=BP _ _ _ _ _ b;exact ⟨λv al=>by simp [sL] at al,λ_=>rfl,λ_=>rfl,λx xs e=>by simp [sL] at e⟩
 refine ⟨⟨by simp [aE.fresh];omega,by simp [aE.fresh];omega,λx r=>?_,by simp [aE.fresh];omega,λi C d=>?_,λp g=>by simp [aE.fresh] at g⟩,λC d l b=>?_,λp g=>by simp [aE.fresh] at g⟩
 ·simp [aE.fresh] at r;rw [r.2];show (fmt lines n).length=lines * 8;exact D0 _ _
 ·have a:((List.range c).map (hl n))[i]?=some C:=d;rw [dS] at a;cases h:(List.range c)[i]? with
  |none=>rw [h] at a;cases a
  |some k=>
   rw [h] at a;obtain ⟨s,o⟩:=lG.1 h;simp at s o a;subst o;rw [<-a];refine ⟨by simp [hl],by simp [hl,jP,aE.fresh],λj l b=>?_,?_,by simp [hl],λds e=>by simp [hl] at e⟩
   ·have f:=q j l i b;obtain ⟨rfl,_⟩:=BP _ _ _ _ _ b;exact ⟨rfl,rfl,rfl,rfl,λk u=>by simp [sL] at u,f.hX⟩
   ·show 0=gz (jP n i 1);rw [Kb]
 ·simp [aE.fresh] at d;obtain ⟨i,_,rfl⟩:=d;obtain ⟨j,t⟩:=ei.1 b;exact q j l i t
end
section
structure ft (A:a6) (aw:Nat->Tag) (w:ak) (aJ:Nat) (L:a6) (u:ak) (B:a6) (dz:Nat->Tag) (X:bR):Prop where
 next:Next A B aw dz w u
 ck:b6 (λk=>B k\/L k) dz u aJ X
 loc:∀ k,L k->w.heap.size<=k/\k<u.heap.size/\dz k=.cx
theorem ft.start {c:ak} (h:b6 A aw w aJ X) (d:ai w c) (b:∀ k,L k->w.heap.size<=k/\k<c.heap.size):ft A aw w aJ L c A aw X:=by
 refine ⟨h.refl d,?_,λk a=>⟨(b k a).1,(b k a).2,h.fresh (b k a).1⟩⟩;refine (h.Bb d).mO (λk a=>?_) λk a=>.inl (h.e9 k a)
 rcases a with a | a
 ·exact .inl a
 ·exact .inr (b k a)
theorem ft.op (t:ft A aw w aJ L u B dz X) {K:(a6)->Prop} (p:dR (λk=>B k\/L k) dz u aJ F bw K) :
  ∃ B' g h,ft A aw w aJ L bw B' g h/\h.pure=F/\K (λk=>B' k\/L k)/\ao (λk=>B k\/L k) u bw/\(∀ k,k<u.heap.size->B' k\/L k->B k\/L k)/\(∀ k,L k->bw.heap[k]?=u.heap[k]?):=by
 obtain ⟨A',g,h,n,o,r,q⟩:=p;have i:A'=λk=>gC A aw g w k\/L k:=by
  funext k;apply propext;rw [n.iff k];constructor
  ·rintro (b | ⟨b,c | c,d⟩)
   ·exact .inl (.inl b)
   ·rcases (t.next.iff k).1 c with f | f
    ·exact absurd d f
    ·exact .inl (.inr f)
   ·exact .inr c
  ·rintro ((b | ⟨b,c,d⟩) | b)
   ·exact .inl b
   ·refine .inr ⟨gi b t.next.aA.size,.inl ((t.next.iff k).2 (.inr ⟨b,c,d⟩)),?_⟩;by_cases a:dz k=.cx
    ·exact a
    ·exact absurd d (t.next.grow k b a)
   ·obtain ⟨_,c,d⟩:=t.loc k b;exact .inr ⟨c,.inr b,d⟩
 have l:ao (λk=>B k\/L k) u bw:=n.aA.mono λk _ a=>t.ck.e9 k a
 refine ⟨gC A aw g w,g,h,⟨⟨t.next.aA.trans n.aA λk e a=>t.next.grow k e a,λk e a=>t.next.grow k e (n.grow k (gi e t.next.aA.size) a),λk=>Iff.rfl⟩,i▸o,λk e=>?_⟩,r,i▸q,l,λk e a=>?_,λk e=>?_⟩
 ·obtain ⟨b,c,d⟩:=t.loc k e;refine ⟨b,gi c n.aA.size,?_⟩;by_cases a:g k=.cx
  ·exact a
  ·exact absurd d (n.grow k c a)
 ·have j:A' k:=by rw [i];exact a
  rcases (n.iff k).1 j with f | f
  ·exact t.ck.e9 k (n.grow k e f)
  ·exact f.2.1
 ·obtain ⟨_,c,d⟩:=t.loc k e;exact n.aA.block k c λa=>a d
theorem ft.local (t:ft A aw w aJ L u B dz X) {S:a6} (c:ao S u bw) (b:∀ k,S k->L k):ft A aw w aJ L bw B dz X:=by refine ⟨⟨t.next.aA.trans c λk e a=>?_,t.next.grow,t.next.iff⟩,t.ck.other c λk a=>⟨.inr (b k a),(t.loc k (b k a)).2.2⟩,λk d=>⟨(t.loc k d).1,gi (t.loc k d).2.1 c.size,(t.loc k d).2.2⟩⟩;have:=(t.loc k (b k a)).1;omega
theorem ft.new (t:ft A aw w aJ L u B dz X) (a:ai u bw):ft A aw w aJ L bw B dz X:=
 t.local a λ_ h=>h.elim
theorem ft.done (t:ft A aw w aJ L u B dz X) {K:(a6)->Prop} (b:K B):dR A aw w aJ X.pure u K:=
 ⟨B,dz,X,t.next,t.ck.mO (λk a=>.inl a) (λk a=>(t.next.iff k).2 (.inl a)),rfl,b⟩
theorem gA.aA {A':a6} {a:an} {xs:ax} (e:bk w a xs) (b:xs=[]\/gA A a) (d:∀ k,k<w.heap.size->A' k->A k):xs=[]\/gA A' a:=by
 rcases b with b | b
 ·exact .inl b
 ·by_cases c:xs=[]
  ·exact .inl c
  ·refine .inr ?_;cases a with
   |none=>trivial
   |some a=>intro hm;exact b (d _ (e.lt c) hm)
theorem hS.aA {A A':a6} {w w':ak} {a:an} {G:List (List aM)} (h:hS A w a G) (c:ao A w w') (b:∀ k,k<w.heap.size->A' k->A k):hS A' w' a G:=by obtain ⟨rows,p,g,f,aq⟩:=h;refine ⟨rows,p,g.aA c f,gA.aA g f b,λi r ds n o=>?_⟩;obtain ⟨d,e,j,l⟩:=aq i r ds n o;exact ⟨d.aA c e,gA.aA d e b,j.aA c b,l⟩
abbrev pj:TypeId:=42
abbrev z6:TypeId:=100
theorem IF (rows:List Row):∀ u ∈ kT rows,single u=true:=by intro u hu;simp only [kT,cZ] at hu;obtain ⟨r,_,rfl⟩:=hu;rfl
theorem Mw (XK:hS B z hb G) (XO:G.length<=1000000) {raw:List bT} {c:Nat} (O:av z b (fW raw).flatten jd) (Xw:g6 B z raw ds) (Xz:¬ B b) (Xv:ds.length<=1024) (R:∀ k,B k->k<z.heap.size) {n:Nat} (XL:n=raw.length)
  {K:Nat->an->Nat->Nat->aF} (p:∀ u ap cap XD,z.heap.size<=u->hS B XD ap (G++[ds])->G.length+1<=cap->ai z XD->K u ap (G.length+1) cap XD) :
  ∃ (ap:an) (j g:Nat),∃ XC,(Builtin.append_ #[pj,pj] pj #[(.slice none 0 0),(.slice hb G.length gc)]).run prog z=.ok (.slice ap j g) XC/\∀ u W,u=XC.heap.size->W=XC.alloc (.cells #[.slice (some ⟨b,0,none⟩) n c] z6)->
   ∃ (l:an) (d a:Nat),∃ X,(Builtin.append_ #[pj,pj] pj #[(.slice ap j g),(.slice (some ⟨u,0,none⟩) 1 1)]).run prog W=.ok (.slice l d a) X/\K u l d a X:=by
 obtain ⟨inf,XF,au,q,Z⟩:=fV (T:=z6) (z:=.slice none 0 0) (n:=1) (m:=24) (by kernel_rfl);obtain ⟨rows,F,XM,J,aq⟩:=XK;have XA:a1 z z6 inf.size none 0 0 []:=a1.nil _ _ _;have XB:(kT rows).length=G.length:=by simp [kT,F]
 obtain ⟨ap,dr,XG,V,A,Xy,Y⟩:=a1.append (P:=prog) (t:=pj) (ty:=pj) Tryz.underlying42 XF au (by rw [q];rfl) (by omega) XA (s:=hb) (m:=G.length) (c:=gc) (news:=kT rows) (by rw [q,XB];omega) XM (IF rows) (by omega) (by rw [Z];omega);have S:ai z XG:=Xy.mono λk _ O=>by obtain ⟨o,J⟩:=O;cases J
 have x:∀ k,aL ap k->z.heap.size<=k:=λk p=>by
  rcases Y with e | e
  ·rw [e] at p;obtain ⟨o,J⟩:=p;cases J
  ·rw [e] at p;obtain ⟨o,J⟩:=p;simp at J <;> omega
 refine ⟨ap,0+G.length,dr,XG,V,?_⟩;rw [gM,m2] at A;rw [gM];refine oI Tryz.underlying42 XF au (by rw [q];rfl) (by omega) A (vs:=[.slice (some ⟨b,0,none⟩) n c]) (by rw [q];rfl) (by intro v al;simp at al;subst al;rfl) (by omega) (by omega) ?_;intro u l L I XJ y Q N;have f:ai z I:=sF S Q x;have XN:=S.size;refine p u l L I (by omega) ?_ y.le f;have D:∀ k,aL l k->z.heap.size<=k:=λk p=>by
  rcases N k p with M | M
  ·exact x k M
  ·omega
 have H:kT rows++[.slice (some ⟨b,0,none⟩) n c]=kT (rows++[⟨some ⟨b,0,none⟩,c,raw⟩]):=by simp [kT,XL]
 have U:bk I l (kT (rows++[⟨some ⟨b,0,none⟩,c,raw⟩])):=by rw [<-H];exact y.rd
 refine ⟨rows++[⟨some ⟨b,0,none⟩,c,raw⟩],by simp [F],U,hk U λk p O=>?_,λi r es w C=>?_⟩
 ·have M:=D k p;have XE:=R k O;omega
 ·rw [qb] at w C;rw [F] at w;split at w
  ·rename_i E;rw [if_pos E] at C;obtain ⟨M,XE,XH,XI⟩:=aq i r es w C;exact ⟨M.new f,XE,XH.aA (ao.b9 f) (λ_ _ h=>h),XI⟩
  ·rename_i E;rw [if_neg E] at C;have Xx:i - G.length=0:=by have:=(lG.1 w).1;simp at this <;> omega
   rw [Xx] at w C;simp at w C;subst w C;refine ⟨fu (ai.aj f O) (by rw [vx];exact h1 (cY _)),.inr Xz,Xw.aA (ao.b9 f) (λ_ _ h=>h),Xv⟩
end
end Go.Proofs.YtmkljjbioomepaaGreat
