import Derived.Test.YtmkljjbioomepaaGreata33
import Derived.Test.YtmkljjbioomepaaGreata21
import Derived.Test.YtmkljjbioomepaaGreata23
set_option linter.all false
set_option maxHeartbeats 4000000
set_option maxRecDepth 100000
namespace Go.Proofs.YtmkljjbioomepaaGreat
open Go.Proofs.Tryz Go.b8
variable {A:cd} {D:List a_} {G:List (List a_)} {bj:List bR} {a4:bR} {f:List (List a_)->dM×f7} {i m:Nat} {j:c8} {l hL:List a6} {p:a6} {hY sp:eI} {s:Int} {u w:av} {vs:List bn} {x:bt}
section
def wE (j:c8):bp:=j.v.mem.getD 0 qD
def jK (j:c8) (G:List (List a_)):List bn×f7×Bool:=
 if j.valid≠0 then ([],⟨j.valid,0,0,0,0⟩,true) else match (n0 j (wE j) G).1.ask with
 |some vs=>(vs,⟨0,0,0,0,0⟩,false)
 |none=>if (n0 j (wE j) G).1.gb=true\/(n0 j (wE j) G).1.bD≠[] then ([],⟨6,0,0,0,0⟩,true) else ([],(n0 j (wE j) G).2,true)
def y4 (w:av) (j:c8) (G:List (List a_)) (v:bx) (u:av):Prop:=
 ∃ (aa:ax) (ac:Nat) (dD:List a0),v=.tuple #[.slice aa dD.length ac,(jK j G).2.1.val,.bool (jK j G).2.2]/\ai w u/\bW u aa (gG dD).flatten/\(∀ k,a7 aa k->w.heap.size<=k)/\hp (λk=>k<w.heap.size) u dD (jK j G).1
theorem y4.nil {o:f7} {b:Bool} (h:jK j G=([],o,b)) (aj:ai w u):y4 w j G (.tuple #[.slice none 0 0,o.val,.bool b]) u:=
 ⟨none,0,[],by rw [h];rfl,aj,.inl rfl,λk J=>absurd J yP,by rw [h];exact ⟨rfl,λi v x aw=>by simp at aw⟩⟩
theorem Qh {b:Nat} {cs:aH} (aE:aF u b cs Bk) (au:cs.length=5) (o:f7) {K:f7->aV} (J:∀ c6,ay (λk=>k=b) u c6->K o c6) :
  ha u ⟨b,0,none⟩ 0 o.cells/\∀ aS,aS=dO u ⟨b,0,none⟩ 0 o.cells->f7.ex λres=>df aS ⟨b,0,none⟩ 0 res.cells/\aS=aS/\K res aS:=
 gL aE (vs:=o.cells) (by rw [au];rfl) (f7.single _) λaS bP eN=>f7.bd o ⟨cD bP rfl,rfl,J aS eN⟩
theorem al3 {A:bB} {r:fT} (c_:Fu w r j) {lv:ax} {gB gc:Nat} (a':nh A w lv G) (jm:gB=G.length) (od:gB<=gc) :
  bK 93 [r.val,.slice lv gB gc] w (y4 w j G):=by
 refine bO Tryz.func93 ?_;rw [aB0];rintro b1 ct bA gx;obtain ⟨bm,a1⟩:=b4 bA gx;have bm:aF ct b1 r.cells 41:=bm;clear gx;rintro aP cS cv ki;obtain ⟨bP,a5⟩:=b4 cv ki;have bP:aF cS aP (f7.cells ⟨0,0,0,0,0⟩) Bk:=bP;clear ki;have ja:=a1.new a5;have fI:=a1.size;have g3:=bm.lt;have nM:=bP.lt;refine fT.bd r ⟨cD (ai.an a5 bm) rfl,?_⟩;refine aR (aiQ (c_.new ja)) ?_;rintro v b2 ⟨rfl,bf⟩;have vZ:=ja.new bf;have K4:=ai.an bf bP;refine ⟨_,rfl,fX (λaw=>?_) (λaw=>?_)⟩
 ·refine Qh K4 rfl ⟨j.valid,0,0,0,0⟩ (K:=λres bZ=>y4 w j G (.tuple #[.slice none 0 0,res.val,.bool true]) bZ) λc6 dv=>y4.nil ?_ (vZ.trans dv λk aK e=>by omega)
  unfold jK;rw [if_pos aw]
 have tk:=akk aw (c_.prev▸c_.u64);obtain ⟨cI,lx⟩:∃ cI,j.v.mem[0]?=some cI:=⟨_,cp tk.mem.1⟩;have pT:wE j=cI:=by unfold wE;rw [gd,lx];rfl
 rintro ff sr;have bH:ai b2 ff:=by rw [sr];exact eh _
 clear sr;have uQ:=vZ.new bH;have om:=ai.an ((a5.new bf).new bH) bm;refine ⟨λy=>ai ff y,ay.refl _ _,fT.bd r ⟨λy az=>cD (ai.an az om) rfl,?_⟩⟩;refine aR (ZT ff lv gB gc) ?_;rintro v jP ⟨tb,rfl,Ag,e4,cg⟩;refine ⟨_,rfl,cg,?_⟩;rintro bT mU ej ri;obtain ⟨fQ,dg⟩:=b4 ej ri;have fQ:aF mU bT (Cy r tb ⟨0,0,false⟩ 0 ⟨none,0,0,0⟩ (0,0)) zD:=fQ;clear ri;have yB:=cg.size;have adk:=uQ.size;have jc:=a5.size;have j2:=bf.size;have nQ:=bH.size;have arV:=e4.lt;refine ⟨cg.new dg,e3.bd r.View ⟨cD (ai.an (cg.new dg) om) rfl,?_⟩⟩;obtain ⟨zw,kX⟩:=c_.view;have Ks:=(uQ.new cg).new dg;refine aR (XU (kX.new Ks) lx) ?_;rintro v u8 ⟨rfl,eT⟩;have gN:=ai.an eT fQ;refine bp.bd cI ⟨true,rfl,kA gN (by simp [Cy,bp.cells,fT.cells]) (bp.single _),?_⟩;rintro iy tz;have kI:aF iy bT (Cy r tb cI 0 ⟨none,0,0,0⟩ (0,0)) zD:=by rw [tz];exact gN.dO (o:=9) (i:=0) (vs:=cI.cells)
 have fK:ay (λk=>k=bT) u8 iy:=by rw [tz];exact nI _ _ _ _ _
 clear tz;have OT:ai w iy:=(Ks.new eT).trans fK λk aK e=>by omega
 have GZ:ai jP iy:=(dg.new eT).trans fK λk aK e=>by omega
 have K3:aF iy b1 r.cells 41:=ai.an (cg.new GZ) om;refine ⟨_,K3.cell (i:=1) rfl,_,K3.cell (i:=0) rfl,?_⟩;refine aR (MV iy r.n5 r.Client) ?_;rintro v hZ ⟨rfl,rfl⟩;refine ⟨_,_,rfl,⟨_,kI.cell (i:=12) rfl⟩,kI.frozen,?_⟩;rintro vd G9;have tn:ay (λk=>k=bT) hZ vd:=by rw [G9];exact iu _ _ _ _
 have Ps:aF vd bT (Cy r tb cI (k4 j.inc j.bw) ⟨none,0,0,0⟩ (0,0)) zD:=by rw [G9,<-c_.inc,<-c_.bw];exact kI.setCell (i:=12) _
 clear G9;have acH:ai w vd:=OT.trans tn λk aK e=>by omega
 have Uf:ai jP vd:=GZ.trans tn λk aK e=>by omega
 have at9:aF vd tb (kb.cells ⟨lv,gB,gc,none,0,0,false⟩) Bm:=ai.an Uf e4;have atZ:aF vd aP (f7.cells ⟨0,0,0,0,0⟩) Bk:=ai.an ((bH.new cg).new Uf) K4;have gu:fy w vd bT tb r cI j ⟨none,0,0,0⟩ (0,0):=⟨Ps,c_,tk,lx,acH,by omega,by omega,by omega⟩;have bq:h2 A w vd tb ⟨lv,gB,gc,none,0,0,false⟩ G:=⟨at9,a',jm,od⟩;refine aR (al2 gu bq ⟨rfl,rfl⟩) ?_;rintro v ve ⟨rfl,qx⟩;have aEn:=Uf.size;have Vg:aF ve aP (f7.cells ⟨0,0,0,0,0⟩) Bk:=qx.aO.an atZ (by omega);have Ed:ai w ve:=acH.trans qx.aO λk aK e=>by omega
 obtain ⟨iK,Vh⟩:=qx.an;obtain ⟨T,BB,GA,BC⟩:=qx.j9;rw [<-pT] at BB GA BC Vh;have rf:∀ (X:Prop),X->X:=λ_ h=>h
 refine ⟨rfl,_,Vh.cell (i:=8) rfl,?_⟩;refine aR (Y9 BB.an) ?_;rintro v ayT ⟨rfl,tu⟩;have K7:=ai.an tu Vg;have adS:=ai.an tu Vh;have acI:=Ed.new tu;cases jZ:(n0 j (wE j) G).1.ask with
 |some vs=>
  rw [jZ] at BC;obtain ⟨aN,w1,af,al,aL⟩:=BC;have r_:=aL.len;refine ⟨_,_,_,_,rfl,g8 (by simp;omega) ?_⟩;refine Qh K7 rfl ⟨0,0,0,0,0⟩ (K:=λres bZ=>y4 w j G (.tuple #[.slice T.aa T.fi T.ac,res.val,.bool false]) bZ) λHW D8=>?_
  have ca:cy w1 HW T.aa T.fi T.ac vs:=(aL.new tu).aO D8 λk e=>by omega
  obtain ⟨⟨dD,aq,KV⟩,OO,nK⟩:=ca;have aA:=KV.1;have br:=af.size;have hS:jK j G=(vs,⟨0,0,0,0,0⟩,false):=by unfold jK;rw [if_neg (by simpa using aw),jZ]
  refine ⟨T.aa,T.ac,dD,?_,acI.trans D8 λk aK e=>by omega,aq.rd,λk J=>by have:=nK k J;omega,?_⟩
  ·rw [hS,r_,aA]
  ·rw [hS];exact KV.aO (ay.refl _ _) λk aK e=>.inl (by omega)
 |none=>
  rw [jZ] at BC;refine ⟨_,_,_,_,rfl,eX (by simp;omega) ?_⟩;refine ⟨_,adS.cell (i:=8) rfl,?_⟩;refine aR (Y_ (ai.an tu BB.an)) ?_;rintro v HW ⟨rfl,Ee⟩;have K8:=ai.an Ee K7;have at1:=ai.an Ee adS;have acJ:=acI.new Ee;have J4:=BB.gB;refine ⟨_,rfl,?_⟩;cases hm:(T.gb || decide ((T.gB:Int)>0)) with
  |true=>
   refine Qh K8 rfl ⟨6,0,0,0,0⟩ (K:=λres bZ=>y4 w j G (.tuple #[.slice none 0 0,res.val,.bool true]) bZ) λVX T3=>y4.nil ?_ (acJ.trans T3 λk aK e=>by omega)
   unfold jK;rw [if_neg (by simpa using aw),jZ];refine if_pos ?_;rw [GA] at hm;rw [Ml] at hm;rcases hm with hm | hm
   ·exact .inl hm
   ·right;intro e;rw [e] at J4;simp at hm J4;omega
  |false=>
   rintro w7 Ha;have Ud:ai HW w7:=by rw [Ha];exact eh _
   clear Ha;have at2:=ai.an Ud at1;refine ⟨λy=>ai w7 y,ay.refl _ _,f7.bd (n0 j (wE j) G).2 ⟨λy az=>cD (ai.an az at2) rfl,?_⟩⟩;refine Qh (ai.an Ud K8) rfl (n0 j (wE j) G).2 (K:=λres bZ=>y4 w j G (.tuple #[.slice none 0 0,res.val,.bool true]) bZ) λVX T3=>y4.nil ?_ ((acJ.new Ud).trans T3 λk aK e=>by omega)
   unfold jK;rw [if_neg (by simpa using aw),jZ];refine if_neg ?_;rw [GA] at hm;obtain ⟨z8,z9⟩:=Bool.or_eq_false_iff.1 hm;rintro (e | e)
   ·rw [e] at z8;cases z8
   ·apply e;apply jR;simp at z9 <;> omega
end
section
open iH
theorem aaw {f:a6->bR} (aJ:∀ p,(f p).length=9):∀ {W:List a6} {i:Nat} {p:a6},W[i]?=some p->∀ c,c<9->((W.map f).flatten)[9 * i+c]?=(f p)[c]?
 | [],i,p,h,c,ab=>by simp at h
 |q::W,0,p,h,c,ab=>by simp at h;subst h;rw [kQ,l7,nA (by rw [aJ];omega)];congr 1;omega
 |q::W,i+1,p,h,c,ab=>by rw [kQ,l7,nB (by rw [aJ];omega),aJ,show 9 * (i+1)+c - 9=9 * i+c by omega];exact aaw aJ (by simpa using h) c ab
theorem al4 {W:List a6} (h:W[i]?=some p) {c:Nat} (ab:c<9):(je s W).getD (2+9 * i+c) 0=(p.b5::p.Head::mZ p).getD c 0:=by have aK:=dy h;have au:=Rj s W;unfold je;simp only [gd];rw [nA (by omega)];have:=aaw (f:=λp=>p.b5::p.Head::mZ p) (λ_=>rfl) h c ab;unfold yS;rw [show 2+9 * i+c=(9 * i+c)+1+1 by omega,zg,zg,this]
theorem an' {W:List a6} (h:W[i]?=some p) (ak:∀ k,k<(je s W).length->a4.getD k 0=(je s W).getD k 0) (au:p.b5<=256):Ar a4 i=p:=by
 have aK:=dy h;have mg:=Cm s W;have g:∀ c,c<9->((a4.drop (2+9 * i)).take 9).getD c 0=(p.b5::p.Head::mZ p).getD c 0:=λc ab=>by rw [<-al4 (s:=s) h ab,<-ak _ (by omega)];simp only [gd];rw [Ig ab,uf]
 unfold Ar ET;rw [g 0 (by omega),g 1 (by omega),g 2 (by omega),g 3 (by omega),g 4 (by omega),g 5 (by omega),g 6 (by omega),g 7 (by omega),g 8 (by omega)];show (⟨if 256<p.b5 then 256 else p.b5,_,_,_,_,_,_,_,_⟩:a6)=p;rw [if_neg (by omega)];rfl
theorem akZ {W:List a6} {lines:Int} (aw:jD s W lines=0) (au:a4.length=112) (ak:∀ k,k<(je s W).length->a4.getD k 0=(je s W).getD k 0):hf a4 lines=0/\hv a4 lines=(s,W):=by
 obtain ⟨af,⟨s1,s2,u4,j8⟩,ar,_⟩:=pM aw;have mg:=Cm s W;have iN:a4.getD 0 0=s:=ak 0 (by omega);have bY:a4.getD 1 0=W.length:=ak 1 (by omega);have aa9:(a4.getD 1 0).toNat=W.length:=by rw [bY];rfl
 have dH:mG a4 W.length=W:=by
  apply rL;intro i;unfold mG;rw [gV];by_cases aD:i<W.length
  ·rw [rM aD,cp aD];have:=ar _ (qS aD);simp only [xM];rw [an' (cp aD) ak (by omega)]
  ·rw [ug (by simpa using aD),ug (by omega)];rfl
 have qz:je s W=a4.take (3+9 * W.length):=by
  apply rL;intro i;by_cases aD:i<3+9 * W.length
  ·have:=ak i (by omega);simp only [gd] at this;rw [Ig aD,cp (by omega),cp (by omega)];rw [cp (by omega),cp (by omega)] at this;simpa using this.symm
  ·rw [ug (by omega),ug (by simp;omega)]
 have aI:hf a4 lines=0:=by unfold hf;rw [if_neg (by omega),if_neg (by rw [iN,bY];omega),if_neg (by rw [bY];omega),aa9,iN,dH,if_neg (by rw [aw];simp),if_neg (by simpa using qz)]
 refine ⟨aI,?_⟩;unfold hv;rw [if_pos aI,aa9,iN,dH]
theorem YB (h:1<=s/\s<1073741824):j7 s=4 * s+2:=by
 obtain ⟨n,rfl⟩:∃ n:Nat,s=n:=⟨s.toNat,by omega⟩;have bY:n8 .u64 (n:Int) 2=((n * 4:Nat):Int):=by show IntKind.u64.wrap ((n:Int) * 2 ^ 2)=_;have:(2:Int) ^ 2=4:=rfl;rw [this,qJ (by omega) (by omega)];omega
 unfold j7;rw [bY,show (2:Int)=((2:Nat):Int) from rfl,L6 _ _ (by omega) (by omega)];have dF:=MQ n 2 2 (by omega);have kB:(2:Nat) ^ 2=4:=rfl;rw [kB] at dF;rw [dF];omega
theorem Re (h:1<=s/\s<1073741824):j7 s≠0:=by rw [YB h];omega
theorem ak0 (h:1<=s/\s<1073741824):n2 (j7 s)=(s,true):=by
 obtain ⟨_,e⟩:=Si (Rx s);have bg:fr .u64 (j7 s) 2=s:=by rw [e,YB h];omega
 unfold n2;rw [bg,if_pos ⟨h.1,h.2,rfl⟩]
theorem ak1:n2 0=(0,false):=by
 obtain ⟨_,e⟩:=Si mw;have bg:fr .u64 0 2=0:=by rw [e];rfl
 unfold n2;rw [bg,if_neg (by omega)]
structure xX (E:Env) (A:cd) (m:Nat) (L:bR):Prop where
 len:L.length=120
 eo:L.getD 0 0=if A.eo m=true then n3 E else 0
 hF:A.hF m=true->∀ k,k<(lK E).length->L.getD (8+k) 0=(lK E).getD k 0
def Lf (x:bt):bR:=(x.words.drop 48).take 120
theorem ZV (h:i<120):(Lf x).getD i 0=x.get (48+i):=by unfold Lf bt.get;simp only [gd];rw [Ig h,uf]
theorem Mem.jw {E:Env} (aI:di E) (h:Mem E A m x):xX E A m (Lf x):=by have ak:=aI.wA;have au:=aI.ux;have ao:=h.ba.len;refine ⟨by unfold Lf;simp;omega,by rw [ZV (by omega)];exact h.eo,λak k J=>?_⟩;rw [ZV (by omega),<-h.hF ak k J];congr 1;omega
section
variable {E:Env} {A:cd} {m:Nat} {L:bR}
theorem xX.whole (aI:di E) (h:xX E A m L) (ak:A.hF m=true):jY L E.L=true/\eS L E.L=(fl E,cA E):=by
 have au:(L.drop 8).length=112:=by rw [vq,h.len]
 obtain ⟨af,al⟩:=akZ aI.fg au λk J=>by rw [<-h.hF ak k J];simp only [gd];rw [uf]
 have hy:jY L E.L=true:=by unfold jY;rw [af,h.len];rfl
 refine ⟨hy,?_⟩;unfold eS;rw [if_pos hy];exact al
theorem xX.comm (aI:di E) (h:xX E A m L) (ak:A.hF m=true):kK L E.L=A.eo m/\(A.eo m=true->jf L E.L=(fl E,cA E)):=by
 obtain ⟨af,al⟩:=h.whole aI ak;have ab:kK L E.L=A.eo m:=by
  unfold kK;rw [af,al,h.eo,Mn];cases A.eo m
  ·exact beq_eq_false_iff_ne.2 (Re aI.seq)
  ·exact beq_iff_eq.2 rfl
 refine ⟨ab,λe=>?_⟩
 unfold jf;rw [ab,if_pos e];exact al
theorem xX.none (h:xX E A m L) (ak:A.eo m=false):kK L E.L=false:=by
 cases ab:kK L E.L with
 |false=>rfl
 |true=>exfalso;obtain ⟨af,_⟩:=W4 ab;have aX:=XF af;unfold kK at ab;rw [af,Mn] at ab;have:=beq_iff_eq.1 ab;rw [h.eo,ak] at this;exact Re aX this
theorem xX.holds (aI:di E) (h:xX E A m L) (ak:A.hF m=true) (c_:j.lines=E.L):Fv j (fl E) (cA E) L=A.eo m:=by
 obtain ⟨af,al⟩:=h.comm aI ak;unfold Fv;rw [c_,af];cases hm:A.eo m with
 |false=>rfl
 |true=>rw [al hm];unfold M_;simp
end
structure Bg (E:Env) (A:cd) (bj:List bR):Prop where
 len:bj.length=E.n
 at_:∀ (m:Nat) (L:bR),bj[m]?=some L->xX E A m L
section
variable {E:Env} {A:cd} {bj:List bR}
theorem al5 (h:Bg E A bj) (aj:ku E A):g9 E.L bj=((0,[]),false):=by
 have key:∀ (l:List bR),(∀ L ∈ l,kK L E.L=false)->∀ b,l.foldl (wB E.L) b=b:=by
  intro l;induction l with
  |nil=>intro _ b;rfl
  |cons L l c5=>intro au b;rw [Mh];have:wB E.L b L=b:=if_neg (λe=>by rw [au L iA] at e;cases e.1);rw [this];exact c5 (λzr bE=>au zr (jz _ bE)) b
 refine key bj (λL bE=>?_) _;obtain ⟨i,aD⟩:=hn.1 bE;exact (h.at_ i L aD).none (aj i (by have:=dy aD;rw [h.len] at this;exact this))
theorem ak2 (aI:di E) (h:Bg E A bj) (ak:n6 E A) (hm:∃ m,m<E.n/\A.eo m=true):g9 E.L bj=((fl E,cA E),true):=by
 have aX:=aI.seq;have key:∀ (l:List bR),(∀ L ∈ l,kK L E.L=true->jf L E.L=(fl E,cA E))->∀ b,(b=((0,[]),false)\/b=((fl E,cA E),true))->(l.foldl (wB E.L) b=((fl E,cA E),true)\/l.foldl (wB E.L) b=((0,[]),false)/\b=((0,[]),false)/\∀ L ∈ l,kK L E.L=false):=by
  intro l;induction l with
  |nil=>intro _ b ak;rcases ak with e | e;exact .inr ⟨e,e,λL bE=>by cases bE⟩;exact .inl e
  |cons L l c5=>
   intro au b ak;rw [Mh];have hl:=λzr bE=>au zr (jz _ bE)
   unfold wB at c5 ⊢;by_cases ab:kK L E.L=true
   ·have aA:=au L iA ab;have cq:(if kK L E.L=true/\(jf L E.L).1>b.1.1 then (jf L E.L,true) else b)=((fl E,cA E),true):=by
     rcases ak with e | e
     ·rw [if_pos ⟨ab,by rw [aA,e];show fl E>0;omega⟩,aA]
     ·rw [if_neg (λg=>by have:=g.2;rw [aA,e] at this;exact absurd this (by show ¬ fl E>fl E;omega)),e]
    rw [cq];rcases c5 hl _ (.inr rfl) with g | ⟨_,g,_⟩
    ·exact .inl g
    ·exact absurd (congrArg Prod.snd g) (by simp)
   ·have ab:kK L E.L=false:=by simpa using ab
    rw [if_neg (λg=>by rw [ab] at g;cases g.1)];rcases c5 hl b ak with g | ⟨bs,bI,dd⟩
    ·exact .inl g
    ·exact .inr ⟨bs,bI,λzr bE=>by rcases iF.1 bE with e | e;rw [e];exact ab;exact dd zr e⟩
 obtain ⟨m,uO,hm⟩:=hm;obtain ⟨L,bE⟩:∃ L,bj[m]?=some L:=⟨_,cp (by rw [h.len];exact uO)⟩;have au:∀ L ∈ bj,kK L E.L=true->jf L E.L=(fl E,cA E):=λL bE ab=>by obtain ⟨i,aD⟩:=hn.1 bE;have si:=dy aD;rw [h.len] at si;obtain ⟨bs,bI⟩:=(h.at_ i L aD).comm aI (ak i si);exact bI (by rw [<-bs];exact ab)
 rcases key bj au ((0,[]),false) (.inl rfl) with g | ⟨_,_,g⟩
 ·exact g
 ·have:=g L (dn bE);rw [((h.at_ m L bE).comm aI (ak m uO)).1,hm] at this;cases this
theorem aoa (aI:di E) (h:Bg E A bj) (ak:n6 E A) {et:Int} (ab:et=fl E\/et=E.iZ 0):qt E.L et bj=fl E+1:=by
 have aX:=aI.seq;have aDF:=aI.iZ;have aj:=aI.e.n;have key:∀ (l:List bR),(∀ L ∈ l,(L.getD 0 0=n3 E\/L.getD 0 0=0)/\jY L E.L=true/\eS L E.L=(fl E,cA E))->∀ g:Int,0<=g/\g<=fl E->l.foldl (m' E.L) g=if l=[] then g else fl E:=by
  intro l;induction l with
  |nil=>intro _ g _;rfl
  |cons L l c5=>
   intro au g a';obtain ⟨af,al,aL⟩:=au L iA;rw [Mh];have cq:m' E.L g L=fl E:=by
    unfold m';have yr:(if (n2 (L.getD 0 0)).2=true then wF g (n2 (L.getD 0 0)).1 else g)<=fl E:=by
     rcases af with e | e
     ·rw [e,ak0 aX,if_pos rfl];unfold wF;simp only;split<;>omega
     ·rw [e,ak1,if_neg (by simp)];exact a'.2
    simp only;generalize (if (n2 (L.getD 0 0)).2=true then wF g (n2 (L.getD 0 0)).1 else g)=y at yr ⊢;rw [if_pos al,aL];unfold wF;simp only;split<;>omega
   rw [cq,c5 (λzr bE=>au zr (jz _ bE)) _ (by omega),if_neg (List.cons_ne_nil L l)];split<;>rfl
 unfold qt;have GO:pd et=et:=by unfold pd;rw [if_neg (by omega)]
 rw [GO,key bj (λL bE=>?_) et (by omega),if_neg (λe=>by have:=h.len;rw [e] at this;simp at this <;> omega)];obtain ⟨i,aD⟩:=hn.1 bE;have si:=dy aD;rw [h.len] at si;have bE:=h.at_ i L aD;refine ⟨?_,bE.whole aI (ak i si)⟩;rw [bE.eo];split
 ·exact .inl rfl
 ·exact .inr rfl
end
end
section
open iH
def dU (E:Env) (c:Nat):c8:=⟨(c:Int),1,(E.L:Int),rD E.n,0,2,0⟩
def lf (c:Nat):Int:=256+((c:Int)+1)
section
variable {E:Env} {c:Nat}
theorem MO (ab:c<6):kp 1 c=0/\k4 1 c=lf c:=by have h:kp 1 c=0:=ZB rfl (by omega);exact ⟨h,by rw [Rn h];rfl⟩
theorem FF:(dU E c).v.mem=(List.range E.n).map bV:=rfl
theorem al6 {n:Nat} (h:1<=n/\n<=5):(rD n).valid 5=0:=by
 obtain rfl | rfl | rfl | rfl | rfl:n=1\/n=2\/n=3\/n=4\/n=5:=by omega
 all_goals kernel_rfl
theorem Yc (aI:di E) (ab:1<=c/\c<6):(dU E c).valid=0:=by
 have bE:=aI.e.L;have af:kp (dU E c).inc (dU E c).bw=0:=(MO ab.2).1;have aL:(dU E c).v.valid 5=0:=al6 aI.e.n;unfold c8.valid;rw [af,aL];show (if (0:Int)≠0 then (0:Int) else if (0:Int)<0\/6<=(0:Int) then 1 else if (0:Int)≠0 then 0 else (dU E c).tail)=0;rw [if_neg (by omega),if_neg (by omega),if_neg (by omega)];unfold c8.tail;have bY:¬ ((dU E c).lines<98\/256<(dU E c).lines):=by show ¬ ((E.L:Int)<98\/256<(E.L:Int));omega
 have bg:¬ ((dU E c).dead=(dU E c).bw/\(dU E c).gP≠(dU E c).inc):=by show ¬ ((0:Int)=(c:Int)/\_);omega
 have dF:¬ ((dU E c).dead≠(dU E c).bw/\((dU E c).gP<2\/60<(dU E c).gP\/Int.tmod (dU E c).gP 2≠0)):=by have al:Int.tmod (dU E c).gP 2=0:=rfl;have aL:(dU E c).gP=2:=rfl;omega
 rw [if_neg bY,if_neg bg,if_neg dF];exact if_neg λh=>h.1 rfl
theorem aax (aj:1<=E.n):wE (dU E c)=bV 0:=by unfold wE;rw [FF];obtain ⟨k,J⟩:∃ k,E.n=k+1:=⟨E.n - 1,by omega⟩;rw [J,H'];rfl
theorem aay (hm:m<E.n):(dU E c).v.mem.getD m qD=bV m:=by rw [FF,gd,gV,rM hm];rfl
theorem VR (m:Nat) (a o w:Int):F8 (dU E c) (bV m) a o w=kc m a o w:=rfl
theorem Rf:eB (dU E c)=[⟨0,2,true⟩]:=by unfold eB;rw [if_neg (λh=>by have:wV (0:Int)=false:=rfl;have af:wV 0=true:=h.1;rw [this] at af;cases af)];rfl
theorem Yd {α β:Type} {f:α->β}:∀ (l:List α),(l.map λx=>[f x]).flatten=l.map f
 | []=>rfl
 |a::l=>by rw [kQ,l7,Yd l];rfl
def oH (n:Nat):List bn:=(List.range n).map λm=>eL m 24 1
def my (hY:eI):List bn:=hY.map λm=>kc m 24 1 2
def lT (c:Nat):List bn:=[kc 0 49 0 (lf c)]
def lB (n:Nat):List bn:=((List.range n).map λm=>[eL m 24 1,eL m 48 120]).flatten++[eL 0 32 1]
def lg (E:Env) (sp:eI):List bn:=(sp.map λm=>[dV m 48 [0],dV m 56 (lK E),dV m 48 [n3 E]]).flatten
def lD (W:List a6):List bn:=W.map λp=>eL 0 (p.b5 * 8) 1
def jV (E:Env) (l:List a6):List bn:=((List.range (E.n - 1)).map λm=>l.map (jO (m+1))++[dV (m+1) 32 [fl E]]).flatten
def kn (E:Env) (l:List a6):List bn:=dV 0 32 [fl E]::l.map (jO 0)
def ox (hL:List a6):List bn:=hL.map λp=>kc 0 (p.b5 * 8) (ii p.Head 0) p.Head
def lq (c:Nat):List bn:=[kc 0 49 (lf c) 0]
theorem XI:mM (dU E c)=oH E.n:=by unfold mM oH;rw [Rf,FF,FE];exact Yd (List.range E.n) (f:=λm=>eL m 24 1)
theorem ZW (i:Nat):kC (dU E c) i=⟨0,2,true⟩:=by unfold kC;rw [Rf];show ([⟨0,2,true⟩]:List fq).getD (i % 1) Cn=_;rw [Nat.mod_one];rfl
theorem anX (h:i<E.n):yM (dU E c) i=bV i:=by unfold yM;rw [Rf];show (dU E c).v.mem.getD (i / 1) qD=_;rw [Nat.div_one];exact aay h
def sL (n:Nat) (ds:List a_):eI:=(List.range n).filter λi=>fY ds i == 1
theorem Ye {ds:List a_} (h:∀ i,i<E.n->fY ds i=1\/fY ds i=2):∀ {k:Nat},k<=E.n->nT (dU E c) ds k=(sL k ds).map λm=>(kc m 24 1 2,(⟨0,2,true⟩:fq))
 | 0,_=>rfl
 |k+1,J=>by
  rw [V0,Ye h (by omega)];unfold sL H2 Iy;rw [rK,WT,pB,ZW,anX (by omega),VR];congr 1;rcases h k (by omega) with e | e
  ·rw [if_pos (show fY ds k<2 by omega)];simp [e]
  ·rw [if_neg (show ¬ fY ds k<2 by omega)];simp [e]
def d3 (hY:eI) (X:List (List a_)):dM:=wd (hY.map λm=>(kc m 24 1 2,(⟨0,2,true⟩:fq))) (cE X (my hY))
def tL (X:List (List a_)):dM:=⟨true,[],(0,0),X,none,false⟩
def Kp (E:Env) (c:Nat) (G:List (List a_)) (f:List (List a_)->dM×f7):Prop:=∀ X,n0 (dU E c) (bV 0) (G++X)=f X
theorem Kp.next {oI:List (List a_)->dM×f7} (h:Kp E c G f) (aJ:∀ X,f (D::X)=oI X):Kp E c (G++[D]) oI:=λX=>by rw [ue];exact (h ([D]++X)).trans (aJ X)
theorem Kp.ask (aI:di E) (ab:1<=c/\c<6) (h:Kp E c G f) (bc:(f []).1.ask=some vs):jK (dU E c) G=(vs,⟨0,0,0,0,0⟩,false):=by have:=h [];rw [qd] at this;unfold jK;rw [if_neg (by rw [Yc aI ab];simp),aax aI.e.n.1,this,bc]
theorem Kp.out (aI:di E) (ab:1<=c/\c<6) (h:Kp E c G f) (af:(f []).1.ask=none) (al:(f []).1.gb=false) (aL:(f []).1.bD=[]):jK (dU E c) G=([],(f []).2,true):=by have:=h [];rw [qd] at this;unfold jK;rw [if_neg (by rw [Yc aI ab];simp),aax aI.e.n.1,this,af];simp only;rw [if_neg (by rw [al,aL];simp)]
theorem y5 (h:vs≠[]):cE [] vs=⟨false,[],(0,0),[],some vs,false⟩:=V4 h 0
theorem wJ (h:vs≠[]) (aJ:Fit vs D) (X:List (List a_)):cE (D::X) vs=⟨true,D,(0,0),X,none,false⟩:=Wu X h aJ 0
theorem IB (X:List (List a_)):cE X []=tL X:=Xz X 0
def DK (E:Env) (c:Nat):List (List a_)->dM×f7:=n0 (dU E c) (bV 0)
def tc (E:Env) (c:Nat) (X:List (List a_)):dM×f7:=HJ (dU E c) (bV 0) (nS (dU E c) (bV 0) X)
def vL (E:Env) (c:Nat) (hY:eI) (X:List (List a_)):dM×f7:=if (d3 hY X).ok=false then (d3 hY X,oW (d3 hY X).out) else tc E c (d3 hY X).bD
def zM (E:Env) (c:Nat) (X:List (List a_)):dM×f7:=HJ (dU E c) (bV 0) (tL X)
def jF (E:Env) (c:Nat) (bj:List bR) (et:Int) (fh:Int×Int) (S:dM):dM×f7:=E1 (dU E c) (bV 0) bj et (fh,S)
theorem auX:Kp E c [] (DK E c):=λX=>rfl
theorem R' (aj:1<=E.n):oH E.n≠[]:=by unfold oH;intro e;have:=congrArg List.length e;simp at this <;> omega
theorem anY (aj:1<=E.n):(DK E c []).1.ask=some (oH E.n):=by unfold DK n0 mN Iz;rw [XI,y5 (R' aj)];rfl
theorem al7 (aj:1<=E.n) (aJ:Fit (oH E.n) D) (hw:∀ i,i<E.n->fY D i=1\/fY D i=2) (X:List (List a_)):DK E c (D::X)=vL E c (sL E.n D) X:=by
 have au:D.length=E.n:=by rw [aJ.len];unfold oH;simp
 have ak:(List.range D.length).any (qb (dU E c) D)=false:=by rw [Q6];intro i aD;have:=hw i (by have:=jT.1 aD;omega);unfold qb;rw [ZW];simp;show fY D i<=2;omega
 have aC:mN (dU E c) (D::X)=d3 (sL E.n D) X:=by unfold mN;rw [XI,wJ (R' aj) aJ];unfold Iz;simp only;rw [if_neg (by simp),if_neg (by rw [ak];simp),au,Ye hw (eJ _)];unfold d3 my;rw [FE];rfl
 unfold DK n0 vL tc;rw [aC]
theorem ank (X:List (List a_)):d3 [] X=tL X:=by unfold d3 wd;rw [show my []=[] from rfl,IB];rfl
theorem anl (X:List (List a_)):vL E c [] X=tc E c X:=by unfold vL;rw [ank];exact if_neg (by simp [tL])
theorem anm (h:hY≠[]):(vL E c hY []).1.ask=some (my hY):=by
 have aE:my hY≠[]:=by unfold my;simpa using h
 unfold vL d3 wd;rw [y5 aE];rfl
theorem al8 (h:hY≠[]) (aJ:Fit (my hY) D) (hw:∀ i,i<hY.length->fY D i=1\/fY D i=2) (X:List (List a_)):vL E c hY (D::X)=tc E c X:=by
 have aE:my hY≠[]:=by unfold my;simpa using h
 have au:D.length=hY.length:=by rw [aJ.len];unfold my;simp
 have aC:d3 hY (D::X)=tL X:=by
  unfold d3 wd;rw [wJ aE aJ];simp only;have ak:(List.range D.length).any (x7 (hY.map λm=>(kc m 24 1 2,(⟨0,2,true⟩:fq))) D)=false:=by rw [Q6];intro i aD;have aD:=jT.1 aD;have hw:=hw i (by omega);obtain ⟨m,hm⟩:∃ m,hY[i]?=some m:=⟨_,cp (by omega)⟩;unfold x7 vE;rw [gd,gV,hm];show ¬ ((decide (fY D i≠1) && (decide (fY D i≠2) && (true || decide (fY D i<2))))=true);rcases hw with e | e<;>simp [e]
  rw [if_neg (by simp),if_neg (by rw [ak];simp)];rfl
 unfold vL;rw [aC];exact if_neg (by simp [tL])
theorem WY (ab:c<6):[pZ (dU E c) (bV 0)]=lT c:=by unfold pZ lT;rw [VR];show [kc 0 49 0 (k4 1 c)]=_;rw [(MO ab).2]
theorem ann (ab:c<6):(tc E c []).1.ask=some (lT c):=by unfold tc nS;rw [WY ab,y5 (by simp [lT])];rfl
theorem al9 (ab:c<6) (aJ:Fit (lT c) D) (aN:xK D=0) (X:List (List a_)):tc E c (D::X)=zM E c X:=by unfold tc nS zM;rw [WY ab,wJ (by simp [lT]) aJ,if_neg (by simp)];simp only;rw [aN,if_neg (λh=>h.1 rfl)];rfl
theorem al_ (ab:c<6) (aJ:Fit (lT c) D) (aN:xK D≠0) (af:xK D≠lf c) (X:List (List a_)):tc E c (D::X)=(⟨false,[],(3,xK D),X,none,false⟩,⟨3,0,0,0,xK D⟩):=by unfold tc nS;rw [WY ab,wJ (by simp [lT]) aJ,if_neg (by simp)];simp only;rw [if_pos ⟨aN,by show xK D≠k4 1 c;rw [(MO ab).2];exact af⟩];rfl
theorem XJ:jE (dU E c) (bV 0)=lB E.n:=by unfold jE lB;rw [FF,FE];rfl
theorem Sa (n:Nat):lB n≠[]:=by unfold lB;simp
theorem ano:(zM E c []).1.ask=some (lB E.n):=by unfold zM HJ jJ F9 tL;rw [XJ,y5 (Sa _)];rfl
def xR (n:Nat) (D:List a_):List bR:=(List.range n).map λi=>(D.getD (2 * i+1) ⟨0,[]⟩).words
theorem ama (aJ:Fit (lB E.n) D) (aC:∀ i,i<E.n->fY D (2 * i)=2) (X:List (List a_)):zM E c (D::X)=jF E c (xR E.n D) (fY D (2 * E.n)) (m3 (dU E c) (bV 0) (xR E.n D) X).1 (m3 (dU E c) (bV 0) (xR E.n D) X).2:=by
 have tq:(dU E c).v.mem.length=E.n:=by rw [FF];simp
 have cq:cE (D::X) (jE (dU E c) (bV 0))=⟨true,D,(0,0),X,none,false⟩:=by rw [XJ];exact wJ (Sa _) aJ X
 have yq:wH (dU E c) D E.n=true:=by unfold wH;rw [lM];intro i aD;exact beq_iff_eq.2 (aC i (jT.1 aD))
 have kg:jJ (dU E c) (bV 0) (D::X)=tL X:=by unfold jJ F9;rw [cq,if_neg (by simp)];simp only;rw [tq,if_pos yq];rfl
 have bY:rE (dU E c) (bV 0) (D::X)=xR E.n D:=by unfold rE FI;rw [cq,tq];rfl
 have bg:xP (dU E c) (bV 0) (D::X)=fY D (2 * E.n):=by unfold xP H8;rw [cq,tq]
 unfold zM HJ;rw [if_neg (by simp [tL])];show (if (jJ (dU E c) (bV 0) (D::X)).ok=false then _ else E1 _ _ (rE (dU E c) (bV 0) (D::X)) (xP (dU E c) (bV 0) (D::X)) (m3 _ _ (rE (dU E c) (bV 0) (D::X)) (jJ (dU E c) (bV 0) (D::X)).bD))=_;rw [kg,bY,bg,if_neg (by simp [tL])];rfl
end
end
section
open iH
section
variable {E:Env} {c:Nat}
def vO (E:Env) (l:List a6) (X:List (List a_)):dM:=cE X (kn E l)
def q2 (E:Env) (l:List a6) (X:List (List a_)):dM:=if (cE X (jV E l)).ok=false then cE X (jV E l) else vO E l (cE X (jV E l)).bD
def nX (E:Env) (D:List a_):List a6:=k1 (dU E 0) (cA E) D (cA E).length
def r4 (E:Env) (X:List (List a_)):dM:=
 if (cE X (lD (cA E))).ok=false then cE X (lD (cA E)) else if (nX E (cE X (lD (cA E))).done).length=0 then cE X (lD (cA E)) else q2 E (nX E (cE X (lD (cA E))).done) (cE X (lD (cA E))).bD
def r5 (E:Env) (sp:eI) (X:List (List a_)):dM:=if (cE X (lg E sp)).ok=false then cE X (lg E sp) else r4 E (cE X (lg E sp)).bD
def yd (hL:List a6) (X:List (List a_)):dM:=cE X (ox hL)
def qI (E:Env) (A:cd):eI:=(List.range E.n).filter λm=>!A.eo m
theorem amb (aj:1<=E.n):(dU E c).v.mem.tail=(List.range (E.n - 1)).map λm=>bV (m+1):=by
 rw [FF];cases J:E.n with
 |zero=>omega
 |succ k=>rw [H'];simp
theorem ak5 (aj:1<=E.n) (l:List a6):IA (dU E c) (fl E) l=jV E l:=by unfold IA jV;rw [amb aj,FE];rfl
theorem amc (l:List a6):M8 (dU E c) (bV 0) (fl E) l=kn E l:=rfl
theorem amd (X:List (List a_)):jv (dU E c) (bV 0) (cA E) X=cE X (lD (cA E)):=rfl
theorem XK (aI:di E) {A:cd} {bj:List bR} (h:Bg E A bj) (ak:n6 E A):∀ k,k<=E.n->yX (dU E c) (fl E) (cA E) bj k=lg E ((List.range k).filter λm=>!A.eo m)
 | 0,_=>rfl
 |k+1,J=>by
  rw [XH,XK aI h ak k (by omega)];obtain ⟨L,bE⟩:∃ L,bj[k]?=some L:=⟨_,cp (by rw [h.len];omega)⟩;have ed:=(h.at_ k L bE).holds aI (ak k (by omega)) (j:=dU E c) rfl;unfold Ql lg;rw [gd,bE,Option.getD_some,ed,aay (by omega),rK,WT,pB,WU];congr 1;cases hm:A.eo k with
  |true=>simp [hm]
  |false=>simp [hm];rfl
theorem ame (aj:1<=E.n) (X:List (List a_)):Bx (dU E c) (bV 0) (fl E) (cA E) (jv (dU E c) (bV 0) (cA E) X)=r4 E X:=by
 unfold Bx r4 q2 vO DL;rw [amd];have gw:∀ D:List a_,D.length=(cA E).length->k1 (dU E c) (cA E) D D.length=nX E D:=λD fs=>by unfold nX;rw [fs];rfl
 by_cases J:(cE X (lD (cA E))).ok=true
 ·have au:=In J;have af:¬ (cE X (lD (cA E))).ok=false:=by rw [J];simp
  rw [if_neg af,if_neg af,gw _ (by rw [au];unfold lD;simp),ak5 aj,amc]
 ·rw [if_pos (by simpa using J),if_pos (by simpa using J)]
theorem ajO (aI:di E) (h:Bg E A bj) (ak:n6 E A) (X:List (List a_)):CH (dU E c) (bV 0) (fl E) (cA E) bj X=r5 E (qI E A) X:=by
 unfold CH r5 ms;have tq:(dU E c).v.mem.length=E.n:=by rw [FF];simp
 rw [tq,XK aI h ak _ (eJ _)];show (if (cE X (lg E (qI E A))).ok=false then cE X (lg E (qI E A)) else Bx _ _ _ _ (jv _ _ _ (cE X (lg E (qI E A))).bD))=_;rw [ame aI.e.n.1]
theorem ak6 (aI:di E) (h:Bg E A bj) (ak:n6 E A) (hm:∃ m,m<E.n/\A.eo m=true) (X:List (List a_)):m3 (dU E c) (bV 0) bj X=((2,fl E),r5 E (qI E A) X):=by have DW:g9 (dU E c).lines bj=((fl E,cA E),true):=ak2 aI h ak hm;unfold m3;rw [DW,if_pos rfl];exact congrArg _ (ajO aI h ak X)
theorem ak7 (aI:di E) (h:Bg E A bj) (aj:ku E A):∃ fh hL,(∀ X,m3 (dU E c) (bV 0) bj X=(fh,yd hL X))/\fh.1≠2/\(n6 E A->hL=cA E/\fh=(3,fl E))/\hL.length<=12/\∀ p ∈ hL,96<=p.b5/\p.b5<E.L:=by
 have DW:g9 (dU E c).lines bj=((0,[]),false):=al5 h aj;have rb:=aI.e.n;obtain ⟨L,bE⟩:∃ L,bj[0]?=some L:=⟨_,cp (by rw [h.len];omega)⟩;have iN:bj.getD 0 []=L:=by rw [gd,bE];rfl
 have hw:n6 E A->jY L E.L=true/\eS L E.L=(fl E,cA E):=λak=>(h.at_ 0 L bE).whole aI (ak 0 (by omega))
 cases hy:jY L E.L with
 |true=>
  refine ⟨(3,(eS L E.L).1),(eS L E.L).2,λX=>?_,by simp,λak=>by rw [(hw ak).2];exact ⟨rfl,rfl⟩,?_⟩
  ·unfold m3;rw [DW,if_neg (by simp),iN,if_pos (show jY L (dU E c).lines=true from hy)];rfl
  ·have J:=hy;unfold jY at J;simp only [iz,decide_eq_true_eq,beq_iff_eq] at J;have al:=J.2;have cC:eS L E.L=((L.drop 8).getD 0 0,mG (L.drop 8) ((L.drop 8).getD 1 0).toNat):=by unfold eS hv;rw [if_pos hy,if_pos al]
   unfold hf at al;split at al
   ·omega
   split at al
   ·omega
   split at al
   ·omega
   split at al
   ·omega
   rename_i aL;obtain ⟨_,a,b,_⟩:=pM (by omega:jD ((L.drop 8).getD 0 0) (mG (L.drop 8) ((L.drop 8).getD 1 0).toNat) E.L=0);rw [cC];exact ⟨a.2.2.2,b⟩
 |false=>refine ⟨(1,0),[],λX=>?_,by simp,λak=>(by rw [(hw ak).1] at hy;cases hy),by simp,λp ar=>by cases ar⟩;unfold m3;rw [DW,if_neg (by simp),iN,if_neg (show ¬ jY L (dU E c).lines=true by show ¬ jY L E.L=true;rw [hy];simp)];unfold yd ox;rw [Mm,IB];rfl
def Hq (D:List a_) (X:List (List a_)):dM:=⟨true,D,(0,0),X,none,false⟩
def Br (vs:List bn):dM:=⟨false,[],(0,0),[],some vs,false⟩
theorem Sb (h:sp≠[]):lg E sp≠[]:=by
 cases sp with
 |nil=>exact absurd rfl h
 |cons a l=>simp [lg]
theorem Sc (aI:di E):lD (cA E)≠[]:=by unfold lD;have:=aI.cH.some_;simpa using this
theorem Nf (aj:1<E.n) (l:List a6):jV E l≠[]:=by obtain ⟨k,J⟩:∃ k,E.n - 1=k+1:=⟨E.n - 2,by omega⟩;unfold jV;rw [J,H'];simp
theorem R2 (aj:E.n=1) (l:List a6):jV E l=[]:=by unfold jV;rw [aj];rfl
theorem anp (X:List (List a_)):r5 E [] X=r4 E X:=by unfold r5;rw [show lg E []=[] from rfl,IB];exact if_neg (by simp [tL])
theorem anq (h:sp≠[]):r5 E sp []=Br (lg E sp):=by unfold r5;rw [y5 (Sb h)];rfl
theorem amf (h:sp≠[]) (aJ:Fit (lg E sp) D) (X:List (List a_)):r5 E sp (D::X)=r4 E X:=by unfold r5;rw [wJ (Sb h) aJ];exact if_neg (by simp)
theorem anr (aI:di E):r4 E []=Br (lD (cA E)):=by unfold r4;rw [y5 (Sc aI)];rfl
theorem amg (aI:di E) (aJ:Fit (lD (cA E)) D) (X:List (List a_)):r4 E (D::X)=if nX E D=[] then Hq D X else q2 E (nX E D) X:=by
 unfold r4;rw [wJ (Sc aI) aJ,if_neg (by simp)];simp only;by_cases h:nX E D=[]
 ·rw [if_pos (by rw [h];rfl),if_pos h];rfl
 ·rw [if_neg (λe=>h (zh.1 e)),if_neg h]
theorem ans (aj:E.n=1) (l:List a6) (X:List (List a_)):q2 E l X=vO E l X:=by unfold q2;rw [R2 aj,IB];exact if_neg (by simp [tL])
theorem ant (aj:1<E.n) (l:List a6):q2 E l []=Br (jV E l):=by unfold q2;rw [y5 (Nf aj l)];rfl
theorem amh (aj:1<E.n) (aJ:Fit (jV E l) D) (X:List (List a_)):q2 E l (D::X)=vO E l X:=by unfold q2;rw [wJ (Nf aj l) aJ];exact if_neg (by simp)
theorem anu (l:List a6):vO E l []=Br (kn E l):=y5 (by simp [kn])
theorem ami (aJ:Fit (kn E l) D) (X:List (List a_)):vO E l (D::X)=Hq D X:=wJ (by simp [kn]) aJ X
theorem anv (X:List (List a_)):yd [] X=tL X:=IB X
theorem anw (h:hL≠[]):yd hL []=Br (ox hL):=y5 (by unfold ox;simpa using h)
theorem alT (h:hL≠[]) (aJ:Fit (ox hL) D) (X:List (List a_)):yd hL (D::X)=Hq D X:=wJ (by unfold ox;simpa using h) aJ X
def x' (E:Env) (c:Nat) (bj:List bR) (et:Int) (fh:Int×Int) (X:List (List a_)):dM×f7:=
 if (cE X (lq c)).ok=false then (cE X (lq c),oW (cE X (lq c)).out) else (cE X (lq c),⟨0,fh.1,fh.2,qt E.L et bj,0⟩)
variable {bj:List bR} {et:Int} {fh:Int×Int}
theorem anx (ab:c<6) (X:List (List a_)):m2 (dU E c) (bV 0) X=cE X (lq c):=by unfold m2 lq;rw [VR];show cE X [kc 0 49 (k4 1 c) 0]=_;rw [(MO ab).2]
theorem Ng (ab:c<6) {S:dM} (h:S.ok=true):jF E c bj et fh S=x' E c bj et fh S.bD:=by unfold jF E1 x';rw [if_neg (by rw [h];simp),anx ab];rfl
theorem Ix (vs:List bn):(jF E c bj et fh (Br vs)).1.ask=some vs:=by unfold jF E1;rw [if_pos (show (Br vs).ok=false from rfl)];rfl
theorem anz:(x' E c bj et fh []).1.ask=some (lq c):=by unfold x';rw [y5 (by simp [lq])];rfl
theorem M2 (aJ:Fit (lq c) D) (X:List (List a_)):x' E c bj et fh (D::X)=(Hq D X,⟨0,fh.1,fh.2,qt E.L et bj,0⟩):=by unfold x';rw [wJ (by simp [lq]) aJ];exact if_neg (by simp)
end
end
end Go.Proofs.YtmkljjbioomepaaGreat
