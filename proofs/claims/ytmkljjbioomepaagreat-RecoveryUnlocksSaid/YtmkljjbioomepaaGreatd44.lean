import Derived.Test.YtmkljjbioomepaaGreatd43
import Derived.Test.YtmkljjbioomepaaGreatProg
import Derived.Test.YtmkljjbioomepaaGreatd03
import Derived.Test.YtmkljjbioomepaaGreatd02
import Derived.Test.YtmkljjbioomepaaGreatRows
import Derived.WalkKit
import Derived.ProofKit
import Derived.OpenShut
import Derived.Deep.Slices
set_option linter.all false
set_option maxHeartbeats 4000000
set_option maxRecDepth 100000
namespace Go.Proofs.YtmkljjbioomepaaGreat
open Go.Proofs.Tryz Go.bs
variable {F:aE} {P:Program} {args:Array a4} {k5 k n y:Nat} {e t:TypeId} {held:Bool} {cl:List MemPlace} {r:Reach} {v:a4} {w:ak} {x:aN}
section
set_option maxRecDepth 100000
theorem Rb:dN 3 0 false=true:=by kernel_rfl
theorem Rc:dN 3 0 true=true:=by kernel_rfl
theorem Rd:dN 3 1 true=true:=by kernel_rfl
theorem Re:dN 3 2 true=true:=by kernel_rfl
theorem Rf:dN 3 3 true=true:=by kernel_rfl
theorem Rg:dN 3 4 true=true:=by kernel_rfl
theorem Rh:dN 3 5 true=true:=by kernel_rfl
theorem Ri:dN 3 6 true=true:=by kernel_rfl
theorem Rj:dN 3 7 true=true:=by kernel_rfl
theorem Rk:dN 3 8 true=true:=by kernel_rfl
theorem Rl:dN 3 9 true=true:=by kernel_rfl
theorem Pm:dN 3 10 true=true:=by kernel_rfl
theorem Pn:dN 3 11 true=true:=by kernel_rfl
theorem Po:dN 3 12 true=true:=by kernel_rfl
theorem Pp:dN 3 13 true=true:=by kernel_rfl
theorem Sc:(List.range 14).all (λy=>dN 3 y true)=true:=by rw [show List.range 14=[0,1,2,3,4,5,6,7,8,9,10,11,12,13] from rfl];simp only [vv,List.all_nil,Bool.and_self,Rc,Rd,Re,Rf,Rg,Rh,Ri,Rj,Rk,Rl,Pm,Pn,Po,Pp]
end
section
open gP
theorem R2 (c:1<=n/\n<=3) (a:y<14) (b:Bool):∃ z,z<14/\kd n y b=kd n z b/\sy n z b=true/\xH n z b=true/\∀ l,(b && (fj y).contains l)=(b && (fj z).contains l):=by
 have key:∀ z,dN n z b=true->sy n z b=true/\xH n z b=true:=λz h=>by unfold dN at h;rwa [ep] at h
 cases b with
 |true=>
  have h:dN n y true=true:=by
   have hm:y ∈ List.range 14:=fs.2 a;obtain rfl | rfl | rfl:n=1\/n=2\/n=3:=by omega
   ·exact fE.1 Sa y hm
   ·exact fE.1 Sb y hm
   ·exact fE.1 Sc y hm
  exact ⟨y,a,rfl,(key y h).1,(key y h).2,λ_=>rfl⟩
 |false=>
  have h:dN n 0 false=true:=by
   obtain rfl | rfl | rfl:n=1\/n=2\/n=3:=by omega
   ·exact Qz
   ·exact Qd
   ·exact Rb
  exact ⟨0,by omega,by unfold kd kw;rw [if_neg (by decide),if_neg (by decide)],(key 0 h).1,(key 0 h).2,λ_=>rfl⟩
theorem M0 {y:aN} {l:Nat} (h:x.dx l=y.dx l):∀ k,k<8->x.get (l * 8+k)=y.get (l * 8+k):=λk j=>by
 unfold aN.dx at h;simp only [aK.mk.injEq] at h;obtain ⟨_,a,b,c,d,e,f,g,i⟩:=h
 match k,j with
 | 0,_=>exact a
 | 1,_=>exact b
 | 2,_=>exact c
 | 3,_=>exact d
 | 4,_=>exact e
 | 5,_=>exact f
 | 6,_=>exact g
 | 7,_=>exact i
theorem ht.dx {x y:aN} (h:ht x y) {l:Nat} (b:96<=l):x.dx l=y.dx l:=by
 have g:∀ k,k<8->x.get (l * 8+k)=y.get (l * 8+k):=λk a=>h.get _ (by simp [kL];omega)
 unfold aN.dx;rw [show l * 8=l * 8+0 from rfl,g 0 (by omega),g 1 (by omega),g 2 (by omega),g 3 (by omega),g 4 (by omega),g 5 (by omega),g 6 (by omega),g 7 (by omega)]
theorem O9 {b:Bool} {z:Nat} (f:sy n z b=true) (au:∀ l,(b && (fj y).contains l)=(b && (fj z).contains l)) {bp:List aN} (ay:zp n y b bp) {m:Nat} (e:bp[m]?=some x) (h:x.get 0=1) (i:x.get 1=1):ht x (kd n z b):=by
 simp only [sy,ep,fE,fs,beq_iff_eq,decide_eq_true_eq] at f;obtain ⟨p,r,s,g,t,_⟩:=f;obtain ⟨bG,w⟩:=ay.up m x e;have u:(kd n z b).words.length=808:=p;refine ⟨bG,by rw [w,u],λk d=>?_⟩;simp [kL] at d;have a:∀ q,q<5->∀ j,j<8->x.get ((q+96) * 8+j)=(kd n z b).get ((q+96) * 8+j):=λq o=>M0 (by rw [ay.dx m x e (q+96) (by omega) (by omega),t q o,au])
 rcases d with ((d | d) | d) | d
 ·obtain rfl | rfl:k=0\/k=1:=by omega
  ·rw [h,r]
  ·rw [i,s]
 ·obtain ⟨c,rfl⟩:∃ c,k=24+c:=⟨k - 24,by omega⟩;rw [(ay.same m x e c (by omega)).1,(g c (by omega)).1]
 ·obtain ⟨c,rfl⟩:∃ c,k=32+c:=⟨k - 32,by omega⟩;rw [(ay.same m x e c (by omega)).2,(g c (by omega)).2]
 ·by_cases A:k<808
  ·have:=a (k / 8 - 96) (by omega) (k % 8) (by omega);rw [show (k / 8 - 96+96) * 8+k % 8=k by omega] at this;exact this
  ·unfold aN.get;rw [dq,dq,iF (by omega),iF (by omega)]
theorem CE:∀ {ls:List cA},(∀ l ∈ ls,l.pair.a3=[])->gz ls=0
 | [],_=>rfl
 |l::ls,h=>by
  have:=CE λx a=>h x (fw l a)
  unfold gz at this ⊢;rw [gj,jI,this,h l eO];rfl
theorem O_ (u:cd F) (f:en F) {i:Nat} {C:bh} (r:F.aR[i]?=some C) (x:F.nodes.length=n) (g:C.inc=1) (b:C.alive=true) (s:C.batch=none) (t:∀ l ∈ C.az,l.pair.a3=[]):C.oG=hl n i:=by
 have a:=u.b8.ok.aW i C r;have hlen:=a.az;rw [b,if_pos rfl,x] at hlen;have c:C.az=jP n i 1:=by
  apply jK;intro j;unfold jP;by_cases w:j<n
  ·rw [dS,j6 w];obtain ⟨l,c⟩:∃ l,C.az[j]?=some l:=⟨_,bE (by omega)⟩;rw [c];have hm:=b5 c;have e:=a.lane j l c;have al:=t l hm;obtain ⟨p,q⟩:=f C (b5 r) l hm al;have h:=e.bC;rw [al] at h;have d:=lI.1 h;clear h;have k:=e.aW;have g9:=e.inc;have o:=e.node;obtain ⟨⟨G,H,I,J,K,L⟩,pl⟩:=l;simp only at k g9 o p q al d;rw [g] at g9;subst k g9 o p q al d;rfl
  ·rw [iF (by omega),iF (by simp;omega)]
 have hw:C.waiting=0:=by rw [a.waiting];exact CE t
 obtain ⟨y,b2,z,A,B,D,E⟩:=C;simp only at g b s c hw;subst g b s c hw;rfl
theorem Pq (d:cd F) (n:F.dU=[]) (c:Nat):g7 c F:=by
 obtain ⟨h,e⟩:=J2 n;refine ⟨h,λi C _ a j l b=>e C (b5 a) l (b5 b),λC a=>⟨λj l b=>((d.b8.ok.aW c C a).lane j l b).bC,λi j l l' _ b _ k f=>?_⟩,λC a=>?_⟩
 ·have al:=e C (b5 a) l (b5 b);have g:=((d.b8.ok.aW c C a).lane i l b).bC;rw [al] at g;rw [lI.1 g] at f;cases f
 ·have:=(d.b8.ok.aW c C a).az;rw [this];split<;>omega
structure tL (n:Nat) (bp:List aN):Prop where
 len:bp.length=n
 eq:∀ (m:Nat) (x ve:aN),bp[m]?=some x->bp[0]?=some ve->Dn ve x 101
 xO:∀ (m:Nat) (x:aN),bp[m]?=some x->x.words.length=808
theorem Pr {e:List aN} (h:Ah e=true) {bp:List aN} (z:bp.length=n) (A:e.length=n) (hw:∀ (m:Nat) (y:aN),e[m]?=some y->y.words.length=808) (k:∀ (m:Nat) (x y:aN),bp[m]?=some x->e[m]?=some y->ht x y):tL n bp:=by
 have at_:∀ {m:Nat} {x:aN},bp[m]?=some x->∃ y,e[m]?=some y:=λ{m x} b=>⟨_,bE (by have:=b3 b;omega)⟩
 refine ⟨z,λm x B b o=>?_,λm x b=>?_⟩
 ·obtain ⟨y,f⟩:=at_ b
  obtain ⟨C,d⟩:=at_ o
  have s:=k m x y b f;have j:=k 0 B C o d;cases e with
  |nil=>cases d
  |cons a e=>
   cases d;unfold Ah at h;simp only [fE,ep,fs,beq_iff_eq,decide_eq_true_eq,qc] at h;obtain ⟨r,t,u⟩:=h y (b5 f);refine ⟨s.down.trans r,λl c9 l2=>?_,λc w=>?_⟩
   ·obtain ⟨g,i⟩:=t (l - 96) (by omega);rw [show l - 96+96=l by omega] at g i;exact ⟨(j.dx c9).trans (g.trans (s.dx c9).symm),by rw [j.get _ (by simp [kL];omega)];exact i⟩
   ·obtain ⟨g,i⟩:=u c w;have p:kL (32+c)=true:=by simp [kL];omega
    have q:kL (24+c)=true:=by simp [kL];omega
    exact ⟨by rw [j.get _ p,s.get _ p];exact g,by rw [j.get _ q,s.get _ q];exact i⟩
 ·obtain ⟨y,f⟩:=at_ b
  rw [(k m x y b f).len];exact hw m y f
theorem O' {y:aN} (h:ht x y):k6 x lY=k6 y lY:=by
 unfold k6;refine rB λl a=>?_
 rw [h.dx (by simp [lY] at a;omega)]
section
attribute [local irreducible] dK
theorem LP (Xx:1<=n/\n<=3) (XA:y<14) {sure:Bool} {G:aE} {A:bu} {g:f7} {gr:Nat->c5} (h:rV n y sure F G A g gr) :
  ∃ r M,dK F [iV n 2] [] [] 20000=(r,[M])/\cd r/\(∃ v s q w,M.out=.inr ⟨0,v,s,q,w⟩)/\M.a7.length<=9/\
  ∃ W,(∀ x,r.nodes[0]?=some x->x.down=false/\x.words.length=808/\k6 x lY=W)/\W.length=4/\(∀ p ∈ W,z2 p)/\
  ∃ K t3,dK r [qh 3 ⟨3,1,101,ro n,[],W⟩] [] [] 20000=(K,[t3])/\cd K/\(∃ f,t3.out=.inl (0,f))/\tL n K.nodes:=by
 have ay:=wz Xx XA;have J:∀ c ∈ [2],1<=c/\c<4:=λc Xv=>by simp at Xv <;> omega
 obtain ⟨XF,XK,X,O,aq,hw,XN,XR⟩:=JI h (rs:=[2]) J;have hw:g4 [2] XF X O<=2380:=hw;have aq:jL (gF n y) [2] [2] F [iV n 2] XF XK X O:=aq;obtain ⟨Y,A',bW,N,j,XS,X3,XT⟩:=C1 ay (rs:=[2]) (λc Xv=>by have:=J c Xv;omega) (cs:=[2]) (by simp) aq [] 20000;obtain ⟨B,XH⟩:=XT (by omega);have a:cd (dK F [iV n 2] [] [] 20000).1:=cd.dK XN _ _ _ _;have D:en (dK F [iV n 2] [] [] 20000).1:=h.clean.dK _ _ _;have U:z3 n y [2] (dK F [iV n 2] [] [] 20000).2 sure (dK F [iV n 2] [] [] 20000).1 2380:=⟨Y,A',bW,N,j,by omega,a,λe=>XS.am (XR e)⟩;have j:jL (gF n y) [2] [2] (dK F [iV n 2] [] [] 20000).1 (dK F [iV n 2] [] [] 20000).2 Y A' bW N:=j;generalize dK F [iV n 2] [] [] 20000=R at *;obtain ⟨r,ts⟩:=R;simp only at j B XH a D U;obtain ⟨M,rfl⟩:=tm.1 (j.len.trans rfl);obtain ⟨b,v,s,q,u,_,T,_,_,S⟩:=(MX Xx XA J U B).2.2 rfl M (by simp);have I:=j.mP.nodes;have P:∀ (m:Nat) (x:aN),r.nodes[m]?=some x->x.get 0=1/\x.get 1=1:=λm x d=>by rw [I] at d;have:=(j.iD.rep.mem m x d).aU;exact ⟨this.key,this.ee⟩
 obtain ⟨z,XI,X1,XD,L,XB⟩:=R2 Xx XA b;have E:∀ (m:Nat) (x:aN),r.nodes[m]?=some x->ht x (kd n z b):=λm x d=>O9 XD XB u d (P m x d).1 (P m x d).2
 have X2:=j.iD.qF;obtain ⟨C,Z⟩:∃ C,Y.aR[3]?=some C:=⟨_,bE (by omega)⟩;obtain ⟨r1,XY,XZ⟩:=j.iD.rest 3 C (by omega) (by simp) Z;have Q:r.aR[3]?=some C:=by
  rcases j.mP with e | e
  ·rw [e];exact Z
  ·rw [e.gE 3 (by omega)];exact Z
 have H:=O_ a D Q u.len r1.inc r1.live XY λl XP=>by obtain ⟨k,XO⟩:=ei.1 XP;exact XZ k l XO
 have XM:gH 3 r (xG n z b):=by refine ⟨by rw [j.mP.lines,j.iD.lines];rfl,by rw [u.len];simp [xG],λm x V d t=>?_,C,hl n 3,Q,rfl,H⟩;have:V=kd n z b:=(yR.1 (b5 t)).2;rw [this];exact E m x d
 have Xy:kx 3 (r,xI n z b):=⟨a,Pq a XH 3,rfl⟩;unfold xH at L;cases Xz:q9 3 400 (bN (xG n z b) (xI n z b)) with
 |none=>rw [Xz] at L;cases L
 |some XV=>
  obtain ⟨k,e⟩:=XV;rw [Xz] at L;simp only [ep,decide_eq_true_eq,beq_iff_eq,fE] at L;obtain ⟨X4,i,XC,XJ,XE⟩:=L;obtain ⟨K,d1,d2⟩:=LO Xy XM Xz [] (most:=20000) (by omega);have Xw:cd K:=by have:=cd.dK a [xI n z b] [] [] 20000;rw [d1] at this;exact this
  refine ⟨r,M,rfl,a,⟨v,s,q,0,T⟩,S,(Ay n z b).writes,λx d=>?_,rfl,λp XQ=>?_,K,_,d1,Xw,?_,?_⟩
  ·obtain ⟨bG,X0⟩:=u.up 0 x d;exact ⟨bG,X0,O' (E 0 x d)⟩
  ·simp only [sy,ep,fE,A4,decide_eq_true_eq] at XD;obtain ⟨_,_,_,_,_,XU⟩:=XD;obtain ⟨X,XL⟩:=XU p XQ;exact ⟨X,XL⟩
  ·cases XG:(bN e.1 e.2).2.out with
   |inl o=>rw [XG] at i;obtain ⟨XW,XX⟩:=o;have i:(XW == 0)=true:=i;exact ⟨XX,by rw [eq_of_beq i]⟩
   |inr o=>rw [XG] at i;cases i
  ·refine Pr XC (d2.len.trans XJ) XJ (λm V t=>XE V (b5 t)) λm x V d t=>d2.node m x V d t
end
end
section
open IntKind
variable (w:ak) (R:cz) {i k l:Int} {s:an} {a b:Nat}
theorem SX:bf prog f9 [ab i,ab k,ab l,ae s a b] R w=(cond ((a:Int)>100) (R (ad true) w) (ct 12 #[ab i,ab 3] w λc P=>UF 13 #[ab (i64.wrap (c+1)),ab k,ab l,ae s a b] P λd f g G=>cond (!g) (R (ad false) G) (dn 14 #[] G λh H=>cond (!h) (R (ad false) H) (q5 16 #[ab (i64.wrap (c+1)),ab 2,ah 0] H λq a9=>q5 26 #[.pointer d,q.val] a9 λA a'=>aS a' #[ab 0,ab 0,ab 0,ab 0,ab 0,ab 0,ab 0,ah 0,ab 0,ab 0,ab 0,ab 0,a5,a5,a5,ab 0,ab 0,ab 0,ab 0,a5,ab 0,ab 0,ah 0,a5,ad false,ad false,ab 0,ab 0,a5,ab 0,a5,ah 0,ab 0,ab 0,ab 0,ab 0] 45 λE S=>a_ S (af E 0) 0 A.cells λB=>bX B (af E 26) λj=>cond (j != 0) (R (ad false) B) (b_ B (af E 23) λQ u m=>cond ((u:Int)>9) (R (ad false) B) (aS B #[ab 96,ab 97,ab 98,ab 99] 3 λO K=>Calls prog 24 #[.pointer d,ab (i64.wrap (c+1)),ab 3,ab 1,ae (bo O) 4 4] K λe M=>cb.ex λt=>∃ (n:Bool),e=.returned (.tuple #[t.val,ad n])/\aS M #[ab 0,ab 0,ab 0,ab 0,ab 0,ab 0,ab 0,ah 0,ab 0,ab 0,ab 0,ab 0,a5,a5,a5,ab 0,ab 0,ab 0,ab 0,a5,ab 0,ab 0,ah 0,a5,ad false,ad false,ab 0,ab 0,a5,ab 0,a5,ah 0,ab 0,ab 0,ab 0,ab 0] 45 λC v=>a_ v (af C 0) 0 t.cells λx=>cond (!n) (R (ad false) x) (eL x (af C 0) λr=>q5 26 #[.pointer d,r.val] x λz y=>a_ y (af C 0) 0 z.cells λF=>bX F (af C 26) λo=>cond (o == 0) (AV 28 #[ab (i64.wrap (c+1))] F λD N=>dn 27 #[.pointer d,ae D.fh D.eW D.fQ,ab 101] N λp L=>R (ad p) L) (R (ad false) F)))))))):=by kernel_rfl
end
section
open gP
theorem tL.Rv {X:bR} (h:tL n X.pure.nodes):Dp X n 101:=by
 have at_:∀ {i:Nat} {x:hF},X.nodes[i]?=some x->X.pure.nodes[i]?=some x.n:=λ{i x} a=>by simp [bR.pure,a]
 refine ⟨by have:=h.len;simpa [bR.pure] using this,λi x c a b=>h.eq i _ _ (at_ a) (at_ b),λi x a=>?_,by omega,by omega⟩;have:=h.xO i _ (at_ a);omega
section
attribute [local irreducible] dK
theorem Wy (w:ak) {XP XT Yt:Int} {Yq:an} {Yw:Nat} {sch:a8} (Yy:d9 XP) (Yj:d9 XT) (Yz:d9 Yt) (YK:bk w Yq (is sch)) (YE:∀ x ∈ sch,d9 x) :
  bb 9 [.int .i64 XP,.int .i64 XT,.int .i64 Yt,.slice Yq sch.length Yw] w λv u=>v=.bool true/\ai w u:=by
 refine bd Tryz.func9 ?_;rw [SX];refine bc (λh=>⟨rfl,ao.refl _ _⟩) (λYJ=>?_)
 refine aD (tt _ _ _ Yy (by omega)) ?_;rintro v bG ⟨rfl,X_⟩;obtain rfl:w=bG:=X_.symm;rw [if_neg (by omega)];refine ⟨_,rfl,?_⟩;obtain ⟨n,YI,XA⟩:∃ n:Nat,XP % 3+1=n/\1<=n/\n<=3:=⟨(XP % 3+1).toNat,by omega,by omega⟩;rw [bH (x:=XP % 3+1) (by omega) (by omega),YI];refine aD (Qy XA Yj Yz YK YE) ?_;obtain ⟨y,YN,XK⟩:∃ y:Nat,(XT % 14).toNat=y/\y<14:=⟨(XT % 14).toNat,rfl,by omega⟩;rw [YN];rintro v YX ⟨aJ,sure,A,aw,X,F,G,B,g,gr,rfl,XY,t⟩;refine ⟨_,_,_,rfl,di rfl ?_⟩;refine aD (O8 _) ?_;rintro v bq ⟨rfl,Xz⟩;refine ⟨_,rfl,di rfl ?_⟩;have P:=XY.jX Xz;refine aD (Fv (A:=A) (λk z=>P.ck.low k z) (n:=n) (by omega) 2 0) ?_;rintro v YQ ⟨dI,rfl,XB,X'⟩;refine cb.aT (sQ 2 0 dI) ⟨rfl,?_⟩;have E:=P.jX XB;obtain ⟨XU,Yr,V,Z,⟨YV,os,YU,YW,XF⟩,Yl,W,eJ,X0,X1,Yv,t3,Y,YD,⟨jg,I⟩,XX⟩:=LP XA XK t;have XG:=E.pure;refine aD (zi E.ck (by rw [XG];exact t.fl) (DP X' ⟨by omega,by omega⟩) (H5 n 2)) ?_;rintro v Ys K;have X2:ko X.pure (iV n 2)=(XU,[Yr]):=by rw [XG];exact V
 have K:dR A aw YQ aJ (ko X.pure (iV n 2)).1 Ys λB=>∃ N M,(ko X.pure (iV n 2)).2=[N]/\v=M.val/\ip B Ys M N:=K
 rw [X2] at K;obtain ⟨XQ,Yi,D,XZ,⟨N,M,Yx,rfl,XI⟩,YF,YA⟩:=E.op K;obtain rfl:Yr=N:=by simpa using Yx
 refine cb.aT M ⟨rfl,?_⟩;refine ec (vs:=M.cells) rfl (cb.single _) λb1 YY YB XN XC=>?_
 have H:M.Code=0:=by have:=XI.out;rw [XF] at this;exact this.1
 have X4:=XI.dL;refine ⟨_,XN.cell (i:=26) rfl,di (by rw [H];rfl) ⟨_,_,_,XN.cell (i:=23) rfl,bc (λh=>absurd h (by rw [X4];omega)) (λ_=>?_)⟩⟩
 rintro aB u8 X3 XJ;obtain ⟨Ye,XD⟩:=bl X3 XJ;clear XJ;have c:=XZ.jX (XC.new XD);have q:D.pure=XU:=c.pure;have X7:0<D.nodes.length:=by
  have Yj:=Z.b8.ok.nodes.1;have:D.pure.nodes.length=XU.nodes.length:=by rw [q]
  simp [bR.pure] at this;omega
 obtain ⟨x,Yp⟩:∃ x,D.nodes[0]?=some x:=⟨_,bE X7⟩;obtain ⟨Yc,YM,Yd⟩:=eJ x.n (by rw [<-q];simp [bR.pure,Yp]);refine aD (Bu c.ck (n:=n) (by omega) Yp Yc (L:=lY) (λl YG=>by simp [lY] at YG;omega) (by decide) (fu Ye (by rfl)) 3 1) ?_;rintro v Yh ⟨p,c6,eg,rfl,f,Ya,b,Yb⟩;rw [Yd] at b;refine cb.aT (hQ 3 1 101 p c6 lY.length eg) ⟨true,rfl,?_⟩;refine ec (vs:=(hQ 3 1 101 p c6 lY.length eg).cells) rfl (cb.single _) λXR XO YC j a=>?_
 refine di rfl ?_;refine cb.aT (hQ 3 1 101 p c6 lY.length eg) ⟨bO j rfl,?_⟩;have XE:ai w Yh:=c.new.new f;have O:b6 XQ Yi Yh aJ D:=c.ck.new f;have Yn:=j.lt;have Yo:=f.size;have X8:=a.size;have r:ft XQ Yi Yh aJ (λk=>k=XR) XO XQ Yi D:=ft.start O a λk z=>by rw [z];exact ⟨by omega,by omega⟩
 have X9:ip (λk=>XQ k\/k=XR) XO (hQ 3 1 101 p c6 lY.length eg) (qh 3 ⟨3,1,101,ro n,[],W⟩):=by
  refine yZ ((Ya.mono λk YH z=>z.resolve_right (by omega)).new a) (b.rd.new a) (by rw [X0];rfl) (by omega) (hk b.rd λk z XS=>?_) X1;have YS:=Yb _ z;have YT:=b.lt z;rcases XS with XS | XS
  ·have:=c.ck.low _ XS;omega
  ·omega
 have T:ko D.pure (qh 3 ⟨3,1,101,ro n,[],W⟩)=(Yv,[t3]):=by rw [q];exact Y
 have d:=zi r.ck (by rw [q];exact Z) X9 (λ_=>by show ([]:List (List aM)).length<=200;simp);rw [T] at d;refine aD d ?_;rintro v Yf K;obtain ⟨Yu,YR,XV,Q,S,⟨N,J,XW,rfl,XH⟩,Ym,Yk,Xw⟩:=r.op K;obtain rfl:t3=N:=by simpa using XW
 refine cb.aT J ⟨rfl,?_⟩;have XL:av Yf XR (hQ 3 1 101 p c6 lY.length eg).cells 45:=(Xw XR rfl).trans j;refine dQ (vs:=J.cells) XL rfl (cb.single _) λYO XM Xv=>?_
 have R:=Q.local Xv λk e=>e
 have U:J.Code=0:=by have:=XH.out;rw [I] at this;exact this.1
 refine ⟨_,XM.cell (i:=26) rfl,gB (by rw [U];rfl) ?_⟩;refine aD (y_ _ (n:=n) (by omega) (by omega)) ?_;rintro v Yg ⟨o,YZ,rfl,C,Xx,YL,rfl⟩;refine c2.aT o ⟨rfl,?_⟩;have s:=R.new Xx;have X5:o.eW=n:=by rw [C.len];simp [stM]
 have X6:bk Yg o.fh (gw (stM n)).flatten:=C.rd;dsimp only;rw [X5];refine aD (O5 s.ck (tL.Rv (X:=XV) (n:=n) (by rw [S];exact XX)) X6 (by omega)) ?_;rintro v YP ⟨rfl,Xy⟩;exact ⟨_,rfl,rfl,(s.new Xy).iz O XE c.own⟩
end
end
section
open Go.ChangeShapes Go.WideShapes Go.ChangeAt Go.RowKit
theorem laid:laidOutB prog=true:=by kernel_rfl
theorem Rm:ownKnob prog.godebug=none:=by kernel_rfl
theorem HI {H:Type} {enc:TypeId×a4->H} {W W':ak} {sp:Nat->Bool}:∀ {ts:List TypeId} {vs:ax} {ds:List (DataW H)} {cl:List MemPlace},(∀ t ∈ ts,prog.readableRec t=true/\t<prog.types.size)->DataW.TrodAll enc prog W 0 (λ_=>true) true ts vs ds cl->
  (∀ p ∈ cl,W.sameAt W' p)->(∀ p ∈ cl,sp p.block=true)->DataW.TrodAll enc prog W' 0 sp true ts vs ds cl
 | [],_,_,_,_,h,_,_=>by obtain ⟨rfl,rfl,rfl⟩:=trodAll_nil h;exact trodAll_mk0
 |t::ts,_,_,_,e,h,g,f=>by obtain ⟨v,l,d,i,a,b,rfl,rfl,rfl,j,k⟩:=trodAll_cons h;refine trodAll_cons_mk (WideElems.Trod_stays laid (e t eO).1 (e t eO).2 j (λp c=>g p (vF _ c)) λp c=>f p (vF _ c)) ?_;exact HI (λt h=>e t (fw _ h)) k (λp c=>g p (List.mem_append_right _ c)) λp c=>f p (List.mem_append_right _ c)
theorem M1 {H:Type} {enc:TypeId×a4->H} {f:Func} {s:ChangeSpec} {apart:Bool} {W W':ak} {ds gs:List (DataW H)} {before:List MemPlace} {tb:TypeId} (eJ:DataW.Whole enc prog f.params.toList s.vars apart W args.toList ds gs before)
  (k:Go.bs.ai W W') (e:∀ t ∈ f.params.toList,prog.readableRec t=true/\t<prog.types.size) (al:s.vars=[]) (a:s.fn H (ds++gs)={ results:=[.lit (.bool true)],args:=ds }) (o:f.resultTypes=#[tb]) (d:prog.underlying tb=some .bool) :
  s.post enc prog f apart true false false W args (.bool true) W':=by
 have i:Go.RowKit.Below W.heap.size W W':=k.below (cY _) λ_ _ h=>h
 have b:=eJ.lt;have c:=eJ;obtain ⟨p,q,j,r,rfl,l,n⟩:=eJ;refine ⟨ds,gs,p++q,[],p,[],c,?_,?_,?_,i.frame _,λh=>by cases h⟩
 ·rw [a,o];exact trodAll_cons_mk (shut_bool d _) trodAll_mk0
 ·rw [a];exact HI e j (λx g=>i.same (b x (vF _ g))) λx g=>by simpa using b x (vF _ g)
 ·rw [a,al];rfl
theorem we {n:Int} (h:(Lit.int .i64 n).wf=true):d9 n:=by have:=bounds_i64 h;exact ⟨this.1,by omega⟩
end
section
open Go.ChangeShapes Go.WideShapes Go.ChangeAt Go.RowKit
theorem Dw {sz:Nat} (b:0<sz):∀ {rows:List ax} {j:Nat} {u:a4},(∀ r ∈ rows,r.length=sz)->rows.flatten[j]?=some u->∃ r,rows[j / sz]?=some r/\r[j % sz]?=some u
 | [],j,u,_,h=>by simp at h
 |r::rows,j,u,d,h=>by
  have k:=d r eO;rw [hg,qb] at h;by_cases c:j<sz
  ·rw [if_pos (by omega)] at h;exact ⟨r,by rw [Nat.div_eq_of_lt c];rfl,by rw [ti c];exact h⟩
  ·rw [if_neg (by omega),k] at h;obtain ⟨l,g,i⟩:=Dw b (λr a=>d r (fw _ a)) h;have e:j / sz=(j - sz) / sz+1:=by rw [Nat.div_eq_sub_div b (by omega)]
   have f:j % sz=(j - sz) % sz:=by rw [Nat.mod_eq_sub_mod (by omega)]
   exact ⟨l,by rw [e];simpa using g,by rw [f];exact i⟩
theorem LQ {a:aX} (h:w.cell? a=some v):a.spot=none:=by
 cases b:a.spot with
 |none=>rfl
 |some s=>exfalso;unfold World.cell? at h;simp only [b,Option.isSome_some,if_true] at h;split at h<;>simp_all
theorem JJ {H:Type} {enc:TypeId×a4->H} {W:ak} {fuel:Nat} {cs:ax} {x:DataW H×List MemPlace} (M:P.underlying t=some (.slice e)) (I:P.cellsOf e=k) (A:0<k)
  (J:DataW.trod enc P W 0 (λ_=>true) held fuel t cs=some x):∃ a cap rows,cs=[.slice a (List.length rows) cap]/\rows.length<=cap/\bk W a rows.flatten/\∀ r ∈ rows,r.length=k/\∃ fuel x,DataW.trod enc P W 0 (λ_=>true) held fuel e r=some x:=by
 rcases Deep.open_slice M J with ⟨z,_⟩ | ⟨bx,len,cap,m,n,D,C,z,_,E,_,F,_,G⟩
 ·exact ⟨none,0,[],z,cY _,.inl rfl,λx N=>by cases N⟩
 ·subst z;have hm:len<=m:=by rw [F];simp;omega
  obtain ⟨f,h⟩:=Deep.choose_lt (α:=ax) (p:=λi cs=>W.cells? 0 (bx.add (i * k)) k=some cs/\DataW.trod enc P W 0 (λ_=>true) held n e cs=some (D i,C i)) (n:=m) (λi b=>by obtain ⟨cs,o,w⟩:=G i b;rw [I] at o;exact ⟨cs,o,w⟩)
  have g:∀ (i:Nat) (r:ax),((List.range len).map f)[i]?=some r->i<len/\r=f i:=by intro i r l;have b:=b3 l;simp at b;simp [b] at l;exact ⟨b,l.symm⟩
  have d:∀ r ∈ (List.range len).map f,r.length=k:=by intro r l;obtain ⟨i,b⟩:=ei.1 l;obtain ⟨b,rfl⟩:=g i r b;exact (World.cells?_some (h i (by omega)).1).2.1
  refine ⟨some bx,cap,(List.range len).map f,by simp,by simpa using E,?_,λr l=>⟨d r l,?_⟩⟩
  ·by_cases y:len=0
   ·subst y;exact .inl rfl
   ·have c:∀ (i q:Nat) (u:a4),i<len->(f i)[q]?=some u->q<k->W.cell? (bx.add (i * k+q))=some u:=by intro i q u b L B;have:=(World.cells?_some (h i (by omega)).1).2.2 q B;rw [Deep.add_add] at this;rw [this,L]
    have K:=(World.cells?_some (h 0 (by omega)).1).2.1;have O:bx.spot=none:=by have s:=c 0 0 _ (by omega) (bE (by omega)) A;have:=LQ s;simpa [Addr.add] using this
    refine .inr ⟨bx.block,bx.off,by cases bx;simp_all,λj u hu=>?_⟩;obtain ⟨r,o,w⟩:=Dw A d hu;obtain ⟨b,rfl⟩:=g _ _ o;have s:=c (j / k) (j % k) u b w (Nat.mod_lt _ A);rw [vr,Nat.div_add_mod] at s;rw [<-s];unfold Addr.add;split
    ·rename_i y;subst y;cases bx;simp_all
    ·cases bx;simp_all
  ·obtain ⟨i,b⟩:=ei.1 l;obtain ⟨b,rfl⟩:=g i r b;exact ⟨n,_,(h i (by omega)).2⟩
theorem LR {H:Type} {enc:TypeId×a4->H} {W:ak} {d:DataW H} (g:P.underlying t=some (.slice e)) (n:P.cellsOf e=k) (p:0<k) (f:Value.okWide P W r k5 t v)
  (aq:DataW.Trod enc P W 0 (λ_=>true) held t v d cl):∃ a cap rows,v=.slice a (List.length rows) cap/\bk W a rows.flatten/\∀ r ∈ rows,r.length=k/\∃ fuel x,DataW.trod enc P W 0 (λ_=>true) held fuel e r=some x:=by
 obtain ⟨a,len,cap,rfl⟩:=okWide_slice g f;obtain ⟨fuel,o⟩:=aq;obtain ⟨h,b,rows,i,_,j,l⟩:=JJ g n p o;have c:[Value.slice a len cap]=[.slice h rows.length b]:=i;simp at c;obtain ⟨rfl,rfl,rfl⟩:=c;exact ⟨_,_,_,rfl,j,l⟩
theorem LS {H:Type} {enc:TypeId×a4->H} {W:ak} {d:DataW H} (q:P.underlying t=some (.slice e)) (he:P.underlying e=some (.int .i64)) (o:P.cellsOf e=1) (c:Value.okWide P W r k5 t v)
  (aq:DataW.Trod enc P W 0 (λ_=>true) held t v d cl):∃ a cap xs,v=.slice a (List.length xs) cap/\bk W a (is xs)/\∀ x ∈ xs,d9 x:=by
 obtain ⟨a,cap,rows,rfl,l,k⟩:=LR q o (by omega) c aq;have hint:∀ r ∈ rows,∃ n,r=[.int .i64 n]/\d9 n:=by intro r j;obtain ⟨_,fuel,x,b⟩:=k r j;obtain ⟨n,e,_,w⟩:=DataW.trod_int he b;exact ⟨n,e,we w⟩
 clear k;have key:∀ rows:List ax,(∀ r ∈ rows,∃ n,r=[Value.int .i64 n]/\d9 n)->∃ xs:a8,rows.length=xs.length/\rows.flatten=is xs/\∀ x ∈ xs,d9 x:=by
  intro rows;induction rows with
  |nil=>intro _;exact ⟨[],rfl,rfl,λx b=>by cases b⟩
  |cons r rows s=>
   intro h;obtain ⟨n,rfl,p⟩:=h r eO;obtain ⟨xs,f,g,i⟩:=s λr j=>h r (fw _ j)
   refine ⟨n::xs,by simp [f],by simp [is,g],λx b=>?_⟩;rcases eU.1 b with rfl | b
   ·exact p
   ·exact i x b
 obtain ⟨xs,f,g,i⟩:=key rows hint;exact ⟨a,cap,xs,by rw [f],by rw [<-g];exact l,i⟩
end
section
open Go.ChangeShapes Go.WideShapes Go.ChangeAt Go.RowKit
theorem JK {H:Type} {enc:TypeId×a4->H} {base:Nat} {spare:Nat->Bool} {t0 t1 t2 t3:TypeId} {ds:List (DataW H)} (h:DataW.TrodAll enc P w base spare held [t0,t1,t2,t3] args.toList ds cl) :
  ∃ v0 v1 v2 e d0 d1 d2 d3 a b c d,args=#[v0,v1,v2,e]/\ds=[d0,d1,d2,d3]/\cl=a++b++c++d/\DataW.Trod enc P w base spare held t0 v0 d0 a/\DataW.Trod enc P w base spare held t1 v1 d1 b/\DataW.Trod enc P w base spare held t2 v2 d2 c/\DataW.Trod enc P w base spare held t3 e d3 d:=by
 obtain ⟨v0,d8,d0,q,a,y,f,rfl,rfl,g,l⟩:=trodAll_cons h;obtain ⟨v1,u,d1,r,b,z,rfl,rfl,rfl,i,n⟩:=trodAll_cons l;obtain ⟨v2,rf,d2,s,c,A,rfl,rfl,rfl,j,o⟩:=trodAll_cons n;obtain ⟨e,x,d3,t,d,B,rfl,rfl,rfl,k,p⟩:=trodAll_cons o;obtain ⟨rfl,rfl,rfl⟩:=trodAll_nil p;exact ⟨v0,v1,v2,e,d0,d1,d2,d3,a,b,c,d,by cases args;simp_all,rfl,by simp,g,i,j,k⟩
theorem M3 (os:Os) (started:os.Started) (H:Type) (enc:TypeId×a4->H) :
  ReturnsInHanded {} Tryz.checked os 9 .any (Rows.recoveryUnlocksSpec.pre6 enc prog f9 Rows.recoveryUnlocksRow.domain false) (Rows.recoveryUnlocksSpec.post enc prog f9 false true false false):=by
 refine returnsInHanded_of_change (C:=Tryz.checked) Rm started (by kernel_rfl) Tryz.func9
  (ChangeSpec.witness6 (enc:=enc) (C:=Tryz.checked) false ⟨#[],#[.int .i64 0,.int .i64 0,.int .i64 0,.slice none 0 0],[]⟩ 8 (by kernel_rfl) (by kernel_rfl) (by kernel_rfl) (by kernel_rfl)) ?_
 intro W base args ds gs before b eJ g _;have a:∀ (j:Nat) t v,f9.params[j]?=some t->args[j]?=some v->Value.okWide prog W .any base t v:=b;have d:=eJ;obtain ⟨p,q,c,n,rfl,o,s⟩:=eJ;have f:DataW.TrodAll enc prog W 0 (λ_=>true) true f9.params.toList args.toList ds p:=c;rw [Tryz.params9] at f a;obtain ⟨v0,v1,v2,y,d0,d1,d2,d3,G,I,J,K,rfl,rfl,rfl,h,i,k,l⟩:=JK f;obtain ⟨rfl,rfl⟩:=trodVars_none n;obtain ⟨B,rfl,_,_,w0⟩:=open_int Tryz.underlying3 (a 0 _ v0 rfl rfl) h;obtain ⟨D,rfl,_,_,w1⟩:=open_int Tryz.underlying3 (a 1 _ v1 rfl rfl) i;obtain ⟨b2,rfl,_,_,z⟩:=open_int Tryz.underlying3 (a 2 _ v2 rfl rfl) k;obtain ⟨E,F,iM,rfl,w,A⟩:=LS Tryz.underlying22 Tryz.underlying3 (by kernel_rfl) (a 3 _ y rfl rfl) l;refine (Wy W (we w0) (we w1) (we z) w A).mono λe W' ⟨x,he,u,r⟩=>?_
 subst he u;refine ⟨_,rfl,M1 d r (by rw [Tryz.params9];decide +kernel) rfl rfl (tb:=4) (by kernel_rfl) Tryz.underlying4⟩
theorem Wl:Rows.recoveryUnlocksRow.wf (OpenSpec.ofChange Rows.recoveryUnlocksSpec)=true:=by kernel_rfl
theorem Wm:mapsRowed prog=true:=by kernel_rfl
theorem Wn:f9.params.all (prog.readableRec ·)=true:=by kernel_rfl
theorem Wo:namedTie prog Rows.recoveryUnlocksRow.named Rows.recoveryUnlocksSpec.vars=true:=by kernel_rfl
theorem Wp:(Rows.recoveryUnlocksRow.inPlace == prog.inPlace 9)=true:=by kernel_rfl
theorem Wq:(Rows.recoveryUnlocksRow.unfollowed == prog.unfollowed 9)=true:=by kernel_rfl
theorem Wr:(Rows.recoveryUnlocksRow.recurses == prog.recurses 9)=true:=by kernel_rfl
theorem Ws:(Rows.recoveryUnlocksRow.named == prog.varsNamed 9)=true:=by kernel_rfl
theorem M4:joinedFacts prog 9 f9 Rows.recoveryUnlocksSpec Rows.recoveryUnlocksRow=true:=by unfold joinedFacts;rw [Wl,laid,Wm,Wn,Wo,Wp,Wq,Wr,Ws];kernel_rfl
theorem Ps:Rows.recoveryUnlocksRow.holds Tryz.pinned (OpenSpec.ofChange Rows.recoveryUnlocksSpec):=
 OpenClaim.holds_of_wide 9 f9 rfl rfl rfl rfl rfl rfl rfl ⟨rfl,rfl,rfl,rfl,rfl⟩ rfl rfl rfl rfl rfl (by kernel_rfl) Tryz.func9 M4
  (of_decide_eq_true (by kernel_rfl)) (by unfold Func.isWrapper;first | (rw [if_pos (by decide +kernel)];kernel_rfl) | (rw [if_neg (by decide +kernel)];exact ⟨rfl,rfl⟩))
  (λos started H enc _=>M3 os started H enc)
theorem recoveryUnlocks_holds:Rows.RecoveryUnlocksSaid:=Ps
#print axioms recoveryUnlocks_holds
end
end Go.Proofs.YtmkljjbioomepaaGreat
