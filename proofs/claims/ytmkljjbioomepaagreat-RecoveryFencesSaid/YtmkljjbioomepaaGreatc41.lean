import Derived.Test.YtmkljjbioomepaaGreatc40
set_option linter.all false
namespace Go.Proofs.YtmkljjbioomepaaGreat
open Go.Proofs.Tryz Go.br
variable {aT:List bb} {cG:Int} {l:List aJ} {m:Nat} {s:c8} {c3:Int×Int}
section
open e1
theorem Eo {n:Nat} (hm:m<n):(gJ n)[2 * m]?=some (cN m 24 1)/\(gJ n)[2 * m+1]?=some (cN m 48 120):=by
 have c:∀ b ∈ (List.range n).map (λm=>[cN m 24 1,cN m 48 120]),b.length=2:=λb c=>by obtain ⟨m,_,rfl⟩:=cW.1 c;rfl
 have f:((List.range n).map (λm=>[cN m 24 1,cN m 48 120])).flatten.length=2 * n:=by rw [qQ c];simp [uT]
 have a:((List.range n).map (λm=>[cN m 24 1,cN m 48 120]))[m]?=some [cN m 24 1,cN m 48 120]:=by rw [d',ka hm];rfl
 have d:=sL (r:=0) c a rfl;have e:=sL (r:=1) c a rfl;unfold gJ;rw [hP (by omega),hP (by omega),show 2 * m=m * 2+0 by omega,show m * 2+0+1=m * 2+1 by omega];exact ⟨d,e⟩
theorem Oc (n:Nat):(gJ n)[2 * n]?=some (cN 0 32 1):=by
 have a:∀ b ∈ (List.range n).map (λm=>[cN m 24 1,cN m 48 120]),b.length=2:=λb a=>by obtain ⟨m,_,rfl⟩:=cW.1 a;rfl
 have c:((List.range n).map (λm=>[cN m 24 1,cN m 48 120])).flatten.length=2 * n:=by rw [qQ a];simp [uT]
 unfold gJ;rw [hQ (by omega),c,mU];rfl
theorem In (l:bb) (a:Nat):((l.drop a).take 1).headD 0=l.getD a 0:=by rw [List.headD_eq_head?_getD,List.head?_take,if_neg (by omega),List.head?_drop,dD]
theorem M2 (E:Env) (A:bA):fP E A\/∃ m,m<E.n/\A.cF m=true:=by
 by_cases h:∃ m,m<E.n/\A.cF m=true
 ·exact .inr h
 ·refine .inl λm hm=>?_
  cases a:A.cF m with
  |false=>rfl
  |true=>exact absurd ⟨m,hm,a⟩ h
section
variable {E:Env} {rs:cQ} {A:bA} {bz:List a0} {gr:Nat->c8} {c:Nat} {G:List (List aL)} {D:List aL}
theorem vq:m ∈ jG E A↔m<E.n/\A.cF m=false:=by unfold jG;rw [u5,fE];simp
theorem KJ:(jG E A).Nodup:=List.nodup_range.filter _
theorem Od (a:E.n<=5):(jG E A).length<=5:=by have:=u0 (λm=>!A.cF m) (List.range E.n);rw [lr] at this;unfold jG;omega
theorem wd (a:3<=s.aB) (b:s.aB<=8):hY s:=.inr (.inl ⟨a,b⟩)
theorem q2 (a:3<=s.aB) (b:s.aB<=10):gE s:=.inr ⟨a,b⟩
theorem vn (ay:b5 E) (k:1<=c/\c<6) (e:3<=(gr c).aB/\(gr c).aB<=8) (d:s.aB=9) (f:s.bs=ha) (l:Kp E c G (m8 E c s.aT s.cG s.c3)) (j:Own E A c) (g:Fin E A s):iY E rs A bz gr c G s:=by
 have a:cM E c s=gF c:=by unfold cM;rw [d];rfl
 have i:ez E c s=m8 E c s.aT s.cG s.c3:=by unfold ez;rw [d];rfl
 refine ⟨(by rw [d];exact mI (b:=9) (by omega) (by omega)),?_,⟨λh=>(by omega),λh=>(by omega)⟩,f,λ_=>q2 (by omega) (by omega),λ_=>.inr (.inr ⟨d,by rw [f];rfl⟩),nF ay k (by omega) (by rw [i];exact l) (by rw [i,a];exact OI) (by rw [a];simp [gF]) ?_⟩
 ·unfold cB;rw [eR,d];exact ⟨j.1,λ_=>j.2,g⟩
 ·rw [a,d];have:=M0 (c:=c);have n:1<=gx (gr c).aB:=by
   obtain e | e | e | e | e | e:(gr c).aB=3\/(gr c).aB=4\/(gr c).aB=5\/(gr c).aB=6\/(gr c).aB=7\/(gr c).aB=8:=by omega
   all_goals
    rw [e];first | exact cO _ | (show 1<=1063;omega) | (show 1<=498;omega) | (show 1<=486;omega) | (show 1<=98;omega)
  show cost (gF c)+0<=_/\(gF c).length<=1024;omega
theorem BL (ay:b5 E) (a:1<=c/\c<6) (e:(gr c).aB=3\/(gr c).aB=4) (an:c3.1=2/\jA E.L cG aT=c7 E+1) (f:Kp E c G (λX=>ft E c aT cG c3 (kl E X))) (g:Own E A c) (hm:im E A):iY E rs A bz gr c G ⟨5,ha,[],aT,cG,[],[],[],c3⟩:=by
 refine ⟨(mI (b:=5) (by omega) (by omega)),?_,⟨λ_=>an,λh=>(by have:5=8:=h;omega)⟩,rfl,λ_=>q2 (by show 3<=5;omega) (by show 5<=10;omega),λ_=>wd (by show 3<=5;omega) (by show 5<=8;omega),nF ay a (by show 5<=9;omega) f ?_ (zc ay) ?_⟩
 ·unfold cB;rw [eR];exact ⟨g,hm,λq p d _ h=>by cases h⟩
 ·show (ft E c aT cG c3 (kl E [])).1.ask=_;rw [OA ay];exact tl _
 ·have:=M4 ay;have i:498<=gx (gr c).aB:=by
   rcases e with e | e
   ·rw [e];show 498<=1063;omega
   ·rw [e];exact cO _
  show cost (gL (bJ E))+486<=_/\(gL (bJ E)).length<=1024;omega
theorem Pe (ay:b5 E) (P:1<=c/\c<6) (Vv:jv E A bz) (r:e2 E A) (Vs:(∃ p ∈ bJ E,A.bS 0 (bp p)=1)->h7 E A) (e:(gr c).aB=3) (R:Kp E c G (ez E c (gr c))) (W:cB E rs A bz gr c) (Vw:kf E c (gr c) D):∃ s,iY E rs A bz gr c (G++[D]) s:=by
 have VC:=ay.e.n;have V:cM E c (gr c)=gJ E.n:=by unfold cM;rw [e];rfl
 have VB:ez E c (gr c)=og E c:=by unfold ez;rw [e];rfl
 unfold cB at W;rw [e] at W;obtain ⟨J,Vz⟩:=W;have O:∀ {q:Nat} {v:aP},(gJ E.n)[q]?=some v->∃ d,D[q]?=some d/\d.words=rz bz v:=λ{q v} Y=>by obtain ⟨d,K,M⟩:=Vw.bs (q:=q) (v:=v) (by rw [V];exact Y);exact ⟨d,M,Vz q v d Y K⟩
 have f:∀ m,m<E.n->∃ x,bz[m]?=some x/\Mem E A m x:=λm hm=>by obtain ⟨x,j⟩:∃ x,bz[m]?=some x:=⟨_,bF (by rw [Vv.len];exact hm)⟩;exact ⟨x,j,Vv.mem m x j⟩
 have o:∀ {m:Nat} {x:a0} (a k:Nat),bz[m]?=some x->rz bz (cN m (a:Int) (k:Int))=(x.words.drop a).take k:=λ{m x} a k j=>by unfold rz;rw [show (cN m (a:Int) (k:Int)).node.toNat=m from rfl,j];rfl
 have y:∀ {q m a:Nat},(gJ E.n)[q]?=some (cN m (a:Int) 1)->∀ x,bz[m]?=some x->dx D q=x.get a:=λ{q m a} Y x j=>by obtain ⟨d,K,M⟩:=O Y;rw [vm K];unfold dZ;have:=o a 1 j;rw [M,show ((1:Int))=((1:Nat):Int) from rfl,this,In];rfl
 have z:∀ i,i<E.n->dx D (2 * i)=2:=λi Vr=>by obtain ⟨x,j,hm⟩:=f i Vr;rw [y (a:=24) (Eo Vr).1 x j,hm.aQ.d0,J.1 i Vr];rfl
 have Q:dx D (2 * E.n)=c7 E\/dx D (2 * E.n)=E.fa 0:=by
  obtain ⟨x,j,hm⟩:=f 0 (by omega);rw [y (a:=32) (Oc E.n) x j,hm.dK];split
  ·exact .inl rfl
  ·exact .inr rfl
 have C:o4 E A (mT E.n D):=by
  refine ⟨by unfold mT;simp,λm L r=>?_⟩;unfold mT at r;have hm:=ch r;simp only [fC,lr] at hm;rw [d',ka hm] at r;simp only [mV,e8] at r;obtain ⟨x,j,S⟩:=f m hm;obtain ⟨d,K,M⟩:=O (Eo hm).2;have VA:L=ue x:=by rw [<-r,dD,K];show d.words=_;rw [M];exact o 48 120 j
  rw [VA];exact S.fm ay
 have w:=Vw.fit;rw [V] at w;rw [VB] at R;have U:∀ X,og E c (D::X)=ft E c (mT E.n D) (dx D (2 * E.n)) (hB (cv E c) (bg 0) (mT E.n D) X).1 (hB (cv E c) (bg 0) (mT E.n D) X).2:=λX=>Ni w z X
 generalize mT E.n D=aT at *;generalize dx D (2 * E.n)=cG at *;rcases M2 E A with t | Vt
 ·obtain ⟨c3,ev,bE,Vx,bu,Vy,VD⟩:=K3 (c:=c) ay C t;have l:Kp E c (G++[D]) (λX=>ft E c aT cG c3 (nf ev X)):=R.next λX=>by rw [U X,bE X]
  have u:ev=bJ E\/∀ p ∈ bJ E,A.bS 0 (bp p)=0:=by
   by_cases N:h7 E A
   ·exact .inl (bu N).1
   ·refine .inr λp I=>?_
    have W:=(r.cU 0 (by omega) p I).1;have K:A.bS 0 (bp p)≠1:=λh=>N (Vs ⟨p,I,h⟩)
    have M:A.bS 0 (bp p)≠2:=λh=>by have:=r.ix 0 (by omega) p I h 0 (by omega);rw [t 0 (by omega)] at this;cases this
    omega
  by_cases hu:ev=[]
  ·refine ⟨⟨9,ha,[],aT,cG,[],[],[],c3⟩,vn ay P (by omega) rfl rfl (l.congr λX=>?_) J (.inr ⟨⟨J.1,t,λp I=>?_⟩,Vx⟩)⟩
   ·rw [hu,OE];exact vP P.2 rfl
   ·rcases u with g | g
    ·rw [hu] at g;rw [<-g] at I;cases I
    ·exact g p I
  ·refine ⟨⟨8,ha,[],aT,cG,[],[],ev,c3⟩,(mI (b:=8) (by omega) (by omega)),?_,⟨λh=>(by have:8<=7:=h.2;omega),λ_=>Vx⟩,rfl,λ_=>q2 (by show 3<=8;omega) (by show 8<=10;omega),λ_=>wd (by show 3<=8;omega) (by show 8<=8;omega),nF ay P (by show 8<=9;omega) l ?_ (by show ih ev≠[];unfold ih;simpa using hu) ?_⟩
   ·unfold cB;rw [eR];exact ⟨J,t,u,Vy,VD,λq p d _ h=>by cases h⟩
   ·show (ft E c aT cG c3 (nf ev [])).1.ask=_;rw [OF hu];exact tl _
   ·rw [e];have:=MB Vy;show cost (ih ev)+1<=1063/\(ih ev).length<=1024;omega
 ·obtain ⟨bO,F,H⟩:=Vt;obtain ⟨B,u⟩:=r.l2 bO F H;have T:jA E.L cG aT=c7 E+1:=O9 ay C B Q;have l:Kp E c (G++[D]) (λX=>ft E c aT cG (2,c7 E) (km E (jG E A) X)):=R.next λX=>by rw [U X,K2 ay C B ⟨bO,F,H⟩]
  by_cases Z:jG E A=[]
  ·refine ⟨_,BL ay P (.inl e) ⟨rfl,T⟩ (l.congr λX=>by rw [Z,Oy]) J λm hm=>?_⟩;cases N:A.cF m with
   |true=>rfl
   |false=>have:=vq.2 ⟨hm,N⟩;rw [Z] at this;cases this
  ·refine ⟨⟨4,ha,[],aT,cG,jG E A,[],[],(2,c7 E)⟩,(mI (b:=4) (by omega) (by omega)),?_,⟨λ_=>⟨rfl,T⟩,λh=>(by have:4=8:=h;omega)⟩,rfl,λ_=>q2 (by show 3<=4;omega) (by show 4<=10;omega),λ_=>wd (by show 3<=4;omega) (by show 4<=8;omega),nF ay P (by show 4<=9;omega) l ?_ (zl Z) ?_⟩
   ·unfold cB;rw [eR];refine ⟨J,B,⟨bO,F,H⟩,u,λm hm Vu=>?_,λm hm=>(vq.1 hm).1,KJ,λk m R _=>(vq.1 (cg R)).2,λq m d _ h=>by cases h⟩;cases N:A.cF m with
    |true=>rfl
    |false=>exact absurd (vq.2 ⟨hm,N⟩) Vu
   ·show (ft E c aT cG _ (km E (jG E A) [])).1.ask=_;rw [Oz Z];exact tl _
   ·rw [e];have:=M3 ay (Od (A:=A) VC.2);show cost (gz E (jG E A))+498<=1063/\(gz E (jG E A)).length<=1024;omega
theorem Pf (ay:b5 E) (z:1<=c/\c<6) (e:(gr c).aB=4) (n:cM E c (gr c)≠[]) (h:lx E (gr c)) (i:Kp E c G (ez E c (gr c))) (j:cB E rs A bz gr c) (p:kf E c (gr c) D):∃ s,iY E rs A bz gr c (G++[D]) s:=by
 have f:cM E c (gr c)=gz E (gr c).sp:=by unfold cM;rw [e];rfl
 have B:ez E c (gr c)=λX=>ft E c (gr c).aT (gr c).cG (gr c).c3 (km E (gr c).sp X):=by unfold ez;rw [e];rfl
 unfold cB at j;rw [e] at j;obtain ⟨t,F,H,I,u,J,K,L,w⟩:=j;have C:(gr c).sp≠[]:=λx=>n (by rw [f,x];rfl)
 have a:=p.fit;rw [f] at a;rw [B] at i;refine ⟨_,BL ay z (.inr e) (h.1 (by omega)) (i.next λX=>?_) t λm hm=>?_⟩
 ·show ft E c _ _ _ (km E (gr c).sp (D::X))=_;rw [MJ C a]
 ·by_cases g:m ∈ (gr c).sp
  ·obtain ⟨k,i⟩:=eF.1 g;have l:∀ b ∈ (gr c).sp.map (λm=>[cw m 48 [0],cw m 56 (gP E),cw m 48 [h4 E]]),b.length=3:=λb l=>by obtain ⟨m,_,rfl⟩:=cW.1 l;rfl
   have o:(gz E (gr c).sp)[k * 3+2]?=some (cw m 48 [h4 E]):=sL (r:=2) l (by rw [d',i];rfl) rfl;obtain ⟨d,y,_⟩:=p.bs (q:=k * 3+2) (by rw [f];exact o);exact w _ m d o y
  ·exact u m hm g
theorem DA {p:aJ}:p ∈ hZ E D↔∃ i,(bJ E)[i]?=some p/\dx D i=eJ p.Head 0:=by
 unfold hZ gj;rw [oO];constructor
 ·rintro ⟨b,e,c⟩;obtain ⟨i,d,rfl⟩:=cW.1 e;have d:=fE.1 d;unfold pX at c;split at c
  ·rename_i ar;simp only [nR] at c;have a:(bJ E)[i]?=some p:=by rw [c,dD,bF d];rfl
   exact ⟨i,a,by rw [c];exact ar⟩
  ·cases c
 ·rintro ⟨i,a,ar⟩;have d:=ch a
  have f:(bJ E).getD i hE=p:=by rw [dD,a];rfl
  refine ⟨_,cW.2 ⟨i,fE.2 d,rfl⟩,?_⟩;unfold pX;rw [f,if_pos (show dx D i=eJ p.Head (cv E 0).dead from ar)];exact List.mem_singleton_self p
theorem Cc (ay:b5 E) (g:1<=c/\c<6) (e:(gr c).aB=5\/(gr c).aB=6) (an:c3.1=2/\jA E.L cG aT=c7 E+1) (i:Kp E c G (λX=>ft E c aT cG c3 (mg E l X))) (j:Own E A c) (hm:im E A) (f:p6 E A) (a:vV E A l):iY E rs A bz gr c G ⟨7,ha,[],aT,cG,[],l,[],c3⟩:=by
 refine ⟨(mI (b:=7) (by omega) (by omega)),?_,⟨λ_=>an,λh=>(by have:7=8:=h;omega)⟩,rfl,λ_=>q2 (by show 3<=7;omega) (by show 7<=10;omega),λ_=>wd (by show 3<=7;omega) (by show 7<=8;omega),nF ay g (by show 7<=9;omega) i ?_ (by show fV E l≠[];simp [fV]) ?_⟩
 ·unfold cB;rw [eR];exact ⟨j,hm,f,a,λq v d _ h=>by cases h⟩
 ·show (ft E c aT cG c3 (mg E l [])).1.ask=_;rw [OD];exact tl _
 ·have:=Dv (E:=E) a.2.1;have k:98<=gx (gr c).aB:=by
   rcases e with e | e
   ·rw [e];show 98<=486;omega
   ·rw [e];exact cO _
  show cost (fV E l)+1<=_/\(fV E l).length<=1024;omega
theorem Ep (ay:b5 E) (c:e2 E A) (hm:im E A) (b:∀ p ∈ bJ E,A.bS 0 (bp p)=2):l1 E A:=by
 obtain ⟨p,b_,eT⟩:=sX ay.bN.some_;have a:p ∈ bJ E:=by show p ∈ (E.a1 0).writes;rw [eT];exact e_
 exact ⟨hm,c.lH p a (b p a),b⟩
theorem Pg (ay:b5 E) (B:1<=c/\c<6) (F:e2 E A) (e:(gr c).aB=5) (u:lx E (gr c)) (K:Kp E c G (ez E c (gr c))) (y:cB E rs A bz gr c) (L:kf E c (gr c) D):∃ s,iY E rs A bz gr c (G++[D]) s:=by
 have R:=ay.e.n;have w:cM E c (gr c)=gL (bJ E):=by unfold cM;rw [e];rfl
 have N:ez E c (gr c)=λX=>ft E c (gr c).aT (gr c).cG (gr c).c3 (kl E X):=by unfold ez;rw [e];rfl
 unfold cB at y;rw [e] at y;obtain ⟨C,x,M⟩:=y;have f:=L.fit;rw [w] at f;rw [N] at K;have an:=u.1 (show 4<=(gr c).aB/\(gr c).aB<=7 by omega);have H:∀ {q:Nat} {p:aJ},(bJ E)[q]?=some p->(dx D q=eJ p.Head 0↔A.bS 0 (bp p)=1):=λ{q p} t=>by obtain ⟨d,z,J⟩:=L.bs (q:=q) (v:=cN 0 (p.bn * 8) 1) (by rw [w];unfold gL;rw [d',t];rfl);rw [vm J];exact M q p d t z
 have g:∀ p ∈ bJ E,p ∉ hZ E D->A.bS 0 (bp p)=2:=λp a I=>by
  obtain ⟨q,t⟩:=eF.1 a;have z:A.bS 0 (bp p)≠1:=λh=>I (DA.2 ⟨q,t,(H t).2 h⟩)
  have y:=(F.l2 0 (by omega) (x 0 (by omega))).2 p a;have J:=(F.cU 0 (by omega) p a).1;omega
 have o:Kp E c (G++[D]) (λX=>ft E c (gr c).aT (gr c).cG (gr c).c3 (if hZ E D=[] then r9 D X else jS E (hZ E D) X)):=K.next λX=>by show ft E c _ _ _ (kl E (D::X))=_;rw [MK ay f]
 by_cases k:hZ E D=[]
 ·refine ⟨⟨9,ha,[],(gr c).aT,(gr c).cG,[],[],[],(gr c).c3⟩,vn ay B (by omega) rfl rfl (o.congr λX=>?_) C (.inl ⟨Ep ay F x λp a=>g p a (by rw [k];simp),an⟩)⟩;rw [if_pos k];exact vP B.2 rfl
 ·have j:vV E A (hZ E D):=by
   refine ⟨λp a=>?_,?_,λp a=>?_⟩
   ·obtain ⟨i,O,_⟩:=DA.1 a;exact cg O
   ·have:=AL (cv E 0) (bJ E) D (bJ E).length;have:=ay.lC;unfold hZ;omega
   ·by_cases l:p ∈ hZ E D
    ·exact .inl l
    ·exact .inr (g p a l)
  have r:Kp E c (G++[D]) (λX=>ft E c (gr c).aT (gr c).cG (gr c).c3 (jS E (hZ E D) X)):=o.congr λX=>by rw [if_neg k]
  by_cases z:E.n=1
  ·exact ⟨_,Cc ay B (.inl e) an (r.congr λX=>by rw [OB z]) C x (λm P Q=>by omega) j⟩
  ·refine ⟨⟨6,ha,[],(gr c).aT,(gr c).cG,[],hZ E D,[],(gr c).c3⟩,(mI (b:=6) (by omega) (by omega)),?_,⟨λ_=>an,λh=>(by have:6=8:=h;omega)⟩,rfl,λ_=>q2 (by show 3<=6;omega) (by show 6<=10;omega),λ_=>wd (by show 3<=6;omega) (by show 6<=8;omega),nF ay B (by show 6<=9;omega) r ?_ (vO (by omega) _) ?_⟩
   ·unfold cB;rw [eR];exact ⟨C,x,j,λq v d _ h=>by cases h⟩
   ·show (ft E c (gr c).aT (gr c).cG (gr c).c3 (jS E (hZ E D) [])).1.ask=_;rw [OC (by omega)];exact tl _
   ·rw [e];have:=Dw (E:=E) R.2 j.2.1;show cost (fG E (hZ E D))+98<=486/\(fG E (hZ E D)).length<=1024;omega
theorem Er (a:1<=m) (b:m<E.n):∃ q:Nat,(fG E l)[q]?=some (cw m 32 [c7 E]):=by
 have:cw m 32 [c7 E] ∈ fG E l:=by unfold fG;refine oO.2 ⟨_,cW.2 ⟨m - 1,fE.2 (by omega),rfl⟩,?_⟩;rw [show m - 1+1=m by omega];simp
 exact eF.1 this
theorem Ph (ay:b5 E) (F:1<=c/\c<6) (e:(gr c).aB=6) (o:cM E c (gr c)≠[]) (g:lx E (gr c)) (f:l4 E c (gr c)) (r:Kp E c G (ez E c (gr c))) (i:cB E rs A bz gr c) (u:kf E c (gr c) D):∃ s,iY E rs A bz gr c (G++[D]) s:=by
 have I:=ay.e.n;have b:cM E c (gr c)=fG E (gr c).l:=by unfold cM;rw [e];rfl
 have H:ez E c (gr c)=λX=>ft E c (gr c).aT (gr c).cG (gr c).c3 (jS E (gr c).l X):=by unfold ez;rw [e];rfl
 unfold cB at i;rw [e] at i;obtain ⟨w,x,y,z⟩:=i;have a:=u.fit;rw [b] at a;rw [H] at r;have C:1<E.n:=Nat.lt_of_not_le λh=>o (by rw [b];exact yW (by omega) _)
 refine ⟨_,Cc ay F (.inr e) (g.1 (by omega)) (r.next λX=>?_) w x (λm j k=>?_) y⟩
 ·show ft E c _ _ _ (jS E (gr c).l (D::X))=_;rw [ML C a]
 ·obtain ⟨q,t⟩:=Er (l:=(gr c).l) j k;obtain ⟨d,p,_⟩:=u.bs (q:=q) (by rw [b];exact t);obtain ⟨_,_,B,_⟩:=f q d p;exact (z q _ d t p B).2 m rfl
theorem OM (ay:b5 E) (o:1<=c/\c<6) (F:e2 E A) (e:(gr c).aB=7) (f:lx E (gr c)) (b:l4 E c (gr c)) (i:Kp E c G (ez E c (gr c))) (j:cB E rs A bz gr c) (u:kf E c (gr c) D):∃ s,iY E rs A bz gr c (G++[D]) s:=by
 have h:cM E c (gr c)=fV E (gr c).l:=by unfold cM;rw [e];rfl
 have H:ez E c (gr c)=λX=>ft E c (gr c).aT (gr c).cG (gr c).c3 (mg E (gr c).l X):=by unfold ez;rw [e];rfl
 unfold cB at j;rw [e] at j;obtain ⟨w,x,y,z,B⟩:=j;have a:=u.fit;rw [h] at a;rw [H] at i;refine ⟨⟨9,ha,[],(gr c).aT,(gr c).cG,[],[],[],(gr c).c3⟩,vn ay o (by omega) rfl rfl (i.next λX=>?_) w (.inl ⟨Ep ay F x λp r=>?_,f.1 (by omega)⟩)⟩
 ·show ft E c _ _ _ (mg E (gr c).l (D::X))=_;rw [MM a];exact vP o.2 rfl
 ·rcases z.2.2 p r with g | g
  ·obtain ⟨k,i⟩:=eF.1 g;have t:(fV E (gr c).l)[k+1]?=some (fz 0 p):=by unfold fV;rw [nO,d',i];rfl
   obtain ⟨d,n,_⟩:=u.bs (q:=k+1) (by rw [h];exact t);obtain ⟨_,_,C,_⟩:=b _ d n;exact (B _ _ d t n C).1 0 p r rfl
  ·exact g
theorem ON (ay:b5 E) (l:1<=c/\c<6) (e:(gr c).aB=8) (i:cM E c (gr c)≠[]) (f:lx E (gr c)) (n:Kp E c G (ez E c (gr c))) (h:cB E rs A bz gr c) (r:kf E c (gr c) D):∃ s,iY E rs A bz gr c (G++[D]) s:=by
 have b:cM E c (gr c)=ih (gr c).ev:=by unfold cM;rw [e];rfl
 have z:ez E c (gr c)=λX=>ft E c (gr c).aT (gr c).cG (gr c).c3 (nf (gr c).ev X):=by unfold ez;rw [e];rfl
 unfold cB at h;rw [e] at h;obtain ⟨k,t,u,B,C,w⟩:=h;have hu:(gr c).ev≠[]:=λx=>i (by rw [b,x];rfl)
 have a:=r.fit;rw [b] at a;rw [z] at n;refine ⟨⟨9,ha,[],(gr c).aT,(gr c).cG,[],[],[],(gr c).c3⟩,vn ay l (by omega) rfl rfl (n.next λX=>?_) k (.inr ⟨⟨k.1,t,λp j=>?_⟩,f.2 e⟩)⟩
 ·show ft E c _ _ _ (nf (gr c).ev (D::X))=_;rw [MN hu a];exact vP l.2 rfl
 ·rcases u with g | g
  ·obtain ⟨q,o⟩:=eF.1 (show p ∈ (gr c).ev by rw [g];exact j);obtain ⟨d,y,_⟩:=r.bs (q:=q) (v:=fR 0 (p.bn * 8) (eJ p.Head 0) p.Head) (by rw [b];unfold ih;rw [d',o];rfl);exact w q p d o y j
  ·exact g p j
theorem OO (ay:b5 E) (r:1<=c/\c<6) (e:(gr c).aB=9) (k:Kp E c G (ez E c (gr c))) (i:cB E rs A bz gr c) (l:kf E c (gr c) D):∃ s,iY E rs A bz gr c (G++[D]) s:=by
 have f:cM E c (gr c)=gF c:=by unfold cM;rw [e];rfl
 have t:ez E c (gr c)=m8 E c (gr c).aT (gr c).cG (gr c).c3:=by unfold ez;rw [e];rfl
 unfold cB at i;rw [e] at i;obtain ⟨n,u,o⟩:=i;have a:=l.fit;rw [f] at a;rw [t] at k;have j:=k.next λX=>MO a X
 obtain ⟨d,p,_⟩:=l.bs (q:=0) (v:=fR 0 49 (gy c) 0) (by rw [f];rfl);refine ⟨⟨10,ha,[],(gr c).aT,(gr c).cG,[],[],[],(gr c).c3⟩,(mI (b:=10) (by omega) (by omega)),?_,⟨λh=>(by have:10<=7:=h.2;omega),λh=>(by have:10=8:=h;omega)⟩,rfl,λ_=>q2 (by show 3<=10;omega) (by show 10<=10;omega),λh=>?_,.inr (.inl ⟨rfl,j.out ay r rfl rfl rfl⟩)⟩
 ·unfold cB;rw [eR];exact ⟨n,o⟩
 ·rcases h with ⟨g,_⟩ | ⟨w,x⟩ | ⟨_,g⟩
  ·omega
  ·omega
  ·rw [p] at g;cases g
theorem S9 (ay:b5 E) (d:1<=c/\c<6) (l:jv E A bz) (j:e2 E A) (k:(∃ p ∈ bJ E,A.bS 0 (bp p)=1)->h7 E A) (e:(gr c).aB<=9) (h:cM E c (gr c)≠[]) (a:lx E (gr c)) (i:l4 E c (gr c)) (f:Kp E c G (ez E c (gr c))) (b:cB E rs A bz gr c) (g:kf E c (gr c) D):∃ s,iY E rs A bz gr c (G++[D]) s:=by
 obtain e | e | e | e | e | e | e | e | e | e:(gr c).aB=0\/(gr c).aB=1\/(gr c).aB=2\/(gr c).aB=3\/(gr c).aB=4\/(gr c).aB=5\/(gr c).aB=6\/(gr c).aB=7\/(gr c).aB=8\/(gr c).aB=9:=by omega
 ·exact Pb ay d e f b g
 ·exact Pc ay d e h f b g
 ·exact Pd ay d e f b g
 ·exact Pe ay d l j k e f b g
 ·exact Pf ay d e h a f b g
 ·exact Pg ay d j e a f b g
 ·exact Ph ay d e h a i f b g
 ·exact OM ay d j e a i f b g
 ·exact ON ay d e h a f b g
 ·exact OO ay d e f b g
end
end
end Go.Proofs.YtmkljjbioomepaaGreat
