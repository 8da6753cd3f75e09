import Derived.Test.YtmkljjbioomepaaGreatd37
set_option linter.all false
namespace Go.Proofs.YtmkljjbioomepaaGreat
open Go.Proofs.Tryz Go.bs
variable {aV:List a8} {cO:Int} {l:List aK} {m:Nat} {s:c5} {c_:Int×Int}
section
open e7
theorem Fo {n:Nat} (hm:m<n):(gV n)[2 * m]?=some (cX m 24 1)/\(gV n)[2 * m+1]?=some (cX m 48 120):=by
 have c:∀ b ∈ (List.range n).map (λm=>[cX m 24 1,cX m 48 120]),b.length=2:=λb c=>by obtain ⟨m,_,rfl⟩:=cZ.1 c;rfl
 have f:((List.range n).map (λm=>[cX m 24 1,cX m 48 120])).flatten.length=2 * n:=by rw [qY c];simp [vr]
 have a:((List.range n).map (λm=>[cX m 24 1,cX m 48 120]))[m]?=some [cX m 24 1,cX m 48 120]:=by rw [dS,j6 hm];rfl
 have d:=te (r:=0) c a rfl;have e:=te (r:=1) c a rfl;unfold gV;rw [h3 (by omega),h3 (by omega),show 2 * m=m * 2+0 by omega,show m * 2+0+1=m * 2+1 by omega];exact ⟨d,e⟩
theorem Px (n:Nat):(gV n)[2 * n]?=some (cX 0 32 1):=by
 have a:∀ b ∈ (List.range n).map (λm=>[cX m 24 1,cX m 48 120]),b.length=2:=λb a=>by obtain ⟨m,_,rfl⟩:=cZ.1 a;rfl
 have c:((List.range n).map (λm=>[cX m 24 1,cX m 48 120])).flatten.length=2 * n:=by rw [qY a];simp [vr]
 unfold gV;rw [h4 (by omega),c,m3];rfl
theorem KP (l:a8) (a:Nat):((l.drop a).take 1).headD 0=l.getD a 0:=by rw [List.headD_eq_head?_getD,List.head?_take,if_neg (by omega),List.head?_drop,dq]
theorem Oh (E:Env) (A:bu):gk E A\/∃ m,m<E.n/\A.cM m=true:=by
 by_cases h:∃ m,m<E.n/\A.cM m=true
 ·exact .inr h
 ·refine .inl λm hm=>?_
  cases a:A.cM m with
  |false=>rfl
  |true=>exact absurd ⟨m,hm,a⟩ h
section
variable {E:Env} {rs:cT} {A:bu} {bp:List aN} {gr:Nat->c5} {c:Nat} {G:List (List aM)} {D:List aM}
theorem wj:m ∈ j2 E A↔m<E.n/\A.cM m=false:=by unfold j2;rw [tp,fs];simp
theorem Mr:(j2 E A).Nodup:=List.nodup_range.filter _
theorem Py (a:E.n<=5):(j2 E A).length<=5:=by have:=vA (λm=>!A.cM m) (List.range E.n);rw [lJ] at this;unfold j2;omega
theorem vd (a:3<=s.aC) (b:s.aC<=8):ie s:=.inr (.inl ⟨a,b⟩)
theorem re (a:3<=s.aC) (b:s.aC<=10):gR s:=.inr ⟨a,b⟩
theorem vR (ay:cg E) (k:1<=c/\c<6) (e:3<=(gr c).aC/\(gr c).aC<=8) (d:s.aC=9) (f:s.bt=hn) (l:Kp E c G (nA E c s.aV s.cO s.c_)) (j:Own E A c) (g:Fin E A s):jo E rs A bp gr c G s:=by
 have a:cW E c s=gS c:=by unfold cW;rw [d];rfl
 have i:eA E c s=nA E c s.aV s.cO s.c_:=by unfold eA;rw [d];rfl
 refine ⟨(by rw [d];exact mW (b:=9) (by omega) (by omega)),?_,⟨λh=>(by omega),λh=>(by omega)⟩,f,λ_=>re (by omega) (by omega),λ_=>.inr (.inr ⟨d,by rw [f];rfl⟩),n0 ay k (by omega) (by rw [i];exact l) (by rw [i,a];exact P4) (by rw [a];simp [gS]) ?_⟩
 ·unfold cI;rw [eS,d];exact ⟨j.1,λ_=>j.2,g⟩
 ·rw [a,d];have:=Oc (c:=c);have n:1<=g1 (gr c).aC:=by
   obtain e | e | e | e | e | e:(gr c).aC=3\/(gr c).aC=4\/(gr c).aC=5\/(gr c).aC=6\/(gr c).aC=7\/(gr c).aC=8:=by omega
   all_goals
    rw [e];first | exact cY _ | (show 1<=1063;omega) | (show 1<=498;omega) | (show 1<=486;omega) | (show 1<=98;omega)
  show cost (gS c)+0<=_/\(gS c).length<=1024;omega
theorem CW (ay:cg E) (a:1<=c/\c<6) (e:(gr c).aC=3\/(gr c).aC=4) (al:c_.1=2/\jT E.L cO aV=dd E+1) (f:Kp E c G (λX=>fJ E c aV cO c_ (kE E X))) (g:Own E A c) (hm:h5 E A):jo E rs A bp gr c G ⟨5,hn,[],aV,cO,[],[],[],c_⟩:=by
 refine ⟨(mW (b:=5) (by omega) (by omega)),?_,⟨λ_=>al,λh=>(by have:5=8:=h;omega)⟩,rfl,λ_=>re (by show 3<=5;omega) (by show 5<=10;omega),λ_=>vd (by show 3<=5;omega) (by show 5<=8;omega),n0 ay a (by show 5<=9;omega) f ?_ (z1 ay) ?_⟩
 ·unfold cI;rw [eS];exact ⟨g,hm,λq p d _ h=>by cases h⟩
 ·show (fJ E c aV cO c_ (kE E [])).1.ask=_;rw [PX ay];exact tH _
 ·have:=Of ay;have i:498<=g1 (gr c).aC:=by
   rcases e with e | e
   ·rw [e];show 498<=1063;omega
   ·rw [e];exact cY _
  show cost (gY (bM E))+486<=_/\(gY (bM E)).length<=1024;omega
theorem Qo (ay:cg E) (P:1<=c/\c<6) (Xz:jM E A bp) (r:e8 E A) (Xw:(∃ p ∈ bM E,A.bV 0 (br p)=1)->iu E A) (e:(gr c).aC=3) (R:Kp E c G (eA E c (gr c))) (W:cI E rs A bp gr c) (XA:kz E c (gr c) D):∃ s,jo E rs A bp gr c (G++[D]) s:=by
 have XF:=ay.e.n;have V:cW E c (gr c)=gV E.n:=by unfold cW;rw [e];rfl
 have XE:eA E c (gr c)=oA E c:=by unfold eA;rw [e];rfl
 unfold cI at W;rw [e] at W;obtain ⟨J,b2⟩:=W;have O:∀ {q:Nat} {v:aQ},(gV E.n)[q]?=some v->∃ d,D[q]?=some d/\d.words=rK bp v:=λ{q v} Y=>by obtain ⟨d,K,M⟩:=XA.bt (q:=q) (v:=v) (by rw [V];exact Y);exact ⟨d,M,b2 q v d Y K⟩
 have f:∀ m,m<E.n->∃ x,bp[m]?=some x/\Mem E A m x:=λm hm=>by obtain ⟨x,j⟩:∃ x,bp[m]?=some x:=⟨_,bE (by rw [Xz.len];exact hm)⟩;exact ⟨x,j,Xz.mem m x j⟩
 have o:∀ {m:Nat} {x:aN} (a k:Nat),bp[m]?=some x->rK bp (cX m (a:Int) (k:Int))=(x.words.drop a).take k:=λ{m x} a k j=>by unfold rK;rw [show (cX m (a:Int) (k:Int)).node.toNat=m from rfl,j];rfl
 have y:∀ {q m a:Nat},(gV E.n)[q]?=some (cX m (a:Int) 1)->∀ x,bp[m]?=some x->dv D q=x.get a:=λ{q m a} Y x j=>by obtain ⟨d,K,M⟩:=O Y;rw [vQ K];unfold eb;have:=o a 1 j;rw [M,show ((1:Int))=((1:Nat):Int) from rfl,this,KP];rfl
 have z:∀ i,i<E.n->dv D (2 * i)=2:=λi Xv=>by obtain ⟨x,j,hm⟩:=f i Xv;rw [y (a:=24) (Fo Xv).1 x j,hm.aU.d0,J.1 i Xv];rfl
 have Q:dv D (2 * E.n)=dd E\/dv D (2 * E.n)=E.fi 0:=by
  obtain ⟨x,j,hm⟩:=f 0 (by omega);rw [y (a:=32) (Px E.n) x j,hm.dJ];split
  ·exact .inl rfl
  ·exact .inr rfl
 have C:pe E A (m1 E.n D):=by
  refine ⟨by unfold m1;simp,λm L r=>?_⟩;unfold m1 at r;have hm:=b3 r;simp only [fZ,lJ] at hm;rw [dS,j6 hm] at r;simp only [mc,fg] at r;obtain ⟨x,j,S⟩:=f m hm;obtain ⟨d,K,M⟩:=O (Fo hm).2;have XD:L=uL x:=by rw [<-r,dq,K];show d.words=_;rw [M];exact o 48 120 j
  rw [XD];exact S.fz ay
 have w:=XA.fit;rw [V] at w;rw [XE] at R;have U:∀ X,oA E c (D::X)=fJ E c (m1 E.n D) (dv D (2 * E.n)) (hN (cC E c) (bg 0) (m1 E.n D) X).1 (hN (cC E c) (bg 0) (m1 E.n D) X).2:=λX=>Oy w z X
 generalize m1 E.n D=aV at *;generalize dv D (2 * E.n)=cO at *;rcases Oh E A with t | Xx
 ·obtain ⟨c_,eE,bG,XB,bq,XC,XG⟩:=Mm (c:=c) ay C t;have l:Kp E c (G++[D]) (λX=>fJ E c aV cO c_ (nE eE X)):=R.next λX=>by rw [U X,bG X]
  have u:eE=bM E\/∀ p ∈ bM E,A.bV 0 (br p)=0:=by
   by_cases N:iu E A
   ·exact .inl (bq N).1
   ·refine .inr λp I=>?_
    have W:=(r.cN 0 (by omega) p I).1;have K:A.bV 0 (br p)≠1:=λh=>N (Xw ⟨p,I,h⟩)
    have M:A.bV 0 (br p)≠2:=λh=>by have:=r.iM 0 (by omega) p I h 0 (by omega);rw [t 0 (by omega)] at this;cases this
    omega
  by_cases hu:eE=[]
  ·refine ⟨⟨9,hn,[],aV,cO,[],[],[],c_⟩,vR ay P (by omega) rfl rfl (l.congr λX=>?_) J (.inr ⟨⟨J.1,t,λp I=>?_⟩,XB⟩)⟩
   ·rw [hu,P1];exact wB P.2 rfl
   ·rcases u with g | g
    ·rw [hu] at g;rw [<-g] at I;cases I
    ·exact g p I
  ·refine ⟨⟨8,hn,[],aV,cO,[],[],eE,c_⟩,(mW (b:=8) (by omega) (by omega)),?_,⟨λh=>(by have:8<=7:=h.2;omega),λ_=>XB⟩,rfl,λ_=>re (by show 3<=8;omega) (by show 8<=10;omega),λ_=>vd (by show 3<=8;omega) (by show 8<=8;omega),n0 ay P (by show 8<=9;omega) l ?_ (by show iE eE≠[];unfold iE;simpa using hu) ?_⟩
   ·unfold cI;rw [eS];exact ⟨J,t,u,XC,XG,λq p d _ h=>by cases h⟩
   ·show (fJ E c aV cO c_ (nE eE [])).1.ask=_;rw [P2 hu];exact tH _
   ·rw [e];have:=Og XC;show cost (iE eE)+1<=1063/\(iE eE).length<=1024;omega
 ·obtain ⟨bS,F,H⟩:=Xx;obtain ⟨B,u⟩:=r.l2 bS F H;have T:jT E.L cO aV=dd E+1:=Qh ay C B Q;have l:Kp E c (G++[D]) (λX=>fJ E c aV cO (2,dd E) (kF E (j2 E A) X)):=R.next λX=>by rw [U X,Ml ay C B ⟨bS,F,H⟩]
  by_cases Z:j2 E A=[]
  ·refine ⟨_,CW ay P (.inl e) ⟨rfl,T⟩ (l.congr λX=>by rw [Z,Pi]) J λm hm=>?_⟩;cases N:A.cM m with
   |true=>rfl
   |false=>have:=wj.2 ⟨hm,N⟩;rw [Z] at this;cases this
  ·refine ⟨⟨4,hn,[],aV,cO,j2 E A,[],[],(2,dd E)⟩,(mW (b:=4) (by omega) (by omega)),?_,⟨λ_=>⟨rfl,T⟩,λh=>(by have:4=8:=h;omega)⟩,rfl,λ_=>re (by show 3<=4;omega) (by show 4<=10;omega),λ_=>vd (by show 3<=4;omega) (by show 4<=8;omega),n0 ay P (by show 4<=9;omega) l ?_ (z0 Z) ?_⟩
   ·unfold cI;rw [eS];refine ⟨J,B,⟨bS,F,H⟩,u,λm hm Xy=>?_,λm hm=>(wj.1 hm).1,Mr,λk m R _=>(wj.1 (b5 R)).2,λq m d _ h=>by cases h⟩;cases N:A.cM m with
    |true=>rfl
    |false=>exact absurd (wj.2 ⟨hm,N⟩) Xy
   ·show (fJ E c aV cO _ (kF E (j2 E A) [])).1.ask=_;rw [PW Z];exact tH _
   ·rw [e];have:=Oe ay (Py (A:=A) XF.2);show cost (gL E (j2 E A))+498<=1063/\(gL E (j2 E A)).length<=1024;omega
theorem Qp (ay:cg E) (z:1<=c/\c<6) (e:(gr c).aC=4) (n:cW E c (gr c)≠[]) (h:lN E (gr c)) (i:Kp E c G (eA E c (gr c))) (j:cI E rs A bp gr c) (p:kz E c (gr c) D):∃ s,jo E rs A bp gr c (G++[D]) s:=by
 have f:cW E c (gr c)=gL E (gr c).sp:=by unfold cW;rw [e];rfl
 have B:eA E c (gr c)=λX=>fJ E c (gr c).aV (gr c).cO (gr c).c_ (kF E (gr c).sp X):=by unfold eA;rw [e];rfl
 unfold cI at j;rw [e] at j;obtain ⟨t,b2,F,H,u,I,J,K,w⟩:=j;have C:(gr c).sp≠[]:=λx=>n (by rw [f,x];rfl)
 have a:=p.fit;rw [f] at a;rw [B] at i;refine ⟨_,CW ay z (.inr e) (h.1 (by omega)) (i.next λX=>?_) t λm hm=>?_⟩
 ·show fJ E c _ _ _ (kF E (gr c).sp (D::X))=_;rw [OD C a]
 ·by_cases g:m ∈ (gr c).sp
  ·obtain ⟨k,i⟩:=ei.1 g;have l:∀ b ∈ (gr c).sp.map (λm=>[cD m 48 [0],cD m 56 (g3 E),cD m 48 [il E]]),b.length=3:=λb l=>by obtain ⟨m,_,rfl⟩:=cZ.1 l;rfl
   have o:(gL E (gr c).sp)[k * 3+2]?=some (cD m 48 [il E]):=te (r:=2) l (by rw [dS,i];rfl) rfl;obtain ⟨d,y,_⟩:=p.bt (q:=k * 3+2) (by rw [f];exact o);exact w _ m d o y
  ·exact u m hm g
theorem EV {p:aK}:p ∈ ig E D↔∃ i,(bM E)[i]?=some p/\dv D i=eK p.Head 0:=by
 unfold ig gD;rw [o2];constructor
 ·rintro ⟨b,e,c⟩;obtain ⟨i,d,rfl⟩:=cZ.1 e;have d:=fs.1 d;unfold p5 at c;split at c
  ·rename_i aq;simp only [n3] at c;have a:(bM E)[i]?=some p:=by rw [c,dq,bE d];rfl
   exact ⟨i,a,by rw [c];exact aq⟩
  ·cases c
 ·rintro ⟨i,a,aq⟩;have d:=b3 a
  have f:(bM E).getD i hR=p:=by rw [dq,a];rfl
  refine ⟨_,cZ.2 ⟨i,fs.2 d,rfl⟩,?_⟩;unfold p5;rw [f,if_pos (show dv D i=eK p.Head (cC E 0).dead from aq)];exact List.mem_singleton_self p
theorem DN (ay:cg E) (g:1<=c/\c<6) (e:(gr c).aC=5\/(gr c).aC=6) (al:c_.1=2/\jT E.L cO aV=dd E+1) (i:Kp E c G (λX=>fJ E c aV cO c_ (my E l X))) (j:Own E A c) (hm:h5 E A) (f:qe E A) (a:wH E A l):jo E rs A bp gr c G ⟨7,hn,[],aV,cO,[],l,[],c_⟩:=by
 refine ⟨(mW (b:=7) (by omega) (by omega)),?_,⟨λ_=>al,λh=>(by have:7=8:=h;omega)⟩,rfl,λ_=>re (by show 3<=7;omega) (by show 7<=10;omega),λ_=>vd (by show 3<=7;omega) (by show 7<=8;omega),n0 ay g (by show 7<=9;omega) i ?_ (by show gd E l≠[];simp [gd]) ?_⟩
 ·unfold cI;rw [eS];exact ⟨j,hm,f,a,λq v d _ h=>by cases h⟩
 ·show (fJ E c aV cO c_ (my E l [])).1.ask=_;rw [P0];exact tH _
 ·have:=D' (E:=E) a.2.1;have k:98<=g1 (gr c).aC:=by
   rcases e with e | e
   ·rw [e];show 98<=486;omega
   ·rw [e];exact cY _
  show cost (gd E l)+1<=_/\(gd E l).length<=1024;omega
theorem Fp (ay:cg E) (c:e8 E A) (hm:h5 E A) (b:∀ p ∈ bM E,A.bV 0 (br p)=2):oa E A:=by
 obtain ⟨p,cl,eJ⟩:=rv ay.bQ.some_;have a:p ∈ bM E:=by show p ∈ (E.a9 0).writes;rw [eJ];exact eO
 exact ⟨hm,c.lX p a (b p a),b⟩
theorem Qq (ay:cg E) (z:1<=c/\c<6) (C:e8 E A) (e:(gr c).aC=5) (u:lN E (gr c)) (J:Kp E c G (eA E c (gr c))) (x:cI E rs A bp gr c) (K:kz E c (gr c) D):∃ s,jo E rs A bp gr c (G++[D]) s:=by
 have Q:=ay.e.n;have w:cW E c (gr c)=gY (bM E):=by unfold cW;rw [e];rfl
 have M:eA E c (gr c)=λX=>fJ E c (gr c).aV (gr c).cO (gr c).c_ (kE E X):=by unfold eA;rw [e];rfl
 unfold cI at x;rw [e] at x;obtain ⟨B,b2,L⟩:=x;have f:=K.fit;rw [w] at f;rw [M] at J;have al:=u.1 (show 4<=(gr c).aC/\(gr c).aC<=7 by omega);have F:∀ {q:Nat} {p:aK},(bM E)[q]?=some p->(dv D q=eK p.Head 0↔A.bV 0 (br p)=1):=λ{q p} t=>by obtain ⟨d,y,I⟩:=K.bt (q:=q) (v:=cX 0 (p.bm * 8) 1) (by rw [w];unfold gY;rw [dS,t];rfl);rw [vQ I];exact L q p d t y
 have g:∀ p ∈ bM E,p ∉ ig E D->A.bV 0 (br p)=2:=λp a H=>by
  obtain ⟨q,t⟩:=ei.1 a;have y:A.bV 0 (br p)≠1:=λh=>H (EV.2 ⟨q,t,(F t).2 h⟩)
  have x:=(C.l2 0 (by omega) (b2 0 (by omega))).2 p a;have I:=(C.cN 0 (by omega) p a).1;omega
 have o:Kp E c (G++[D]) (λX=>fJ E c (gr c).aV (gr c).cO (gr c).c_ (if ig E D=[] then sE D X else ka E (ig E D) X)):=J.next λX=>by show fJ E c _ _ _ (kE E (D::X))=_;rw [NZ ay f]
 by_cases k:ig E D=[]
 ·refine ⟨⟨9,hn,[],(gr c).aV,(gr c).cO,[],[],[],(gr c).c_⟩,vR ay z (by omega) rfl rfl (o.congr λX=>?_) B (.inl ⟨Fp ay C b2 λp a=>g p a (by rw [k];simp),al⟩)⟩;rw [if_pos k];exact wB z.2 rfl
 ·have j:wH E A (ig E D):=by
   refine ⟨λp a=>?_,?_,λp a=>?_⟩
   ·obtain ⟨i,N,_⟩:=EV.1 a;exact b5 N
   ·have:=BM (cC E 0) (bM E) D (bM E).length;have:=ay.lS;unfold ig;omega
   ·by_cases l:p ∈ ig E D
    ·exact .inl l
    ·exact .inr (g p a l)
  have r:Kp E c (G++[D]) (λX=>fJ E c (gr c).aV (gr c).cO (gr c).c_ (ka E (ig E D) X)):=o.congr λX=>by rw [if_neg k]
  by_cases y:E.n=1
  ·exact ⟨_,DN ay z (.inl e) al (r.congr λX=>by rw [PY y]) B b2 (λm O P=>by omega) j⟩
  ·refine ⟨⟨6,hn,[],(gr c).aV,(gr c).cO,[],ig E D,[],(gr c).c_⟩,(mW (b:=6) (by omega) (by omega)),?_,⟨λ_=>al,λh=>(by have:6=8:=h;omega)⟩,rfl,λ_=>re (by show 3<=6;omega) (by show 6<=10;omega),λ_=>vd (by show 3<=6;omega) (by show 6<=8;omega),n0 ay z (by show 6<=9;omega) r ?_ (wA (by omega) _) ?_⟩
   ·unfold cI;rw [eS];exact ⟨B,b2,j,λq v d _ h=>by cases h⟩
   ·show (fJ E c (gr c).aV (gr c).cO (gr c).c_ (ka E (ig E D) [])).1.ask=_;rw [PZ (by omega)];exact tH _
   ·rw [e];have:=Ea (E:=E) Q.2 j.2.1;show cost (fR E (ig E D))+98<=486/\(fR E (ig E D)).length<=1024;omega
theorem Fq (a:1<=m) (b:m<E.n):∃ q:Nat,(fR E l)[q]?=some (cD m 32 [dd E]):=by
 have:cD m 32 [dd E] ∈ fR E l:=by unfold fR;refine o2.2 ⟨_,cZ.2 ⟨m - 1,fs.2 (by omega),rfl⟩,?_⟩;rw [show m - 1+1=m by omega];simp
 exact ei.1 this
theorem Qr (ay:cg E) (C:1<=c/\c<6) (e:(gr c).aC=6) (o:cW E c (gr c)≠[]) (g:lN E (gr c)) (f:mh E c (gr c)) (r:Kp E c G (eA E c (gr c))) (i:cI E rs A bp gr c) (u:kz E c (gr c) D):∃ s,jo E rs A bp gr c (G++[D]) s:=by
 have H:=ay.e.n;have b:cW E c (gr c)=fR E (gr c).l:=by unfold cW;rw [e];rfl
 have F:eA E c (gr c)=λX=>fJ E c (gr c).aV (gr c).cO (gr c).c_ (ka E (gr c).l X):=by unfold eA;rw [e];rfl
 unfold cI at i;rw [e] at i;obtain ⟨w,b2,x,y⟩:=i;have a:=u.fit;rw [b] at a;rw [F] at r;have B:1<E.n:=Nat.lt_of_not_le λh=>o (by rw [b];exact zG (by omega) _)
 refine ⟨_,DN ay C (.inr e) (g.1 (by omega)) (r.next λX=>?_) w b2 (λm j k=>?_) x⟩
 ·show fJ E c _ _ _ (ka E (gr c).l (D::X))=_;rw [N0 B a]
 ·obtain ⟨q,t⟩:=Fq (l:=(gr c).l) j k;obtain ⟨d,p,_⟩:=u.bt (q:=q) (by rw [b];exact t);obtain ⟨_,_,z,_⟩:=f q d p;exact (y q _ d t p z).2 m rfl
theorem Qs (ay:cg E) (o:1<=c/\c<6) (C:e8 E A) (e:(gr c).aC=7) (f:lN E (gr c)) (b:mh E c (gr c)) (i:Kp E c G (eA E c (gr c))) (j:cI E rs A bp gr c) (u:kz E c (gr c) D):∃ s,jo E rs A bp gr c (G++[D]) s:=by
 have h:cW E c (gr c)=gd E (gr c).l:=by unfold cW;rw [e];rfl
 have F:eA E c (gr c)=λX=>fJ E c (gr c).aV (gr c).cO (gr c).c_ (my E (gr c).l X):=by unfold eA;rw [e];rfl
 unfold cI at j;rw [e] at j;obtain ⟨w,b2,x,y,z⟩:=j;have a:=u.fit;rw [h] at a;rw [F] at i;refine ⟨⟨9,hn,[],(gr c).aV,(gr c).cO,[],[],[],(gr c).c_⟩,vR ay o (by omega) rfl rfl (i.next λX=>?_) w (.inl ⟨Fp ay C b2 λp r=>?_,f.1 (by omega)⟩)⟩
 ·show fJ E c _ _ _ (my E (gr c).l (D::X))=_;rw [N1 a];exact wB o.2 rfl
 ·rcases y.2.2 p r with g | g
  ·obtain ⟨k,i⟩:=ei.1 g;have t:(gd E (gr c).l)[k+1]?=some (fO 0 p):=by unfold gd;rw [n4,dS,i];rfl
   obtain ⟨d,n,_⟩:=u.bt (q:=k+1) (by rw [h];exact t);obtain ⟨_,_,B,_⟩:=b _ d n;exact (z _ _ d t n B).1 0 p r rfl
  ·exact g
theorem Qt (ay:cg E) (l:1<=c/\c<6) (e:(gr c).aC=8) (i:cW E c (gr c)≠[]) (f:lN E (gr c)) (n:Kp E c G (eA E c (gr c))) (h:cI E rs A bp gr c) (r:kz E c (gr c) D):∃ s,jo E rs A bp gr c (G++[D]) s:=by
 have b:cW E c (gr c)=iE (gr c).eE:=by unfold cW;rw [e];rfl
 have y:eA E c (gr c)=λX=>fJ E c (gr c).aV (gr c).cO (gr c).c_ (nE (gr c).eE X):=by unfold eA;rw [e];rfl
 unfold cI at h;rw [e] at h;obtain ⟨k,b2,t,z,B,u⟩:=h;have hu:(gr c).eE≠[]:=λw=>i (by rw [b,w];rfl)
 have a:=r.fit;rw [b] at a;rw [y] at n;refine ⟨⟨9,hn,[],(gr c).aV,(gr c).cO,[],[],[],(gr c).c_⟩,vR ay l (by omega) rfl rfl (n.next λX=>?_) k (.inr ⟨⟨k.1,b2,λp j=>?_⟩,f.2 e⟩)⟩
 ·show fJ E c _ _ _ (nE (gr c).eE (D::X))=_;rw [N2 hu a];exact wB l.2 rfl
 ·rcases t with g | g
  ·obtain ⟨q,o⟩:=ei.1 (show p ∈ (gr c).eE by rw [g];exact j);obtain ⟨d,x,_⟩:=r.bt (q:=q) (v:=f8 0 (p.bm * 8) (eK p.Head 0) p.Head) (by rw [b];unfold iE;rw [dS,o];rfl);exact u q p d o x j
  ·exact g p j
theorem Qu (ay:cg E) (r:1<=c/\c<6) (e:(gr c).aC=9) (k:Kp E c G (eA E c (gr c))) (i:cI E rs A bp gr c) (l:kz E c (gr c) D):∃ s,jo E rs A bp gr c (G++[D]) s:=by
 have f:cW E c (gr c)=gS c:=by unfold cW;rw [e];rfl
 have t:eA E c (gr c)=nA E c (gr c).aV (gr c).cO (gr c).c_:=by unfold eA;rw [e];rfl
 unfold cI at i;rw [e] at i;obtain ⟨n,b2,o⟩:=i;have a:=l.fit;rw [f] at a;rw [t] at k;have j:=k.next λX=>NE a X
 obtain ⟨d,p,_⟩:=l.bt (q:=0) (v:=f8 0 49 (gK c) 0) (by rw [f];rfl);refine ⟨⟨10,hn,[],(gr c).aV,(gr c).cO,[],[],[],(gr c).c_⟩,(mW (b:=10) (by omega) (by omega)),?_,⟨λh=>(by have:10<=7:=h.2;omega),λh=>(by have:10=8:=h;omega)⟩,rfl,λ_=>re (by show 3<=10;omega) (by show 10<=10;omega),λh=>?_,.inr (.inl ⟨rfl,j.out ay r rfl rfl rfl⟩)⟩
 ·unfold cI;rw [eS];exact ⟨n,o⟩
 ·rcases h with ⟨g,_⟩ | ⟨u,w⟩ | ⟨_,g⟩
  ·omega
  ·omega
  ·rw [p] at g;cases g
theorem U4 (ay:cg E) (d:1<=c/\c<6) (l:jM E A bp) (j:e8 E A) (k:(∃ p ∈ bM E,A.bV 0 (br p)=1)->iu E A) (e:(gr c).aC<=9) (h:cW E c (gr c)≠[]) (a:lN E (gr c)) (i:mh E c (gr c)) (f:Kp E c G (eA E c (gr c))) (b:cI E rs A bp gr c) (g:kz E c (gr c) D):∃ s,jo E rs A bp gr c (G++[D]) s:=by
 obtain e | e | e | e | e | e | e | e | e | e:(gr c).aC=0\/(gr c).aC=1\/(gr c).aC=2\/(gr c).aC=3\/(gr c).aC=4\/(gr c).aC=5\/(gr c).aC=6\/(gr c).aC=7\/(gr c).aC=8\/(gr c).aC=9:=by omega
 ·exact Ql ay d e f b g
 ·exact Qm ay d e h f b g
 ·exact Qn ay d e f b g
 ·exact Qo ay d l j k e f b g
 ·exact Qp ay d e h a f b g
 ·exact Qq ay d j e a f b g
 ·exact Qr ay d e h a i f b g
 ·exact Qs ay d j e a i f b g
 ·exact Qt ay d e h a f b g
 ·exact Qu ay d e f b g
end
end
end Go.Proofs.YtmkljjbioomepaaGreat
