import Derived.Test.YtmkljjbioomepaaGreatb38
set_option linter.all false
namespace Go.Proofs.YtmkljjbioomepaaGreat
open Go.Proofs.Tryz Go.bu
variable {aT:List bd} {cH:Int} {l:List aK} {m:Nat} {s:c5} {c7:Int×Int}
section
open e7
theorem EK {n:Nat} (hm:m<n):(gK n)[2 * m]?=some (cR m 24 1)/\(gK n)[2 * m+1]?=some (cR m 48 120):=by
 have c:∀ b ∈ (List.range n).map (λm=>[cR m 24 1,cR m 48 120]),b.length=2:=λb c=>by obtain ⟨m,_,rfl⟩:=cT.1 c;rfl
 have f:((List.range n).map (λm=>[cR m 24 1,cR m 48 120])).flatten.length=2 * n:=by rw [qX c];simp [vb]
 have a:((List.range n).map (λm=>[cR m 24 1,cR m 48 120]))[m]?=some [cR m 24 1,cR m 48 120]:=by rw [dR,kk hm];rfl
 have d:=s9 (r:=0) c a rfl;have e:=s9 (r:=1) c a rfl;unfold gK;rw [hU (by omega),hU (by omega),show 2 * m=m * 2+0 by omega,show m * 2+0+1=m * 2+1 by omega];exact ⟨d,e⟩
theorem Oa (n:Nat):(gK n)[2 * n]?=some (cR 0 32 1):=by
 have a:∀ b ∈ (List.range n).map (λm=>[cR m 24 1,cR m 48 120]),b.length=2:=λb a=>by obtain ⟨m,_,rfl⟩:=cT.1 a;rfl
 have c:((List.range n).map (λm=>[cR m 24 1,cR m 48 120])).flatten.length=2 * n:=by rw [qX a];simp [vb]
 unfold gK;rw [hV (by omega),c,mV];rfl
theorem Kt (l:bd) (a:Nat):((l.drop a).take 1).headD 0=l.getD a 0:=by rw [List.headD_eq_head?_getD,List.head?_take,if_neg (by omega),List.head?_drop,dF]
theorem NZ (E:Env) (A:bt):f' E A\/∃ m,m<E.n/\A.cG m=true:=by
 by_cases h:∃ m,m<E.n/\A.cG m=true
 ·exact .inr h
 ·refine .inl λm hm=>?_
  cases a:A.cG m with
  |false=>rfl
  |true=>exact absurd ⟨m,hm,a⟩ h
section
variable {E:Env} {rs:cP} {A:bt} {bB:List aZ} {gr:Nat->c5} {c:Nat} {G:List (List aO)} {D:List aO}
theorem vX:m ∈ jN E A↔m<E.n/\A.cG m=false:=by unfold jN;rw [tk,fJ];simp
theorem L9:(jN E A).Nodup:=List.nodup_range.filter _
theorem Ob (a:E.n<=5):(jN E A).length<=5:=by have:=vi (λm=>!A.cG m) (List.range E.n);rw [ly] at this;unfold jN;omega
theorem u3 (a:3<=s.aB) (b:s.aB<=8):h6 s:=.inr (.inl ⟨a,b⟩)
theorem q_ (a:3<=s.aB) (b:s.aB<=10):gF s:=.inr ⟨a,b⟩
theorem vB (ay:b8 E) (k:1<=c/\c<6) (e:3<=(gr c).aB/\(gr c).aB<=8) (d:s.aB=9) (f:s.bw=ha) (l:Kp E c G (nk E c s.aT s.cH s.c7)) (j:Own E A c) (g:Fin E A s):jb E rs A bB gr c G s:=by
 have a:cO E c s=gG c:=by unfold cO;rw [d];rfl
 have i:eC E c s=nk E c s.aT s.cH s.c7:=by unfold eC;rw [d];rfl
 refine ⟨(by rw [d];exact mN (b:=9) (by omega) (by omega)),?_,⟨λh=>(by omega),λh=>(by omega)⟩,f,λ_=>q_ (by omega) (by omega),λ_=>.inr (.inr ⟨d,by rw [f];rfl⟩),nN ay k (by omega) (by rw [i];exact l) (by rw [i,a];exact Ow) (by rw [a];simp [gG]) ?_⟩
 ·unfold cC;rw [eT,d];exact ⟨j.1,λ_=>j.2,g⟩
 ·rw [a,d];have:=NU (c:=c);have n:1<=gQ (gr c).aB:=by
   obtain e | e | e | e | e | e:(gr c).aB=3\/(gr c).aB=4\/(gr c).aB=5\/(gr c).aB=6\/(gr c).aB=7\/(gr c).aB=8:=by omega
   all_goals
    rw [e];first | exact cQ _ | (show 1<=1063;omega) | (show 1<=498;omega) | (show 1<=486;omega) | (show 1<=98;omega)
  show cost (gG c)+0<=_/\(gG c).length<=1024;omega
theorem Cp (ay:b8 E) (a:1<=c/\c<6) (e:(gr c).aB=3\/(gr c).aB=4) (al:c7.1=2/\jG E.L cH aT=c_ E+1) (f:Kp E c G (λX=>fA E c aT cH c7 (ks E X))) (g:Own E A c) (hm:hX E A):jb E rs A bB gr c G ⟨5,ha,[],aT,cH,[],[],[],c7⟩:=by
 refine ⟨(mN (b:=5) (by omega) (by omega)),?_,⟨λ_=>al,λh=>(by have:5=8:=h;omega)⟩,rfl,λ_=>q_ (by show 3<=5;omega) (by show 5<=10;omega),λ_=>u3 (by show 3<=5;omega) (by show 5<=8;omega),nN ay a (by show 5<=9;omega) f ?_ (zB ay) ?_⟩
 ·unfold cC;rw [eT];exact ⟨g,hm,λq p d _ h=>by cases h⟩
 ·show (fA E c aT cH c7 (ks E [])).1.ask=_;rw [Om ay];exact tx _
 ·have:=NX ay;have i:498<=gQ (gr c).aB:=by
   rcases e with e | e
   ·rw [e];show 498<=1063;omega
   ·rw [e];exact cQ _
  show cost (gM (bI E))+486<=_/\(gM (bI E)).length<=1024;omega
theorem Pg (ay:b8 E) (P:1<=c/\c<6) (V6:jA E A bB) (r:e8 E A) (V3:(∃ p ∈ bI E,A.bQ 0 (br p)=1)->ia E A) (e:(gr c).aB=3) (R:Kp E c G (eC E c (gr c))) (W:cC E rs A bB gr c) (V7:kn E c (gr c) D):∃ s,jb E rs A bB gr c (G++[D]) s:=by
 have Wa:=ay.e.n;have V:cO E c (gr c)=gK E.n:=by unfold cO;rw [e];rfl
 have V':eC E c (gr c)=ow E c:=by unfold eC;rw [e];rfl
 unfold cC at W;rw [e] at W;obtain ⟨J,b0⟩:=W;have O:∀ {q:Nat} {v:aW},(gK E.n)[q]?=some v->∃ d,D[q]?=some d/\d.words=rC bB v:=λ{q v} Y=>by obtain ⟨d,K,M⟩:=V7.bw (q:=q) (v:=v) (by rw [V];exact Y);exact ⟨d,M,b0 q v d Y K⟩
 have f:∀ m,m<E.n->∃ x,bB[m]?=some x/\Mem E A m x:=λm hm=>by obtain ⟨x,j⟩:∃ x,bB[m]?=some x:=⟨_,bD (by rw [V6.len];exact hm)⟩;exact ⟨x,j,V6.mem m x j⟩
 have o:∀ {m:Nat} {x:aZ} (a k:Nat),bB[m]?=some x->rC bB (cR m (a:Int) (k:Int))=(x.words.drop a).take k:=λ{m x} a k j=>by unfold rC;rw [show (cR m (a:Int) (k:Int)).node.toNat=m from rfl,j];rfl
 have y:∀ {q m a:Nat},(gK E.n)[q]?=some (cR m (a:Int) 1)->∀ x,bB[m]?=some x->dx D q=x.get a:=λ{q m a} Y x j=>by obtain ⟨d,K,M⟩:=O Y;rw [vA K];unfold d8;have:=o a 1 j;rw [M,show ((1:Int))=((1:Nat):Int) from rfl,this,Kt];rfl
 have z:∀ i,i<E.n->dx D (2 * i)=2:=λi V2=>by obtain ⟨x,j,hm⟩:=f i V2;rw [y (a:=24) (EK V2).1 x j,hm.aP.d0,J.1 i V2];rfl
 have Q:dx D (2 * E.n)=c_ E\/dx D (2 * E.n)=E.ff 0:=by
  obtain ⟨x,j,hm⟩:=f 0 (by omega);rw [y (a:=32) (Oa E.n) x j,hm.dJ];split
  ·exact .inl rfl
  ·exact .inr rfl
 have C:o9 E A (m2 E.n D):=by
  refine ⟨by unfold m2;simp,λm L r=>?_⟩;unfold m2 at r;have hm:=cb r;simp only [ft,ly] at hm;rw [dR,kk hm] at r;simp only [mW,fe] at r;obtain ⟨x,j,S⟩:=f m hm;obtain ⟨d,K,M⟩:=O (EK hm).2;have V_:L=uC x:=by rw [<-r,dF,K];show d.words=_;rw [M];exact o 48 120 j
  rw [V_];exact S.fq ay
 have w:=V7.fit;rw [V] at w;rw [V'] at R;have U:∀ X,ow E c (D::X)=fA E c (m2 E.n D) (dx D (2 * E.n)) (hD (cw E c) (bg 0) (m2 E.n D) X).1 (hD (cw E c) (bg 0) (m2 E.n D) X).2:=λX=>M4 w z X
 generalize m2 E.n D=aT at *;generalize dx D (2 * E.n)=cH at *;rcases NZ E A with t | V4
 ·obtain ⟨c7,eG,bE,V8,bk,V9,Wb⟩:=L4 (c:=c) ay C t;have l:Kp E c (G++[D]) (λX=>fA E c aT cH c7 (nr eG X)):=R.next λX=>by rw [U X,bE X]
  have u:eG=bI E\/∀ p ∈ bI E,A.bQ 0 (br p)=0:=by
   by_cases N:ia E A
   ·exact .inl (bk N).1
   ·refine .inr λp I=>?_
    have W:=(r.cY 0 (by omega) p I).1;have K:A.bQ 0 (br p)≠1:=λh=>N (V3 ⟨p,I,h⟩)
    have M:A.bQ 0 (br p)≠2:=λh=>by have:=r.iC 0 (by omega) p I h 0 (by omega);rw [t 0 (by omega)] at this;cases this
    omega
  by_cases hu:eG=[]
  ·refine ⟨⟨9,ha,[],aT,cH,[],[],[],c7⟩,vB ay P (by omega) rfl rfl (l.congr λX=>?_) J (.inr ⟨⟨J.1,t,λp I=>?_⟩,V8⟩)⟩
   ·rw [hu,Ot];exact wg P.2 rfl
   ·rcases u with g | g
    ·rw [hu] at g;rw [<-g] at I;cases I
    ·exact g p I
  ·refine ⟨⟨8,ha,[],aT,cH,[],[],eG,c7⟩,(mN (b:=8) (by omega) (by omega)),?_,⟨λh=>(by have:8<=7:=h.2;omega),λ_=>V8⟩,rfl,λ_=>q_ (by show 3<=8;omega) (by show 8<=10;omega),λ_=>u3 (by show 3<=8;omega) (by show 8<=8;omega),nN ay P (by show 8<=9;omega) l ?_ (by show ir eG≠[];unfold ir;simpa using hu) ?_⟩
   ·unfold cC;rw [eT];exact ⟨J,t,u,V9,Wb,λq p d _ h=>by cases h⟩
   ·show (fA E c aT cH c7 (nr eG [])).1.ask=_;rw [Ou hu];exact tx _
   ·rw [e];have:=NY V9;show cost (ir eG)+1<=1063/\(ir eG).length<=1024;omega
 ·obtain ⟨bN,F,H⟩:=V4;obtain ⟨B,u⟩:=r.l2 bN F H;have T:jG E.L cH aT=c_ E+1:=Pa ay C B Q;have l:Kp E c (G++[D]) (λX=>fA E c aT cH (2,c_ E) (kt E (jN E A) X)):=R.next λX=>by rw [U X,L3 ay C B ⟨bN,F,H⟩]
  by_cases Z:jN E A=[]
  ·refine ⟨_,Cp ay P (.inl e) ⟨rfl,T⟩ (l.congr λX=>by rw [Z,Ok]) J λm hm=>?_⟩;cases N:A.cG m with
   |true=>rfl
   |false=>have:=vX.2 ⟨hm,N⟩;rw [Z] at this;cases this
  ·refine ⟨⟨4,ha,[],aT,cH,jN E A,[],[],(2,c_ E)⟩,(mN (b:=4) (by omega) (by omega)),?_,⟨λ_=>⟨rfl,T⟩,λh=>(by have:4=8:=h;omega)⟩,rfl,λ_=>q_ (by show 3<=4;omega) (by show 4<=10;omega),λ_=>u3 (by show 3<=4;omega) (by show 4<=8;omega),nN ay P (by show 4<=9;omega) l ?_ (zA Z) ?_⟩
   ·unfold cC;rw [eT];refine ⟨J,B,⟨bN,F,H⟩,u,λm hm V5=>?_,λm hm=>(vX.1 hm).1,L9,λk m R _=>(vX.1 (b7 R)).2,λq m d _ h=>by cases h⟩;cases N:A.cG m with
    |true=>rfl
    |false=>exact absurd (vX.2 ⟨hm,N⟩) V5
   ·show (fA E c aT cH _ (kt E (jN E A) [])).1.ask=_;rw [Ol Z];exact tx _
   ·rw [e];have:=NW ay (Ob (A:=A) Wa.2);show cost (gB E (jN E A))+498<=1063/\(gB E (jN E A)).length<=1024;omega
theorem Ph (ay:b8 E) (z:1<=c/\c<6) (e:(gr c).aB=4) (n:cO E c (gr c)≠[]) (h:lC E (gr c)) (i:Kp E c G (eC E c (gr c))) (j:cC E rs A bB gr c) (p:kn E c (gr c) D):∃ s,jb E rs A bB gr c (G++[D]) s:=by
 have f:cO E c (gr c)=gB E (gr c).sp:=by unfold cO;rw [e];rfl
 have B:eC E c (gr c)=λX=>fA E c (gr c).aT (gr c).cH (gr c).c7 (kt E (gr c).sp X):=by unfold eC;rw [e];rfl
 unfold cC at j;rw [e] at j;obtain ⟨t,b0,F,H,u,I,J,K,w⟩:=j;have C:(gr c).sp≠[]:=λx=>n (by rw [f,x];rfl)
 have a:=p.fit;rw [f] at a;rw [B] at i;refine ⟨_,Cp ay z (.inr e) (h.1 (by omega)) (i.next λX=>?_) t λm hm=>?_⟩
 ·show fA E c _ _ _ (kt E (gr c).sp (D::X))=_;rw [M9 C a]
 ·by_cases g:m ∈ (gr c).sp
  ·obtain ⟨k,i⟩:=eh.1 g;have l:∀ b ∈ (gr c).sp.map (λm=>[cx m 48 [0],cx m 56 (gS E),cx m 48 [h' E]]),b.length=3:=λb l=>by obtain ⟨m,_,rfl⟩:=cT.1 l;rfl
   have o:(gB E (gr c).sp)[k * 3+2]?=some (cx m 48 [h' E]):=s9 (r:=2) l (by rw [dR,i];rfl) rfl;obtain ⟨d,y,_⟩:=p.bw (q:=k * 3+2) (by rw [f];exact o);exact w _ m d o y
  ·exact u m hm g
theorem Er {p:aK}:p ∈ h7 E D↔∃ i,(bI E)[i]?=some p/\dx D i=eK p.Head 0:=by
 unfold h7 gq;rw [oW];constructor
 ·rintro ⟨b,e,c⟩;obtain ⟨i,d,rfl⟩:=cT.1 e;have d:=fJ.1 d;unfold pZ at c;split at c
  ·rename_i ar;simp only [n1] at c;have a:(bI E)[i]?=some p:=by rw [c,dF,bD d];rfl
   exact ⟨i,a,by rw [c];exact ar⟩
  ·cases c
 ·rintro ⟨i,a,ar⟩;have d:=cb a
  have f:(bI E).getD i hG=p:=by rw [dF,a];rfl
  refine ⟨_,cT.2 ⟨i,fJ.2 d,rfl⟩,?_⟩;unfold pZ;rw [f,if_pos (show dx D i=eK p.Head (cw E 0).dead from ar)];exact List.mem_singleton_self p
theorem Df (ay:b8 E) (g:1<=c/\c<6) (e:(gr c).aB=5\/(gr c).aB=6) (al:c7.1=2/\jG E.L cH aT=c_ E+1) (i:Kp E c G (λX=>fA E c aT cH c7 (mi E l X))) (j:Own E A c) (hm:hX E A) (f:qa E A) (a:wk E A l):jb E rs A bB gr c G ⟨7,ha,[],aT,cH,[],l,[],c7⟩:=by
 refine ⟨(mN (b:=7) (by omega) (by omega)),?_,⟨λ_=>al,λh=>(by have:7=8:=h;omega)⟩,rfl,λ_=>q_ (by show 3<=7;omega) (by show 7<=10;omega),λ_=>u3 (by show 3<=7;omega) (by show 7<=8;omega),nN ay g (by show 7<=9;omega) i ?_ (by show f0 E l≠[];simp [f0]) ?_⟩
 ·unfold cC;rw [eT];exact ⟨j,hm,f,a,λq v d _ h=>by cases h⟩
 ·show (fA E c aT cH c7 (mi E l [])).1.ask=_;rw [Oq];exact tx _
 ·have:=DN (E:=E) a.2.1;have k:98<=gQ (gr c).aB:=by
   rcases e with e | e
   ·rw [e];show 98<=486;omega
   ·rw [e];exact cQ _
  show cost (f0 E l)+1<=_/\(f0 E l).length<=1024;omega
theorem EL (ay:b8 E) (c:e8 E A) (hm:hX E A) (b:∀ p ∈ bI E,A.bQ 0 (br p)=2):n6 E A:=by
 obtain ⟨p,ch,eW⟩:=rm ay.bM.some_;have a:p ∈ bI E:=by show p ∈ (E.a6 0).writes;rw [eW];exact e2
 exact ⟨hm,c.lL p a (b p a),b⟩
theorem Pj (ay:b8 E) (z:1<=c/\c<6) (C:e8 E A) (e:(gr c).aB=5) (u:lC E (gr c)) (J:Kp E c G (eC E c (gr c))) (x:cC E rs A bB gr c) (K:kn E c (gr c) D):∃ s,jb E rs A bB gr c (G++[D]) s:=by
 have Q:=ay.e.n;have w:cO E c (gr c)=gM (bI E):=by unfold cO;rw [e];rfl
 have M:eC E c (gr c)=λX=>fA E c (gr c).aT (gr c).cH (gr c).c7 (ks E X):=by unfold eC;rw [e];rfl
 unfold cC at x;rw [e] at x;obtain ⟨B,b0,L⟩:=x;have f:=K.fit;rw [w] at f;rw [M] at J;have al:=u.1 (show 4<=(gr c).aB/\(gr c).aB<=7 by omega);have F:∀ {q:Nat} {p:aK},(bI E)[q]?=some p->(dx D q=eK p.Head 0↔A.bQ 0 (br p)=1):=λ{q p} t=>by obtain ⟨d,y,I⟩:=K.bw (q:=q) (v:=cR 0 (p.bo * 8) 1) (by rw [w];unfold gM;rw [dR,t];rfl);rw [vA I];exact L q p d t y
 have g:∀ p ∈ bI E,p ∉ h7 E D->A.bQ 0 (br p)=2:=λp a H=>by
  obtain ⟨q,t⟩:=eh.1 a;have y:A.bQ 0 (br p)≠1:=λh=>H (Er.2 ⟨q,t,(F t).2 h⟩)
  have x:=(C.l2 0 (by omega) (b0 0 (by omega))).2 p a;have I:=(C.cY 0 (by omega) p a).1;omega
 have o:Kp E c (G++[D]) (λX=>fA E c (gr c).aT (gr c).cH (gr c).c7 (if h7 E D=[] then su D X else j3 E (h7 E D) X)):=J.next λX=>by show fA E c _ _ _ (ks E (D::X))=_;rw [M_ ay f]
 by_cases k:h7 E D=[]
 ·refine ⟨⟨9,ha,[],(gr c).aT,(gr c).cH,[],[],[],(gr c).c7⟩,vB ay z (by omega) rfl rfl (o.congr λX=>?_) B (.inl ⟨EL ay C b0 λp a=>g p a (by rw [k];simp),al⟩)⟩;rw [if_pos k];exact wg z.2 rfl
 ·have j:wk E A (h7 E D):=by
   refine ⟨λp a=>?_,?_,λp a=>?_⟩
   ·obtain ⟨i,N,_⟩:=Er.1 a;exact b7 N
   ·have:=Bm (cw E 0) (bI E) D (bI E).length;have:=ay.lH;unfold h7;omega
   ·by_cases l:p ∈ h7 E D
    ·exact .inl l
    ·exact .inr (g p a l)
  have r:Kp E c (G++[D]) (λX=>fA E c (gr c).aT (gr c).cH (gr c).c7 (j3 E (h7 E D) X)):=o.congr λX=>by rw [if_neg k]
  by_cases y:E.n=1
  ·exact ⟨_,Df ay z (.inl e) al (r.congr λX=>by rw [On y]) B b0 (λm O P=>by omega) j⟩
  ·refine ⟨⟨6,ha,[],(gr c).aT,(gr c).cH,[],h7 E D,[],(gr c).c7⟩,(mN (b:=6) (by omega) (by omega)),?_,⟨λ_=>al,λh=>(by have:6=8:=h;omega)⟩,rfl,λ_=>q_ (by show 3<=6;omega) (by show 6<=10;omega),λ_=>u3 (by show 3<=6;omega) (by show 6<=8;omega),nN ay z (by show 6<=9;omega) r ?_ (we (by omega) _) ?_⟩
   ·unfold cC;rw [eT];exact ⟨B,b0,j,λq v d _ h=>by cases h⟩
   ·show (fA E c (gr c).aT (gr c).cH (gr c).c7 (j3 E (h7 E D) [])).1.ask=_;rw [Oo (by omega)];exact tx _
   ·rw [e];have:=DO (E:=E) Q.2 j.2.1;show cost (fK E (h7 E D))+98<=486/\(fK E (h7 E D)).length<=1024;omega
theorem EM (a:1<=m) (b:m<E.n):∃ q:Nat,(fK E l)[q]?=some (cx m 32 [c_ E]):=by
 have:cx m 32 [c_ E] ∈ fK E l:=by unfold fK;refine oW.2 ⟨_,cT.2 ⟨m - 1,fJ.2 (by omega),rfl⟩,?_⟩;rw [show m - 1+1=m by omega];simp
 exact eh.1 this
theorem Pk (ay:b8 E) (C:1<=c/\c<6) (e:(gr c).aB=6) (o:cO E c (gr c)≠[]) (g:lC E (gr c)) (f:l5 E c (gr c)) (r:Kp E c G (eC E c (gr c))) (i:cC E rs A bB gr c) (u:kn E c (gr c) D):∃ s,jb E rs A bB gr c (G++[D]) s:=by
 have H:=ay.e.n;have b:cO E c (gr c)=fK E (gr c).l:=by unfold cO;rw [e];rfl
 have F:eC E c (gr c)=λX=>fA E c (gr c).aT (gr c).cH (gr c).c7 (j3 E (gr c).l X):=by unfold eC;rw [e];rfl
 unfold cC at i;rw [e] at i;obtain ⟨w,b0,x,y⟩:=i;have a:=u.fit;rw [b] at a;rw [F] at r;have B:1<E.n:=Nat.lt_of_not_le λh=>o (by rw [b];exact zq (by omega) _)
 refine ⟨_,Df ay C (.inr e) (g.1 (by omega)) (r.next λX=>?_) w b0 (λm j k=>?_) x⟩
 ·show fA E c _ _ _ (j3 E (gr c).l (D::X))=_;rw [Na B a]
 ·obtain ⟨q,t⟩:=EM (l:=(gr c).l) j k;obtain ⟨d,p,_⟩:=u.bw (q:=q) (by rw [b];exact t);obtain ⟨_,_,z,_⟩:=f q d p;exact (y q _ d t p z).2 m rfl
theorem Pl (ay:b8 E) (o:1<=c/\c<6) (C:e8 E A) (e:(gr c).aB=7) (f:lC E (gr c)) (b:l5 E c (gr c)) (i:Kp E c G (eC E c (gr c))) (j:cC E rs A bB gr c) (u:kn E c (gr c) D):∃ s,jb E rs A bB gr c (G++[D]) s:=by
 have h:cO E c (gr c)=f0 E (gr c).l:=by unfold cO;rw [e];rfl
 have F:eC E c (gr c)=λX=>fA E c (gr c).aT (gr c).cH (gr c).c7 (mi E (gr c).l X):=by unfold eC;rw [e];rfl
 unfold cC at j;rw [e] at j;obtain ⟨w,b0,x,y,z⟩:=j;have a:=u.fit;rw [h] at a;rw [F] at i;refine ⟨⟨9,ha,[],(gr c).aT,(gr c).cH,[],[],[],(gr c).c7⟩,vB ay o (by omega) rfl rfl (i.next λX=>?_) w (.inl ⟨EL ay C b0 λp r=>?_,f.1 (by omega)⟩)⟩
 ·show fA E c _ _ _ (mi E (gr c).l (D::X))=_;rw [MK a];exact wg o.2 rfl
 ·rcases y.2.2 p r with g | g
  ·obtain ⟨k,i⟩:=eh.1 g;have t:(f0 E (gr c).l)[k+1]?=some (fG 0 p):=by unfold f0;rw [nY,dR,i];rfl
   obtain ⟨d,n,_⟩:=u.bw (q:=k+1) (by rw [h];exact t);obtain ⟨_,_,B,_⟩:=b _ d n;exact (z _ _ d t n B).1 0 p r rfl
  ·exact g
theorem Pm (ay:b8 E) (l:1<=c/\c<6) (e:(gr c).aB=8) (i:cO E c (gr c)≠[]) (f:lC E (gr c)) (n:Kp E c G (eC E c (gr c))) (h:cC E rs A bB gr c) (r:kn E c (gr c) D):∃ s,jb E rs A bB gr c (G++[D]) s:=by
 have b:cO E c (gr c)=ir (gr c).eG:=by unfold cO;rw [e];rfl
 have y:eC E c (gr c)=λX=>fA E c (gr c).aT (gr c).cH (gr c).c7 (nr (gr c).eG X):=by unfold eC;rw [e];rfl
 unfold cC at h;rw [e] at h;obtain ⟨k,b0,t,z,B,u⟩:=h;have hu:(gr c).eG≠[]:=λw=>i (by rw [b,w];rfl)
 have a:=r.fit;rw [b] at a;rw [y] at n;refine ⟨⟨9,ha,[],(gr c).aT,(gr c).cH,[],[],[],(gr c).c7⟩,vB ay l (by omega) rfl rfl (n.next λX=>?_) k (.inr ⟨⟨k.1,b0,λp j=>?_⟩,f.2 e⟩)⟩
 ·show fA E c _ _ _ (nr (gr c).eG (D::X))=_;rw [M2 hu a];exact wg l.2 rfl
 ·rcases t with g | g
  ·obtain ⟨q,o⟩:=eh.1 (show p ∈ (gr c).eG by rw [g];exact j);obtain ⟨d,x,_⟩:=r.bw (q:=q) (v:=fW 0 (p.bo * 8) (eK p.Head 0) p.Head) (by rw [b];unfold ir;rw [dR,o];rfl);exact u q p d o x j
  ·exact g p j
theorem OV (ay:b8 E) (r:1<=c/\c<6) (e:(gr c).aB=9) (k:Kp E c G (eC E c (gr c))) (i:cC E rs A bB gr c) (l:kn E c (gr c) D):∃ s,jb E rs A bB gr c (G++[D]) s:=by
 have f:cO E c (gr c)=gG c:=by unfold cO;rw [e];rfl
 have t:eC E c (gr c)=nk E c (gr c).aT (gr c).cH (gr c).c7:=by unfold eC;rw [e];rfl
 unfold cC at i;rw [e] at i;obtain ⟨n,b0,o⟩:=i;have a:=l.fit;rw [f] at a;rw [t] at k;have j:=k.next λX=>ML a X
 obtain ⟨d,p,_⟩:=l.bw (q:=0) (v:=fW 0 49 (gA c) 0) (by rw [f];rfl);refine ⟨⟨10,ha,[],(gr c).aT,(gr c).cH,[],[],[],(gr c).c7⟩,(mN (b:=10) (by omega) (by omega)),?_,⟨λh=>(by have:10<=7:=h.2;omega),λh=>(by have:10=8:=h;omega)⟩,rfl,λ_=>q_ (by show 3<=10;omega) (by show 10<=10;omega),λh=>?_,.inr (.inl ⟨rfl,j.out ay r rfl rfl rfl⟩)⟩
 ·unfold cC;rw [eT];exact ⟨n,o⟩
 ·rcases h with ⟨g,_⟩ | ⟨u,w⟩ | ⟨_,g⟩
  ·omega
  ·omega
  ·rw [p] at g;cases g
theorem Tu (ay:b8 E) (d:1<=c/\c<6) (l:jA E A bB) (j:e8 E A) (k:(∃ p ∈ bI E,A.bQ 0 (br p)=1)->ia E A) (e:(gr c).aB<=9) (h:cO E c (gr c)≠[]) (a:lC E (gr c)) (i:l5 E c (gr c)) (f:Kp E c G (eC E c (gr c))) (b:cC E rs A bB gr c) (g:kn E c (gr c) D):∃ s,jb E rs A bB gr c (G++[D]) s:=by
 obtain e | e | e | e | e | e | e | e | e | e:(gr c).aB=0\/(gr c).aB=1\/(gr c).aB=2\/(gr c).aB=3\/(gr c).aB=4\/(gr c).aB=5\/(gr c).aB=6\/(gr c).aB=7\/(gr c).aB=8\/(gr c).aB=9:=by omega
 ·exact Pd ay d e f b g
 ·exact Pe ay d e h f b g
 ·exact Pf ay d e f b g
 ·exact Pg ay d l j k e f b g
 ·exact Ph ay d e h a f b g
 ·exact Pj ay d j e a f b g
 ·exact Pk ay d e h a i f b g
 ·exact Pl ay d j e a i f b g
 ·exact Pm ay d e h a f b g
 ·exact OV ay d e f b g
end
end
end Go.Proofs.YtmkljjbioomepaaGreat
