import Derived.Test.YtmkljjbioomepaaGreata38
set_option linter.all false
namespace Go.Proofs.YtmkljjbioomepaaGreat
open Go.Proofs.Tryz Go.b8
variable {bj:List bR} {et:Int} {l:List a6} {m:Nat} {s:fa} {fh:Int×Int}
section
open iH
theorem aat {n:Nat} (hm:m<n):(lB n)[2 * m]?=some (eL m 24 1)/\(lB n)[2 * m+1]?=some (eL m 48 120):=by
 have ak:∀ b ∈ (List.range n).map (λm=>[eL m 24 1,eL m 48 120]),b.length=2:=λb ak=>by obtain ⟨m,_,rfl⟩:=eQ.1 ak;rfl
 have au:((List.range n).map (λm=>[eL m 24 1,eL m 48 120])).flatten.length=2 * n:=by rw [ER ak];simp [Mc]
 have ez:((List.range n).map (λm=>[eL m 24 1,eL m 48 120]))[m]?=some [eL m 24 1,eL m 48 120]:=by rw [gV,rM hm];rfl
 have aN:=H9 (r:=0) ak ez rfl;have af:=H9 (r:=1) ak ez rfl;unfold lB;rw [nA (by omega),nA (by omega),show 2 * m=m * 2+0 by omega,show m * 2+0+1=m * 2+1 by omega];exact ⟨aN,af⟩
theorem anf (n:Nat):(lB n)[2 * n]?=some (eL 0 32 1):=by
 have ak:∀ b ∈ (List.range n).map (λm=>[eL m 24 1,eL m 48 120]),b.length=2:=λb ak=>by obtain ⟨m,_,rfl⟩:=eQ.1 ak;rfl
 have au:((List.range n).map (λm=>[eL m 24 1,eL m 48 120])).flatten.length=2 * n:=by rw [ER ak];simp [Mc]
 unfold lB;rw [nB (by omega),au,xL];rfl
theorem aju (l:bR) (a:Nat):((l.drop a).take 1).headD 0=l.getD a 0:=by rw [List.headD_eq_head?_getD,List.head?_take,if_neg (by omega),List.head?_drop,gd]
theorem am3 (E:Env) (A:cd):ku E A\/∃ m,m<E.n/\A.eo m=true:=by
 by_cases h:∃ m,m<E.n/\A.eo m=true
 ·exact .inr h
 ·refine .inl λm hm=>?_
  cases ak:A.eo m with
  |false=>rfl
  |true=>exact absurd ⟨m,hm,ak⟩ h
section
variable {E:Env} {rs:eI} {A:cd} {cm:List bt} {gr:Nat->fa} {c:Nat} {G:List (List a_)} {D:List a_}
theorem M0:m ∈ qI E A↔m<E.n/\A.eo m=false:=by unfold qI;rw [Ik,jT];simp
theorem ala:(qI E A).Nodup:=List.nodup_range.filter _
theorem ang (aj:E.n<=5):(qI E A).length<=5:=by have:=Mj (λm=>!A.eo m) (List.range E.n);rw [ui] at this;unfold qI;omega
theorem LK (aL:3<=s.aQ) (hj:s.aQ<=8):nW s:=.inr (.inl ⟨aL,hj⟩)
theorem E7 (aL:3<=s.aQ) (hj:s.aQ<=10):lo s:=.inr ⟨aL,hj⟩
theorem MD (aI:di E) (ab:1<=c/\c<6) (e:3<=(gr c).aQ/\(gr c).aQ<=8) (aX:s.aQ=9) (GI:s.cf=mn) (J:Kp E c G (x' E c s.bj s.et s.fh)) (aq:Own E A c) (q_:Fin E A s):pC E rs A cm gr c G s:=by
 have eb:eH E c s=lq c:=by unfold eH;rw [aX];rfl
 have aJ:hG E c s=x' E c s.bj s.et s.fh:=by unfold hG;rw [aX];rfl
 refine ⟨(by rw [aX];exact wZ (b:=9) (by omega) (by omega)),?_,⟨λh=>(by omega),λh=>(by omega)⟩,GI,λ_=>E7 (by omega) (by omega),λ_=>.inr (.inr ⟨aX,by rw [GI];rfl⟩),yZ aI ab (by omega) (by rw [aJ];exact J) (by rw [aJ,eb];exact anz) (by rw [eb];simp [lq]) ?_⟩
 ·unfold ef;rw [h',aX];exact ⟨aq.1,λ_=>aq.2,q_⟩
 ·rw [eb,aX];have:=amY (c:=c);have al:1<=lI (gr c).aQ:=by
   obtain e | e | e | e | e | e:(gr c).aQ=3\/(gr c).aQ=4\/(gr c).aQ=5\/(gr c).aQ=6\/(gr c).aQ=7\/(gr c).aQ=8:=by omega
   all_goals
    rw [e];first | exact eJ _ | (show 1<=1063;omega) | (show 1<=498;omega) | (show 1<=486;omega) | (show 1<=98;omega)
  show cost (lq c)+0<=_/\(lq c).length<=1024;omega
theorem XW (aI:di E) (ab:1<=c/\c<6) (e:(gr c).aQ=3\/(gr c).aQ=4) (aw:fh.1=2/\qt E.L et bj=fl E+1) (J:Kp E c G (λX=>jF E c bj et fh (r4 E X))) (aq:Own E A c) (hm:nD E A):pC E rs A cm gr c G ⟨5,mn,[],bj,et,[],[],[],fh⟩:=by
 refine ⟨(wZ (b:=5) (by omega) (by omega)),?_,⟨λ_=>aw,λh=>(by have:5=8:=h;omega)⟩,rfl,λ_=>E7 (by show 3<=5;omega) (by show 5<=10;omega),λ_=>LK (by show 3<=5;omega) (by show 5<=8;omega),yZ aI ab (by show 5<=9;omega) J ?_ (Sc aI) ?_⟩
 ·unfold ef;rw [h'];exact ⟨aq,hm,λq p d _ h=>by cases h⟩
 ·show (jF E c bj et fh (r4 E [])).1.ask=_;rw [anr aI];exact Ix _
 ·have:=am1 aI;have al:498<=lI (gr c).aQ:=by
   rcases e with e | e
   ·rw [e];show 498<=1063;omega
   ·rw [e];exact eJ _
  show cost (lD (cA E))+486<=_/\(lD (cA E)).length<=1024;omega
theorem aog (aI:di E) (ab:1<=c/\c<6) (cC:qi E A cm) (bE:iI E A) (kg:(∃ p ∈ cA E,A.cO 0 (b9 p)=1)->n6 E A) (e:(gr c).aQ=3) (J:Kp E c G (hG E c (gr c))) (aN:ef E rs A cm gr c) (aA:rQ E c (gr c) D):∃ s,pC E rs A cm gr c (G++[D]) s:=by
 have aj:=aI.e.n;have eb:eH E c (gr c)=lB E.n:=by unfold eH;rw [e];rfl
 have aJ:hG E c (gr c)=zM E c:=by unfold hG;rw [e];rfl
 unfold ef at aN;rw [e] at aN;obtain ⟨dr,c2⟩:=aN;have ez:∀ {q:Nat} {v:bn},(lB E.n)[q]?=some v->∃ d,D[q]?=some d/\d.words=FK cm v:=λ{q v} aM=>by obtain ⟨d,af,al⟩:=aA.cf (q:=q) (v:=v) (by rw [eb];exact aM);exact ⟨d,al,c2 q v d aM af⟩
 have jb:∀ m,m<E.n->∃ x,cm[m]?=some x/\Mem E A m x:=λm hm=>by obtain ⟨x,ao⟩:∃ x,cm[m]?=some x:=⟨_,cp (by rw [cC.len];exact hm)⟩;exact ⟨x,ao,cC.mem m x ao⟩
 have O':∀ {m:Nat} {x:bt} (a k:Nat),cm[m]?=some x->FK cm (eL m (a:Int) (k:Int))=(x.words.drop a).take k:=λ{m x} a k ao=>by unfold FK;rw [show (eL m (a:Int) (k:Int)).node.toNat=m from rfl,ao];rfl
 have v8:∀ {q m a:Nat},(lB E.n)[q]?=some (eL m (a:Int) 1)->∀ x,cm[m]?=some x->fY D q=x.get a:=λ{q m a} aM x ao=>by obtain ⟨d,af,al⟩:=ez aM;rw [MC af];unfold gZ;have:=O' a 1 ao;rw [al,show ((1:Int))=((1:Nat):Int) from rfl,this,aju];rfl
 have aq4:∀ i,i<E.n->fY D (2 * i)=2:=λi aD=>by obtain ⟨x,ao,hm⟩:=jb i aD;rw [v8 (a:=24) (aat aD).1 x ao,hm.ba.d0,dr.1 i aD];rfl
 have BK:fY D (2 * E.n)=fl E\/fY D (2 * E.n)=E.iZ 0:=by
  obtain ⟨x,ao,hm⟩:=jb 0 (by omega);rw [v8 (a:=32) (anf E.n) x ao,hm.gq];split
  ·exact .inl rfl
  ·exact .inr rfl
 have pk:Bg E A (xR E.n D):=by
  refine ⟨by unfold xR;simp,λm L bE=>?_⟩;unfold xR at bE;have hm:=dy bE;simp only [jS,ui] at hm;rw [gV,rM hm] at bE;simp only [xM,iX] at bE;obtain ⟨x,ao,gj⟩:=jb m hm;obtain ⟨d,af,al⟩:=ez (aat hm).2;have bg:L=Lf x:=by rw [<-bE,gd,af];show d.words=_;rw [al];exact O' 48 120 ao
  rw [bg];exact gj.jw aI
 have gv:=aA.fit;rw [eb] at gv;rw [aJ] at J;have hS:∀ X,zM E c (D::X)=jF E c (xR E.n D) (fY D (2 * E.n)) (m3 (dU E c) (bV 0) (xR E.n D) X).1 (m3 (dU E c) (bV 0) (xR E.n D) X).2:=λX=>ama gv aq4 X
 generalize xR E.n D=bj at *;generalize fY D (2 * E.n)=et at *;rcases am3 E A with sk | T_
 ·obtain ⟨fh,hL,ct,cS,b2,c6,ff⟩:=ak7 (c:=c) aI pk sk;have dQ:Kp E c (G++[D]) (λX=>jF E c bj et fh (yd hL X)):=J.next λX=>by rw [hS X,ct X]
  have dH:hL=cA E\/∀ p ∈ cA E,A.cO 0 (b9 p)=0:=by
   by_cases ak:n6 E A
   ·exact .inl (b2 ak).1
   ·refine .inr λp ar=>?_
    have aN:=(bE.eU 0 (by omega) p ar).1;have af:A.cO 0 (b9 p)≠1:=λh=>ak (kg ⟨p,ar,h⟩)
    have al:A.cO 0 (b9 p)≠2:=λh=>by have:=bE.oS 0 (by omega) p ar h 0 (by omega);rw [sk 0 (by omega)] at this;cases this
    omega
  by_cases hu:hL=[]
  ·refine ⟨⟨9,mn,[],bj,et,[],[],[],fh⟩,MD aI ab (by omega) rfl rfl (dQ.congr λX=>?_) dr (.inr ⟨⟨dr.1,sk,λp ar=>?_⟩,cS⟩)⟩
   ·rw [hu,anv];exact Ng ab.2 rfl
   ·rcases dH with g | g
    ·rw [hu] at g;rw [<-g] at ar;cases ar
    ·exact g p ar
  ·refine ⟨⟨8,mn,[],bj,et,[],[],hL,fh⟩,(wZ (b:=8) (by omega) (by omega)),?_,⟨λh=>(by have:8<=7:=h.2;omega),λ_=>cS⟩,rfl,λ_=>E7 (by show 3<=8;omega) (by show 8<=10;omega),λ_=>LK (by show 3<=8;omega) (by show 8<=8;omega),yZ aI ab (by show 8<=9;omega) dQ ?_ (by show ox hL≠[];unfold ox;simpa using hu) ?_⟩
   ·unfold ef;rw [h'];exact ⟨dr,sk,dH,c6,ff,λq p d _ h=>by cases h⟩
   ·show (jF E c bj et fh (yd hL [])).1.ask=_;rw [anw hu];exact Ix _
   ·rw [e];have:=am2 c6;show cost (ox hL)+1<=1063/\(ox hL).length<=1024;omega
 ·obtain ⟨cI,lx,Aa⟩:=T_;obtain ⟨BW,dH⟩:=bE.l2 cI lx Aa;have Um:qt E.L et bj=fl E+1:=aoa aI pk BW BK;have dQ:Kp E c (G++[D]) (λX=>jF E c bj et (2,fl E) (r5 E (qI E A) X)):=J.next λX=>by rw [hS X,ak6 aI pk BW ⟨cI,lx,Aa⟩]
  by_cases aX:qI E A=[]
  ·refine ⟨_,XW aI ab (.inl e) ⟨rfl,Um⟩ (dQ.congr λX=>by rw [aX,anp]) dr λm hm=>?_⟩;cases ak:A.eo m with
   |true=>rfl
   |false=>have:=M0.2 ⟨hm,ak⟩;rw [aX] at this;cases this
  ·refine ⟨⟨4,mn,[],bj,et,qI E A,[],[],(2,fl E)⟩,(wZ (b:=4) (by omega) (by omega)),?_,⟨λ_=>⟨rfl,Um⟩,λh=>(by have:4=8:=h;omega)⟩,rfl,λ_=>E7 (by show 3<=4;omega) (by show 4<=10;omega),λ_=>LK (by show 3<=4;omega) (by show 4<=8;omega),yZ aI ab (by show 4<=9;omega) dQ ?_ (Sb aX) ?_⟩
   ·unfold ef;rw [h'];refine ⟨dr,BW,⟨cI,lx,Aa⟩,dH,λm hm fp=>?_,λm hm=>(M0.1 hm).1,ala,λk m J _=>(M0.1 (dn J)).2,λq m d _ h=>by cases h⟩;cases ak:A.eo m with
    |true=>rfl
    |false=>exact absurd (M0.2 ⟨hm,ak⟩) fp
   ·show (jF E c bj et _ (r5 E (qI E A) [])).1.ask=_;rw [anq aX];exact Ix _
   ·rw [e];have:=am0 aI (ang (A:=A) aj.2);show cost (lg E (qI E A))+498<=1063/\(lg E (qI E A)).length<=1024;omega
theorem aoh (aI:di E) (ab:1<=c/\c<6) (e:(gr c).aQ=4) (cj:eH E c (gr c)≠[]) (kW:um E (gr c)) (J:Kp E c G (hG E c (gr c))) (aN:ef E rs A cm gr c) (aA:rQ E c (gr c) D):∃ s,pC E rs A cm gr c (G++[D]) s:=by
 have eb:eH E c (gr c)=lg E (gr c).sp:=by unfold eH;rw [e];rfl
 have aJ:hG E c (gr c)=λX=>jF E c (gr c).bj (gr c).et (gr c).fh (r5 E (gr c).sp X):=by unfold hG;rw [e];rfl
 unfold ef at aN;rw [e] at aN;obtain ⟨dr,c2,eA,hE,jU,rT,vz,x4,Bp⟩:=aN;have aX:(gr c).sp≠[]:=λbg=>cj (by rw [eb,bg];rfl)
 have gv:=aA.fit;rw [eb] at gv;rw [aJ] at J;refine ⟨_,XW aI ab (.inr e) (kW.1 (by omega)) (J.next λX=>?_) dr λm hm=>?_⟩
 ·show jF E c _ _ _ (r5 E (gr c).sp (D::X))=_;rw [amf aX gv]
 ·by_cases gE:m ∈ (gr c).sp
  ·obtain ⟨k,J⟩:=hn.1 gE;have ak:∀ b ∈ (gr c).sp.map (λm=>[dV m 48 [0],dV m 56 (lK E),dV m 48 [n3 E]]),b.length=3:=λb ak=>by obtain ⟨m,_,rfl⟩:=eQ.1 ak;rfl
   have aM:(lg E (gr c).sp)[k * 3+2]?=some (dV m 48 [n3 E]):=H9 (r:=2) ak (by rw [gV,J];rfl) rfl;obtain ⟨d,af,_⟩:=aA.cf (q:=k * 3+2) (by rw [eb];exact aM);exact Bp _ m d aM af
  ·exact jU m hm gE
theorem Z3 {p:a6}:p ∈ nX E D↔∃ i,(cA E)[i]?=some p/\fY D i=ii p.Head 0:=by
 unfold nX k1;rw [A4];constructor
 ·rintro ⟨b,ak,ar⟩;obtain ⟨i,aD,rfl⟩:=eQ.1 ak;have aD:=jT.1 aD;unfold CS at ar;split at ar
  ·rename_i aC;simp only [zj] at ar;have ez:(cA E)[i]?=some p:=by rw [ar,gd,cp aD];rfl
   exact ⟨i,ez,by rw [ar];exact aC⟩
  ·cases ar
 ·rintro ⟨i,ez,aC⟩;have aD:=dy ez
  have a':(cA E).getD i nf=p:=by rw [gd,ez];rfl
  refine ⟨_,eQ.2 ⟨i,jT.2 aD,rfl⟩,?_⟩;unfold CS;rw [a',if_pos (show fY D i=ii p.Head (dU E 0).dead from aC)];exact List.mem_singleton_self p
theorem YO (aI:di E) (ab:1<=c/\c<6) (e:(gr c).aQ=5\/(gr c).aQ=6) (aw:fh.1=2/\qt E.L et bj=fl E+1) (J:Kp E c G (λX=>jF E c bj et fh (vO E l X))) (aq:Own E A c) (hm:nD E A) (ak:C2 E A) (au:Nk E A l):pC E rs A cm gr c G ⟨7,mn,[],bj,et,[],l,[],fh⟩:=by
 refine ⟨(wZ (b:=7) (by omega) (by omega)),?_,⟨λ_=>aw,λh=>(by have:7=8:=h;omega)⟩,rfl,λ_=>E7 (by show 3<=7;omega) (by show 7<=10;omega),λ_=>LK (by show 3<=7;omega) (by show 7<=8;omega),yZ aI ab (by show 7<=9;omega) J ?_ (by show kn E l≠[];simp [kn]) ?_⟩
 ·unfold ef;rw [h'];exact ⟨aq,hm,ak,au,λq v d _ h=>by cases h⟩
 ·show (jF E c bj et fh (vO E l [])).1.ask=_;rw [anu];exact Ix _
 ·have:=Zn (E:=E) au.2.1;have al:98<=lI (gr c).aQ:=by
   rcases e with e | e
   ·rw [e];show 98<=486;omega
   ·rw [e];exact eJ _
  show cost (kn E l)+1<=_/\(kn E l).length<=1024;omega
theorem aal (aI:di E) (bE:iI E A) (hm:nD E A) (ar:∀ p ∈ cA E,A.cO 0 (b9 p)=2):zq E A:=by
 obtain ⟨p,dA,ig⟩:=Fz aI.cH.some_;have kH:p ∈ cA E:=by show p ∈ (E.bG 0).writes;rw [ig];exact iA
 exact ⟨hm,bE.u2 p kH (ar p kH),ar⟩
theorem aoi (aI:di E) (ab:1<=c/\c<6) (bE:iI E A) (e:(gr c).aQ=5) (kW:um E (gr c)) (J:Kp E c G (hG E c (gr c))) (aN:ef E rs A cm gr c) (aA:rQ E c (gr c) D):∃ s,pC E rs A cm gr c (G++[D]) s:=by
 have aj:=aI.e.n;have eb:eH E c (gr c)=lD (cA E):=by unfold eH;rw [e];rfl
 have aJ:hG E c (gr c)=λX=>jF E c (gr c).bj (gr c).et (gr c).fh (r4 E X):=by unfold hG;rw [e];rfl
 unfold ef at aN;rw [e] at aN;obtain ⟨dr,c2,eA⟩:=aN;have gv:=aA.fit;rw [eb] at gv;rw [aJ] at J;have aw:=kW.1 (show 4<=(gr c).aQ/\(gr c).aQ<=7 by omega);have ez:∀ {q:Nat} {p:a6},(cA E)[q]?=some p->(fY D q=ii p.Head 0↔A.cO 0 (b9 p)=1):=λ{q p} aM=>by obtain ⟨d,af,al⟩:=aA.cf (q:=q) (v:=eL 0 (p.b5 * 8) 1) (by rw [eb];unfold lD;rw [gV,aM];rfl);rw [MC al];exact eA q p d aM af
 have adv:∀ p ∈ cA E,p ∉ nX E D->A.cO 0 (b9 p)=2:=λp ar fp=>by
  obtain ⟨q,aM⟩:=hn.1 ar;have af:A.cO 0 (b9 p)≠1:=λh=>fp (Z3.2 ⟨q,aM,(ez aM).2 h⟩)
  have aN:=(bE.l2 0 (by omega) (c2 0 (by omega))).2 p ar;have al:=(bE.eU 0 (by omega) p ar).1;omega
 have dQ:Kp E c (G++[D]) (λX=>jF E c (gr c).bj (gr c).et (gr c).fh (if nX E D=[] then Hq D X else q2 E (nX E D) X)):=J.next λX=>by show jF E c _ _ _ (r4 E (D::X))=_;rw [amg aI gv]
 by_cases gw:nX E D=[]
 ·refine ⟨⟨9,mn,[],(gr c).bj,(gr c).et,[],[],[],(gr c).fh⟩,MD aI ab (by omega) rfl rfl (dQ.congr λX=>?_) dr (.inl ⟨aal aI bE c2 λp ar=>adv p ar (by rw [gw];simp),aw⟩)⟩;rw [if_pos gw];exact Ng ab.2 rfl
 ·have yu:Nk E A (nX E D):=by
   refine ⟨λp ar=>?_,?_,λp ar=>?_⟩
   ·obtain ⟨i,aD,_⟩:=Z3.1 ar;exact dn aD
   ·have:=WL (dU E 0) (cA E) D (cA E).length;have:=aI.ux;unfold nX;omega
   ·by_cases gE:p ∈ nX E D
    ·exact .inl gE
    ·exact .inr (adv p ar gE)
  have eN:Kp E c (G++[D]) (λX=>jF E c (gr c).bj (gr c).et (gr c).fh (q2 E (nX E D) X)):=dQ.congr λX=>by rw [if_neg gw]
  by_cases af:E.n=1
  ·exact ⟨_,YO aI ab (.inl e) aw (eN.congr λX=>by rw [ans af]) dr c2 (λm z8 z9=>by omega) yu⟩
  ·refine ⟨⟨6,mn,[],(gr c).bj,(gr c).et,[],nX E D,[],(gr c).fh⟩,(wZ (b:=6) (by omega) (by omega)),?_,⟨λ_=>aw,λh=>(by have:6=8:=h;omega)⟩,rfl,λ_=>E7 (by show 3<=6;omega) (by show 6<=10;omega),λ_=>LK (by show 3<=6;omega) (by show 6<=8;omega),yZ aI ab (by show 6<=9;omega) eN ?_ (Nf (by omega) _) ?_⟩
   ·unfold ef;rw [h'];exact ⟨dr,c2,yu,λq v d _ h=>by cases h⟩
   ·show (jF E c (gr c).bj (gr c).et (gr c).fh (q2 E (nX E D) [])).1.ask=_;rw [ant (by omega)];exact Ix _
   ·rw [e];have:=Zo (E:=E) aj.2 yu.2.1;show cost (jV E (nX E D))+98<=486/\(jV E (nX E D)).length<=1024;omega
theorem aam (af:1<=m) (al:m<E.n):∃ q:Nat,(jV E l)[q]?=some (dV m 32 [fl E]):=by
 have:dV m 32 [fl E] ∈ jV E l:=by unfold jV;refine A4.2 ⟨_,eQ.2 ⟨m - 1,jT.2 (by omega),rfl⟩,?_⟩;rw [show m - 1+1=m by omega];simp
 exact hn.1 this
theorem aoj (aI:di E) (ab:1<=c/\c<6) (e:(gr c).aQ=6) (cj:eH E c (gr c)≠[]) (kW:um E (gr c)) (wc:vu E c (gr c)) (J:Kp E c G (hG E c (gr c))) (aN:ef E rs A cm gr c) (aA:rQ E c (gr c) D):∃ s,pC E rs A cm gr c (G++[D]) s:=by
 have aj:=aI.e.n;have eb:eH E c (gr c)=jV E (gr c).l:=by unfold eH;rw [e];rfl
 have aJ:hG E c (gr c)=λX=>jF E c (gr c).bj (gr c).et (gr c).fh (q2 E (gr c).l X):=by unfold hG;rw [e];rfl
 unfold ef at aN;rw [e] at aN;obtain ⟨dr,c2,eA,hE⟩:=aN;have gv:=aA.fit;rw [eb] at gv;rw [aJ] at J;have af:1<E.n:=Nat.lt_of_not_le λh=>cj (by rw [eb];exact R2 (by omega) _)
 refine ⟨_,YO aI ab (.inr e) (kW.1 (by omega)) (J.next λX=>?_) dr c2 (λm z8 z9=>?_) eA⟩
 ·show jF E c _ _ _ (q2 E (gr c).l (D::X))=_;rw [amh af gv]
 ·obtain ⟨q,aM⟩:=aam (l:=(gr c).l) z8 z9;obtain ⟨d,bs,_⟩:=aA.cf (q:=q) (by rw [eb];exact aM);obtain ⟨_,_,bI,_⟩:=wc q d bs;exact (hE q _ d aM bs bI).2 m rfl
theorem aok (aI:di E) (ab:1<=c/\c<6) (bE:iI E A) (e:(gr c).aQ=7) (kW:um E (gr c)) (wc:vu E c (gr c)) (J:Kp E c G (hG E c (gr c))) (aN:ef E rs A cm gr c) (aA:rQ E c (gr c) D):∃ s,pC E rs A cm gr c (G++[D]) s:=by
 have eb:eH E c (gr c)=kn E (gr c).l:=by unfold eH;rw [e];rfl
 have aJ:hG E c (gr c)=λX=>jF E c (gr c).bj (gr c).et (gr c).fh (vO E (gr c).l X):=by unfold hG;rw [e];rfl
 unfold ef at aN;rw [e] at aN;obtain ⟨dr,c2,Sv,eA,hE⟩:=aN;have gv:=aA.fit;rw [eb] at gv;rw [aJ] at J;refine ⟨⟨9,mn,[],(gr c).bj,(gr c).et,[],[],[],(gr c).fh⟩,MD aI ab (by omega) rfl rfl (J.next λX=>?_) dr (.inl ⟨aal aI bE c2 λp ar=>?_,kW.1 (by omega)⟩)⟩
 ·show jF E c _ _ _ (vO E (gr c).l (D::X))=_;rw [ami gv];exact Ng ab.2 rfl
 ·rcases eA.2.2 p ar with g | g
  ·obtain ⟨k,J⟩:=hn.1 g;have aM:(kn E (gr c).l)[k+1]?=some (jO 0 p):=by unfold kn;rw [zg,gV,J];rfl
   obtain ⟨d,bs,_⟩:=aA.cf (q:=k+1) (by rw [eb];exact aM);obtain ⟨_,_,bI,_⟩:=wc _ d bs;exact (hE _ _ d aM bs bI).1 0 p ar rfl
  ·exact g
theorem aol (aI:di E) (ab:1<=c/\c<6) (e:(gr c).aQ=8) (cj:eH E c (gr c)≠[]) (kW:um E (gr c)) (J:Kp E c G (hG E c (gr c))) (aN:ef E rs A cm gr c) (aA:rQ E c (gr c) D):∃ s,pC E rs A cm gr c (G++[D]) s:=by
 have eb:eH E c (gr c)=ox (gr c).hL:=by unfold eH;rw [e];rfl
 have aJ:hG E c (gr c)=λX=>jF E c (gr c).bj (gr c).et (gr c).fh (yd (gr c).hL X):=by unfold hG;rw [e];rfl
 unfold ef at aN;rw [e] at aN;obtain ⟨dr,c2,eA,hE,jU,rT⟩:=aN;have hu:(gr c).hL≠[]:=λbg=>cj (by rw [eb,bg];rfl)
 have gv:=aA.fit;rw [eb] at gv;rw [aJ] at J;refine ⟨⟨9,mn,[],(gr c).bj,(gr c).et,[],[],[],(gr c).fh⟩,MD aI ab (by omega) rfl rfl (J.next λX=>?_) dr (.inr ⟨⟨dr.1,c2,λp ar=>?_⟩,kW.2 e⟩)⟩
 ·show jF E c _ _ _ (yd (gr c).hL (D::X))=_;rw [alT hu gv];exact Ng ab.2 rfl
 ·rcases eA with g | g
  ·obtain ⟨q,aM⟩:=hn.1 (show p ∈ (gr c).hL by rw [g];exact ar);obtain ⟨d,bs,_⟩:=aA.cf (q:=q) (v:=kc 0 (p.b5 * 8) (ii p.Head 0) p.Head) (by rw [eb];unfold ox;rw [gV,aM];rfl);exact rT q p d aM bs ar
  ·exact g p ar
theorem aom (aI:di E) (ab:1<=c/\c<6) (e:(gr c).aQ=9) (J:Kp E c G (hG E c (gr c))) (aN:ef E rs A cm gr c) (aA:rQ E c (gr c) D):∃ s,pC E rs A cm gr c (G++[D]) s:=by
 have eb:eH E c (gr c)=lq c:=by unfold eH;rw [e];rfl
 have aJ:hG E c (gr c)=x' E c (gr c).bj (gr c).et (gr c).fh:=by unfold hG;rw [e];rfl
 unfold ef at aN;rw [e] at aN;obtain ⟨dr,c2,eA⟩:=aN;have gv:=aA.fit;rw [eb] at gv;rw [aJ] at J;have dQ:=J.next λX=>M2 gv X
 obtain ⟨d,bs,_⟩:=aA.cf (q:=0) (v:=kc 0 49 (lf c) 0) (by rw [eb];rfl);refine ⟨⟨10,mn,[],(gr c).bj,(gr c).et,[],[],[],(gr c).fh⟩,(wZ (b:=10) (by omega) (by omega)),?_,⟨λh=>(by have:10<=7:=h.2;omega),λh=>(by have:10=8:=h;omega)⟩,rfl,λ_=>E7 (by show 3<=10;omega) (by show 10<=10;omega),λh=>?_,.inr (.inl ⟨rfl,dQ.out aI ab rfl rfl rfl⟩)⟩
 ·unfold ef;rw [h'];exact ⟨dr,eA⟩
 ·rcases h with ⟨g,_⟩ | ⟨bI,dd⟩ | ⟨_,g⟩
  ·omega
  ·omega
  ·rw [bs] at g;cases g
theorem ax2 (aI:di E) (ab:1<=c/\c<6) (cC:qi E A cm) (bE:iI E A) (kg:(∃ p ∈ cA E,A.cO 0 (b9 p)=1)->n6 E A) (e:(gr c).aQ<=9) (cj:eH E c (gr c)≠[]) (kW:um E (gr c)) (wc:vu E c (gr c)) (J:Kp E c G (hG E c (gr c))) (aN:ef E rs A cm gr c) (aA:rQ E c (gr c) D):∃ s,pC E rs A cm gr c (G++[D]) s:=by
 obtain e | e | e | e | e | e | e | e | e | e:(gr c).aQ=0\/(gr c).aQ=1\/(gr c).aQ=2\/(gr c).aQ=3\/(gr c).aQ=4\/(gr c).aQ=5\/(gr c).aQ=6\/(gr c).aQ=7\/(gr c).aQ=8\/(gr c).aQ=9:=by omega
 ·exact aoe aI ab e J aN aA
 ·exact PP aI ab e cj J aN aA
 ·exact aof aI ab e J aN aA
 ·exact aog aI ab cC bE kg e J aN aA
 ·exact aoh aI ab e cj kW J aN aA
 ·exact aoi aI ab bE e kW J aN aA
 ·exact aoj aI ab e cj kW wc J aN aA
 ·exact aok aI ab bE e kW wc J aN aA
 ·exact aol aI ab e cj kW J aN aA
 ·exact aom aI ab e J aN aA
end
end
end Go.Proofs.YtmkljjbioomepaaGreat
