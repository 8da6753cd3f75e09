import Derived.Test.YtmkljjbioomepaaGreatf24
import Derived.Test.YtmkljjbioomepaaGreatf23
set_option linter.all false
namespace Go.Proofs.YtmkljjbioomepaaGreat
open Go.Proofs.Tryz Go.bd
variable {aX:fO}{a c i k m p:Nat}{cU:Int}{cs:cV}{di:Int×Int}
section
open e2
theorem GH {n:Nat}(hm:m<n):(gP n)[2*m]?=some (c5 m 24 1)/\(gP n)[2*m+1]?=some (c5 m 48 120):=by
 have c:∀ b ∈ (List.range n).map (λm=>[c5 m 24 1,c5 m 48 120]),b.length=2:=λb c=>by
  grind
 have f:((List.range n).map (λm=>[c5 m 24 1,c5 m 48 120])).flatten.length=2*n:=by
  rw[rk c]
  grind
 have a:((List.range n).map (λm=>[c5 m 24 1,c5 m 48 120]))[m]?=some [c5 m 24 1,c5 m 48 120]:=by grind
 have d:=rS (r:=0) c a rfl;have e:=rS (r:=1) c a rfl
 grind[gP,List.getElem?_append_left]
theorem R8 (n:Nat):(gP n)[2*n]?=some (c5 0 32 1):=by
 have a:∀ b ∈ (List.range n).map (λm=>[c5 m 24 1,c5 m 48 120]),b.length=2:=λb a=>by
  grind
 have c:((List.range n).map (λm=>[c5 m 24 1,c5 m 48 120])).flatten.length=2*n:=by
  rw[rk a]
  grind
 unfold gP
 grind
theorem N0 (l:ba)(a:Nat):((l.drop a).take 1).headD 0=l.getD a 0:=by rw[List.headD_eq_head?_getD,List.head?_take,aW (by omega),List.head?_drop,lF]
theorem QZ (E:Env)(A:bA):gh E A\/∃ m,m<E.n/\A.c2 m=true:=by
 by_cases h:∃ m,m<E.n/\A.c2 m=true
 ·grind
 ·refine .inl λm hm=>?_
  grind
section
variable {E:Env}{rs:cV}{A:bA}{ns:List aO}{gr:Nat->c8}{c:Nat}{G:bn}{D:cw}
theorem wZ:m ∈ jQ E A↔m<E.n/\A.c2 m=false:=by
 grind[jQ]
theorem O6:(jQ E A).Nodup:=List.nodup_range.filter _
theorem R9 (a:E.n<=5):(jQ E A).length<=5:=by
 grind[List.length_filter_le,List.length_range,jQ]
theorem tP {s:c8}(a:3<=s.aF)(b:s.aF<=8):h8 s:=.inr (.inl ⟨a,b⟩)
theorem rN {s:c8}(a:3<=s.aF)(b:s.aF<=10):gM s:=.inr ⟨a,b⟩
theorem wC (aA:cl E)(j:1<=c/\c<6)(e:3<=(gr c).aF/\(gr c).aF<=8){s:c8}(g:s.aF=9)(a:s.bC=hc)(n:Kp E c G (nz E c s.aX s.cU s.di))(i:Own E A c)(d:Fin E A s):je E rs A ns gr c G s:=by
 have f:cZ E c s=gN c:=by grind[cZ]
 have k:ez E c s=nz E c s.aX s.cU s.di:=by grind[ez]
 refine⟨(by rw[g];exact mR (b:=9) (by omega) (by omega)),?_,⟨λh=>(by omega),λh=>(by omega)⟩,a,λ_=>rN (by omega) (by omega),λ_=>.inr (.inr ⟨g,by rw[a];rfl⟩),n2 aA j (by omega) (by grind) (by rw[k,f];exact Su) (by grind[gN]) ?_⟩
 ·unfold cO;rw[eR,g];exact⟨i.1,λ_=>i.2,d⟩
 ·rw [f,g];have:=QT (c:=c);have l:1<=hy (gr c).aF:=by
   obtain e | e | e | e | e | e:(gr c).aF=3\/(gr c).aF=4\/(gr c).aF=5\/(gr c).aF=6\/(gr c).aF=7\/(gr c).aF=8:=by omega
   all_goals
    rw[e];first | exact dr _ | (show 1<=1063;omega) | (show 1<=498;omega) | (show 1<=486;omega) | (show 1<=98;omega)
  show cost (gN c)+0<=_/\(gN c).length<=1024;omega
theorem DL (aA:cl E)(a:1<=c/\c<6)(e:(gr c).aF=3\/(gr c).aF=4)(ar:di.1=2/\jI E.L cU aX=dv E+1)(f:Kp E c G (λX=>fv E c aX cU di (kv E X)))(g:Own E A c)(hm:h' E A):je E rs A ns gr c G ⟨5,hc,[],aX,cU,[],[],[],di⟩:=by
 refine⟨(mR (b:=5) (by omega) (by omega)),?_,⟨λ_=>ar,λh=>(by grind)⟩,rfl,λ_=>rN (by grind) (by grind),λ_=>tP (by grind) (by grind),n2 aA a (by grind) f ?_ (Bf aA) ?_⟩
 ·unfold cO;rw[eR];exact⟨g,hm,λq p d _ h=>by cases h⟩
 ·show(fv E c aX cU di (kv E [])).1.ask=_;rw[Sm aA];exact ui _
 ·have:=QW aA;have i:498<=hy (gr c).aF:=by
   rcases e with e | e
   ·rw[e];show 498<=1063;omega
   ·rw[e];exact dr _
  show cost (gQ (bL E))+486<=_/\(gQ (bL E)).length<=1024;omega
theorem SY (aA:cl E)(N:1<=c/\c<6)(ae:jh E A ns)(o:e3 E A)(W:(∃ p ∈ bL E,A.bT 0 (bx p)=1)->hT E A)(e:(gr c).aF=3)(P:Kp E c G (ez E c (gr c)))(S:cO E rs A ns gr c)(ag:kn E c (gr c) D):∃ s,je E rs A ns gr c (G++[D]) s:=by
 have aB:=aA.e.n;have ad:cZ E c (gr c)=gP E.n:=by grind[cZ]
 have aq:ez E c (gr c)=oC E c:=by grind[ez]
 unfold cO at S;rw[e]at S;obtain⟨I,b8⟩:=S;have M:∀ {q:Nat} {v:bE},(gP E.n)[q]?=some v->∃ d,D[q]?=some d/\d.words=rW ns v:=λ{q v} af=>by
  obtain⟨d,J,K⟩:=ag.bC (q:=q) (v:=v) (by grind)
  grind
 have f:∀ m,m<E.n->∃ x,ns[m]?=some x/\Mem E A m x:=λm hm=>by obtain⟨x,l⟩:∃ x,ns[m]?=some x:=⟨_,bW (by rw[ae.len];exact hm)⟩;exact⟨x,l,ae.mem m x l⟩
 have j:∀ {m:Nat} {x:aO} (a k:Nat),ns[m]?=some x->rW ns (c5 m (a:Int) (k:Int))=(x.words.drop a).take k:=λ{m x} a k l=>by
  grind[rW,c5]
 have u:∀ {q m a:Nat},(gP E.n)[q]?=some (c5 m (a:Int) 1)->∀ x,ns[m]?=some x->dE D q=x.get a:=λ{q m a} af x l=>by obtain⟨d,J,K⟩:=M af;rw[wB J];unfold d_;have:=j a 1 l;rw[K,show((1:Int))=((1:Nat):Int) from rfl,this,N0];rfl
 have y:∀ i,i<E.n->dE D (2*i)=2:=λi V=>by obtain⟨x,l,hm⟩:=f i V;rw[u (a:=24) (GH V).1 x l,hm.aS.d0,I.1 i V];rfl
 have O:dE D (2*E.n)=dv E\/dE D (2*E.n)=E.oy 0:=by
  obtain⟨x,l,hm⟩:=f 0 (by omega);rw[u (a:=32) (R8 E.n) x l,hm.dL]
  grind
 have B:pj E A (l7 E.n D):=by
  refine⟨by grind[l7],λm L o=>?_⟩;unfold l7 at o;have hm:=dk o;simp only[jc,rH]at hm;rw[hS,zo hm]at o;simp only[rD,hA]at o;obtain⟨x,l,Q⟩:=f m hm;obtain⟨d,J,K⟩:=M (GH hm).2;have ao:L=vn x:=by rw[<-o,lF,J];show d.words=_;rw[K];exact j 48 120 l
  rw[ao];exact Q.fs aA
 have t:=ag.fit;rw[ad]at t;rw[aq]at P;have Z:∀ X,oC E c (D::X)=fv E c (l7 E.n D) (dE D (2*E.n)) (hG (cG E c) (bD 0) (l7 E.n D) X).1 (hG (cG E c) (bD 0) (l7 E.n D) X).2:=λX=>Rc t y X
 generalize l7 E.n D=aX at *;generalize dE D (2*E.n)=cU at *;rcases QZ E A with r | Y
 ·obtain⟨di,w,bp,b3,bz,ah,aI⟩:=O1 (c:=c) aA B r;have g:Kp E c (G++[D]) (λX=>fv E c aX cU di (nD w X)):=P.next λX=>by grind
  have H:w=bL E\/∀ p ∈ bL E,A.bT 0 (bx p)=0:=by
   by_cases U:hT E A
   ·grind
   ·refine .inr λp T=>?_
    have S:=(o.e7 0 (by omega) p T).1;have J:A.bT 0 (bx p)≠1:=λh=>U (W ⟨p,T,h⟩)
    have K:A.bT 0 (bx p)≠2:=λh=>by
     have:=o.jJ 0 (by omega) p T h 0 (by omega);rw[r 0 (by omega)]at this
     grind
    omega
  by_cases hu:w=[]
  ·refine⟨⟨9,hc,[],aX,cU,[],[],[],di⟩,wC aA N (by omega) rfl rfl (g.congr λX=>?_) I (.inr ⟨⟨I.1,r,λp T=>?_⟩,b3⟩)⟩
   ·rw[hu,Sr];exact xj N.2 rfl
   grind
  ·refine⟨⟨8,hc,[],aX,cU,[],[],w,di⟩,(mR (b:=8) (by omega) (by omega)),?_,⟨λh=>(by grind),λ_=>b3⟩,rfl,λ_=>rN (by grind) (by grind),λ_=>tP (by grind) (by grind),n2 aA N (by grind) g ?_ (by show ix w≠[];unfold ix;simp_all) ?_⟩
   ·unfold cO;rw[eR];exact⟨I,r,H,ah,aI,λq p d _ h=>by cases h⟩
   ·show(fv E c aX cU di (nD w [])).1.ask=_;rw[Ss hu];exact ui _
   ·rw[e];have:=QY ah;show cost (ix w)+1<=1063/\(ix w).length<=1024;omega
 ·obtain⟨bP,C,F⟩:=Y;obtain⟨z,H⟩:=o.l2 bP C F;have R:jI E.L cU aX=dv E+1:=SQ aA B z O;have g:Kp E c (G++[D]) (λX=>fv E c aX cU (2,dv E) (kx E (jQ E A) X)):=P.next λX=>by rw[Z X,O0 aA B z ⟨bP,C,F⟩]
  by_cases ab:jQ E A=[]
  ·refine⟨_,DL aA N (.inl e) ⟨rfl,R⟩ (g.congr λX=>by rw[ab,Sk]) I λm hm=>?_⟩;cases U:A.c2 m with
   |true=>rfl
   |false=>
    have:=wZ.2 ⟨hm,U⟩
    grind
  ·refine⟨⟨4,hc,[],aX,cU,jQ E A,[],[],(2,dv E)⟩,(mR (b:=4) (by omega) (by omega)),?_,⟨λ_=>⟨rfl,R⟩,λh=>(by grind)⟩,rfl,λ_=>rN (by grind) (by grind),λ_=>tP (by grind) (by grind),n2 aA N (by grind) g ?_ (Be ab) ?_⟩
   ·unfold cO;rw[eR];refine⟨I,z,⟨bP,C,F⟩,H,λm hm aE=>?_,λm hm=>(wZ.1 hm).1,O6,λk m P _=>(wZ.1 (cu P)).2,λq m d _ h=>by cases h⟩
    grind[wZ]
   ·show(fv E c aX cU _ (kx E (jQ E A) [])).1.ask=_;rw[Sl ab];exact ui _
   ·rw[e];have:=QV aA (R9 (A:=A) aB.2);show cost (gK E (jQ E A))+498<=1063/\(gK E (jQ E A)).length<=1024;omega
theorem SZ (aA:cl E)(u:1<=c/\c<6)(e:(gr c).aF=4)(l:cZ E c (gr c)≠[])(g:lM E (gr c))(h:Kp E c G (ez E c (gr c)))(i:cO E rs A ns gr c)(o:kn E c (gr c) D):∃ s,je E rs A ns gr c (G++[D]) s:=by
 have a:cZ E c (gr c)=gK E (gr c).sp:=by grind[cZ]
 have w:ez E c (gr c)=λX=>fv E c (gr c).aX (gr c).cU (gr c).di (kx E (gr c).sp X):=by grind[ez]
 unfold cO at i;rw[e]at i;obtain⟨p,b8,y,z,B,C,F,H,I⟩:=i;have K:(gr c).sp≠[]:=λt=>l (by rw[a,t];rfl)
 have f:=o.fit;rw[a]at f;rw[w]at h;refine⟨_,DL aA u (.inr e) (g.1 (by omega)) (h.next λX=>?_) p λm hm=>?_⟩
 ·grind[fv,kx,Rh]
 ·by_cases j:m ∈ (gr c).sp
  ·obtain ⟨k,h⟩:=eP.1 j;have n:∀ b ∈ (gr c).sp.map (λm=>[cH m 48 [0],cH m 56 (fE E),cH m 48 [hQ E]]),b.length=3:=λb n=>by
    grind
   have x:(gK E (gr c).sp)[k*3+2]?=some (cH m 48 [hQ E]):=rS (r:=2) n (by rw[hS,h];rfl) rfl;obtain⟨d,J,_⟩:=o.bC (q:=k*3+2) (by rw[a];exact x)
   grind
  grind
theorem FO {p:aD}:p ∈ im E D↔∃ i,(bL E)[i]?=some p/\dE D i=ew p.Head 0:=by
 unfold im gq;rw[rJ];constructor
 ·rintro⟨b,f,d⟩;obtain⟨i,c,rfl⟩:=dD.1 f;have c:=jd.1 c;unfold o6 at d;split at d
  ·rename_i e;simp only[rK]at d;have a:(bL E)[i]?=some p:=by grind
   exact⟨i,a,by rw[d];exact e⟩
  grind
 ·rintro⟨i,a,e⟩;have c:=dk a
  have g:(bL E).getD i il=p:=by grind
  refine⟨_,dD.2 ⟨i,jd.2 c,rfl⟩,?_⟩;unfold o6;rw[g,bm (show dE D i=ew p.Head (cG E 0).dead from e)]
  grind
theorem Ey (aA:cl E)(g:1<=c/\c<6)(e:(gr c).aF=5\/(gr c).aF=6){l:List aD}(ar:di.1=2/\jI E.L cU aX=dv E+1)(i:Kp E c G (λX=>fv E c aX cU di (mA E l X)))(j:Own E A c)(hm:h' E A)(f:qf E A)(a:w8 E A l):je E rs A ns gr c G ⟨7,hc,[],aX,cU,[],l,[],di⟩:=by
 refine⟨(mR (b:=7) (by omega) (by omega)),?_,⟨λ_=>ar,λh=>(by grind)⟩,rfl,λ_=>rN (by grind) (by grind),λ_=>tP (by grind) (by grind),n2 aA g (by grind) i ?_ (by show f' E l≠[];simp[f']) ?_⟩
 ·unfold cO;rw[eR];exact⟨j,hm,f,a,λq v d _ h=>by cases h⟩
 ·show(fv E c aX cU di (mA E l [])).1.ask=_;rw[Sq];exact ui _
 ·have:=FE (E:=E) a.2.1;have k:98<=hy (gr c).aF:=by
   rcases e with e | e
   ·rw[e];show 98<=486;omega
   ·rw[e];exact dr _
  show cost (f' E l)+1<=_/\(f' E l).length<=1024;omega
theorem GI (aA:cl E)(c:e3 E A)(hm:h' E A)(b:∀ p ∈ bL E,A.bT 0 (bx p)=2):oe E A:=by
 obtain⟨p,cp,eT⟩:=rE aA.job.some_;have a:p ∈ bL E:=by grind
 exact⟨hm,c.k' p a (b p a),b⟩
theorem S0 (aA:cl E)(r:1<=c/\c<6)(w:e3 E A)(e:(gr c).aF=5)(k:lM E (gr c))(F:Kp E c G (ez E c (gr c)))(o:cO E rs A ns gr c)(H:kn E c (gr c) D):∃ s,je E rs A ns gr c (G++[D]) s:=by
 have M:=aA.e.n;have C:cZ E c (gr c)=gQ (bL E):=by grind[cZ]
 have J:ez E c (gr c)=λX=>fv E c (gr c).aX (gr c).cU (gr c).di (kv E X):=by grind[ez]
 unfold cO at o;rw[e]at o;obtain⟨t,b8,N⟩:=o;have g:=H.fit;rw[C]at g;rw[J]at F;have ar:=k.1 (show 4<=(gr c).aF/\(gr c).aF<=7 by omega);have x:∀ {q:Nat} {p:aD},(bL E)[q]?=some p->(dE D q=ew p.Head 0↔A.bT 0 (bx p)=1):=λ{q p} B=>by
  obtain⟨d,u,I⟩:=H.bC (q:=q) (v:=c5 0 (p.bw*8) 1) (by grind[gQ])
  grind[wB]
 have l:∀ p ∈ bL E,p ∉ im E D->A.bT 0 (bx p)=2:=λp f y=>by
  obtain⟨q,B⟩:=eP.1 f;have u:A.bT 0 (bx p)≠1:=λh=>y (FO.2 ⟨q,B,(x B).2 h⟩)
  have o:=(w.l2 0 (by omega) (b8 0 (by omega))).2 p f;have I:=(w.e7 0 (by omega) p f).1;omega
 have i:Kp E c (G++[D]) (λX=>fv E c (gr c).aX (gr c).cU (gr c).di (if im E D=[]then s3 D X else jZ E (im E D) X)):=F.next λX=>by
  grind[fv,kv,Ri]
 by_cases z:im E D=[]
 ·refine⟨⟨9,hc,[],(gr c).aX,(gr c).cU,[],[],[],(gr c).di⟩,wC aA r (by omega) rfl rfl (i.congr λX=>?_) t (.inl ⟨GI aA w b8 λp f=>l p f (by grind),ar⟩)⟩;rw[bm z];exact xj r.2 rfl
 ·have a:w8 E A (im E D):=by
   refine⟨λp f=>?_,?_,λp f=>?_⟩
   ·grind[FO,List.mem_of_getElem?]
   ·have:=zU (cG E 0) (bL E) D (bL E).length;have:=aA.k5
    grind[im]
   grind
  have j:Kp E c (G++[D]) (λX=>fv E c (gr c).aX (gr c).cU (gr c).di (jZ E (im E D) X)):=i.congr λX=>by grind
  by_cases u:E.n=1
  ·exact⟨_,Ey aA r (.inl e) ar (j.congr λX=>by rw[Sn u]) t b8 (λm K L=>by omega) a⟩
  ·refine⟨⟨6,hc,[],(gr c).aX,(gr c).cU,[],im E D,[],(gr c).di⟩,(mR (b:=6) (by omega) (by omega)),?_,⟨λ_=>ar,λh=>(by grind)⟩,rfl,λ_=>rN (by grind) (by grind),λ_=>tP (by grind) (by grind),n2 aA r (by grind) j ?_ (xi (by omega) _) ?_⟩
   ·unfold cO;rw[eR];exact⟨t,b8,a,λq v d _ h=>by cases h⟩
   ·show(fv E c (gr c).aX (gr c).cU (gr c).di (jZ E (im E D) [])).1.ask=_;rw[So (by omega)];exact ui _
   ·rw[e];have:=FF (E:=E) M.2 a.2.1;show cost (fH E (im E D))+98<=486/\(fH E (im E D)).length<=1024;omega
theorem GJ {l:List aD}(a:1<=m)(b:m<E.n):∃ q:Nat,(fH E l)[q]?=some (cH m 32 [dv E]):=by
 have:cH m 32 [dv E] ∈ fH E l:=by
  unfold fH;refine rJ.2 ⟨_,dD.2 ⟨m-1,jd.2 (by omega),rfl⟩,?_⟩
  grind
 grind[List.mem_iff_getElem?]
theorem S1 (aA:cl E)(B:1<=c/\c<6)(e:(gr c).aF=6)(o:cZ E c (gr c)≠[])(f:lM E (gr c))(b:mm E c (gr c))(r:Kp E c G (ez E c (gr c)))(i:cO E rs A ns gr c)(u:kn E c (gr c) D):∃ s,je E rs A ns gr c (G++[D]) s:=by
 have H:=aA.e.n;have g:cZ E c (gr c)=fH E (gr c).l:=by grind[cZ]
 have C:ez E c (gr c)=λX=>fv E c (gr c).aX (gr c).cU (gr c).di (jZ E (gr c).l X):=by grind[ez]
 unfold cO at i;rw[e]at i;obtain⟨w,b8,x,y⟩:=i;have a:=u.fit;rw[g]at a;rw[C]at r;have F:1<E.n:=Nat.lt_of_not_le λh=>o (by grind[AT])
 refine⟨_,Ey aA B (.inr e) (f.1 (by omega)) (r.next λX=>?_) w b8 (λm j k=>?_) x⟩
 ·grind[fv,jZ,Rj]
 ·obtain⟨q,t⟩:=GJ (l:=(gr c).l) j k;obtain⟨d,p,_⟩:=u.bC (q:=q) (by rw[g];exact t);obtain⟨_,_,z,_⟩:=b q d p;exact(y q _ d t p z).2 m rfl
theorem S2 (aA:cl E)(o:1<=c/\c<6)(C:e3 E A)(e:(gr c).aF=7)(f:lM E (gr c))(b:mm E c (gr c))(j:Kp E c G (ez E c (gr c)))(i:cO E rs A ns gr c)(u:kn E c (gr c) D):∃ s,je E rs A ns gr c (G++[D]) s:=by
 have h:cZ E c (gr c)=f' E (gr c).l:=by grind[cZ]
 have F:ez E c (gr c)=λX=>fv E c (gr c).aX (gr c).cU (gr c).di (mA E (gr c).l X):=by grind[ez]
 unfold cO at i;rw[e]at i;obtain⟨w,b8,x,y,z⟩:=i;have a:=u.fit;rw[h]at a;rw[F]at j;refine⟨⟨9,hc,[],(gr c).aX,(gr c).cU,[],[],[],(gr c).di⟩,wC aA o (by omega) rfl rfl (j.next λX=>?_) w (.inl ⟨GI aA C b8 λp r=>?_,f.1 (by omega)⟩)⟩
 ·show fv E c _ _ _ (mA E (gr c).l (D::X))=_;rw[Rk a];exact xj o.2 rfl
 ·rcases y.2.2 p r with g | g
  ·obtain ⟨k,j⟩:=eP.1 g;have t:(f' E (gr c).l)[k+1]?=some (fD 0 p):=by
    grind[f',List.getElem?_cons_succ]
   obtain⟨d,n,_⟩:=u.bC (q:=k+1) (by rw[h];exact t);obtain⟨_,_,B,_⟩:=b _ d n;exact(z _ _ d t n B).1 0 p r rfl
  grind
theorem S3 (aA:cl E)(k:1<=c/\c<6)(e:(gr c).aF=8)(i:cZ E c (gr c)≠[])(b:lM E (gr c))(l:Kp E c G (ez E c (gr c)))(h:cO E rs A ns gr c)(n:kn E c (gr c) D):∃ s,je E rs A ns gr c (G++[D]) s:=by
 have f:cZ E c (gr c)=ix (gr c).mS:=by grind[cZ]
 have t:ez E c (gr c)=λX=>fv E c (gr c).aX (gr c).cU (gr c).di (nD (gr c).mS X):=by grind[ez]
 unfold cO at h;rw[e]at h;obtain⟨j,b8,o,u,w,x⟩:=h;have hu:(gr c).mS≠[]:=λr=>i (by rw[f,r];rfl)
 have a:=n.fit;rw[f]at a;rw[t]at l;refine⟨⟨9,hc,[],(gr c).aX,(gr c).cU,[],[],[],(gr c).di⟩,wC aA k (by omega) rfl rfl (l.next λX=>?_) j (.inr ⟨⟨j.1,b8,λp z=>?_⟩,b.2 e⟩)⟩
 ·show fv E c _ _ _ (nD (gr c).mS (D::X))=_;rw[Rl hu a];exact xj k.2 rfl
 ·rcases o with g | g
  ·obtain⟨q,B⟩:=eP.1 (show p ∈ (gr c).mS by grind);obtain⟨d,y,_⟩:=n.bC (q:=q) (v:=fV 0 (p.bw*8) (ew p.Head 0) p.Head) (by grind[ix])
   grind
  grind
theorem S4 (aA:cl E)(p:1<=c/\c<6)(e:(gr c).aF=9)(k:Kp E c G (ez E c (gr c)))(i:cO E rs A ns gr c)(l:kn E c (gr c) D):∃ s,je E rs A ns gr c (G++[D]) s:=by
 have f:cZ E c (gr c)=gN c:=by grind[cZ]
 have r:ez E c (gr c)=nz E c (gr c).aX (gr c).cU (gr c).di:=by grind[ez]
 unfold cO at i;rw[e]at i;obtain⟨n,b8,o⟩:=i;have a:=l.fit;rw[f]at a;rw[r]at k;have j:=k.next λX=>Rm a X
 obtain⟨d,t,_⟩:=l.bC (q:=0) (v:=fV 0 49 (gJ c) 0) (by rw[f];rfl);refine⟨⟨10,hc,[],(gr c).aX,(gr c).cU,[],[],[],(gr c).di⟩,(mR (b:=10) (by omega) (by omega)),?_,⟨λh=>(by grind),λh=>(by grind)⟩,rfl,λ_=>rN (by grind) (by grind),λh=>?_,.inr (.inl ⟨rfl,j.out aA p rfl rfl rfl⟩)⟩
 ·unfold cO;rw[eR];exact⟨n,o⟩
 ·rcases h with⟨g,_⟩ | ⟨u,w⟩ | ⟨_,g⟩
  ·omega
  ·omega
  grind
theorem W8 (aA:cl E)(d:1<=c/\c<6)(l:jh E A ns)(j:e3 E A)(k:(∃ p ∈ bL E,A.bT 0 (bx p)=1)->hT E A)(e:(gr c).aF<=9)(h:cZ E c (gr c)≠[])(a:lM E (gr c))(i:mm E c (gr c))(f:Kp E c G (ez E c (gr c)))(b:cO E rs A ns gr c)(g:kn E c (gr c) D):∃ s,je E rs A ns gr c (G++[D]) s:=by
 obtain e | e | e | e | e | e | e | e | e | e:(gr c).aF=0\/(gr c).aF=1\/(gr c).aF=2\/(gr c).aF=3\/(gr c).aF=4\/(gr c).aF=5\/(gr c).aF=6\/(gr c).aF=7\/(gr c).aF=8\/(gr c).aF=9:=by omega
 ·exact SV aA d e f b g
 ·exact SW aA d e h f b g
 ·exact SX aA d e f b g
 ·exact SY aA d l j k e f b g
 ·exact SZ aA d e h a f b g
 ·exact S0 aA d j e a f b g
 ·exact S1 aA d e h a i f b g
 ·exact S2 aA d j e a i f b g
 ·exact S3 aA d e h a f b g
 ·exact S4 aA d e f b g
end
end
section
open e2
theorem DM:∀ (vs:bu){C:bB}{k m:Nat}{l:cL},(C.gS k vs).aG[m]?=some l->∃ b,C.aG[m]?=some b/\l.pair.words=b.pair.words/\l.pair.b0=b.pair.b0
 | [],C,k,m,l,h=>⟨l,h,rfl,rfl⟩
 |v::vs,C,k,m,l,h=>by
  obtain⟨g,a,d,f⟩:=DM vs (C:=C.gl k v) (k:=k+1) h;unfold bB.gl at a;simp only[Cm]at a;cases c:C.aG[m]? with
  |none=>rw[c]at a;simp at a
  |some b=>
   rw[c]at a;refine⟨b,rfl,d.trans ?_,f.trans ?_⟩;all_goals
    by_cases e:v.node.toNat=m
    ·simp[e]at a;subst a;rfl
    ·simp[e]at a;subst a;rfl
structure R_ (n:Nat)(C':bB)(vs:bu):Prop where
 base:ki n C'
 sv:gL C' vs hc
 zero:∀ (k:Nat) (l:cL),C'.aG[k]?=some l->l.pair.b0=0/\l.pair.words=[]
 iH:iH C'=cost vs
 busy:vs≠[]->¬ hs C'
section
variable {F:aH}{i n:Nat}{C:bB}
theorem LK (e:cy F)(d:F.aY[i]?=some C)(f:hs C)(k:Nat)(l:cL)(b:C.aG[k]?=some l):l.pair.bj=[]/\l.bZ=[]/\l.pair.b0=0/\l.pair.words=[]:=by have ar:=f k l b;have c:=((e.ct.ok.a3 i C d).lane k l b).bZ;rw[ar]at c;have a:=e.ct.cR C (cu d) l (cu b);exact⟨ar,tG.1 c,a.idle ar,a.zero (a.idle ar)⟩
theorem zK (b:cy F)(a:F.aY[i]?=some C)(e:hs C):C.waiting=0:=by
 rw[(b.ct.ok.a3 i C a).waiting];unfold g5;have:∀ ls:List cL,(∀ l ∈ ls,l.pair.bj=[])->(ls.map λl=>l.pair.bj.length).sum=0:=λls=>by
  induction ls with
  |nil=>grind
  |cons l ls f=>
   grind
 exact this C.aG λl d=>by obtain⟨k,c⟩:=eP.1 d;exact e k l c
theorem DN (b:cy F)(a:F.aY[i]?=some C)(d:¬ hs C):0<F.waiting (i:Int):=by
 unfold aH.waiting;rw[ik,a];show 0<C.waiting;rw[(b.ct.ok.a3 i C a).waiting];rcases Nat.eq_zero_or_pos (g5 C.aG)with e | e
 ·exact b_ (λk l c=>zO e l (cu c)) d
 grind
theorem DO (s:cy F)(r:F.aY[i]?=some C)(f:ki n C)(p:hs C){vs:bu}(t:∀ v ∈ vs,v.node.toNat<n):R_ n (({C with batch:=none}:bB).kE vs) vs:=by
 have d:=LK s r p;have b:∀ v ∈ vs,v.node.toNat<({C with batch:=none}:bB).aG.length:=λv ar=>by
  show _<C.aG.length;rw[f.aG]
  grind
 have c:gL (({C with batch:=none}:bB).kE vs) vs hc:=gL.post f.live (λk l a=>⟨(d k l a).1,(d k l a).2.1⟩) b;obtain⟨h,g⟩:=Db vs ({C with batch:=none}:bB) 0;have ax:∀ (k:Nat) (l:cL),(({C with batch:=none}:bB).kE vs).aG[k]?=some l->l.pair.b0=0/\l.pair.words=[]:=λk l a=>by
  obtain⟨y,u,w,x⟩:=DM vs (C:=({C with batch:=none}:bB)) (k:=0) (l:=l) a
  grind
 refine⟨⟨g.trans f.inc,c.live,h.trans f.aG,λk l a v e1 _ _=>(ax k l a).2⟩,c,ax,?_,λj o=>?_⟩
 ·have:=IR vs (C:=({C with batch:=none}:bB)) (k:=0) (λm l a=>(d m l a).2.2.1) b;have q:iH ({C with batch:=none}:bB)=0:=vJ p;rw[q,h_]at this;exact this
 ·obtain⟨v,e1,e⟩:=rE j;obtain⟨k,l,a,hm⟩:=c.left 0 (by grind) rfl;have:=(c.lane k l a).len;rw[o k l a]at this
  grind
end
theorem pZ {F:aH}{C C':bB}(h:F.aY[i]?=some C):(h2 F i C').aY[i]?=some C':=vW (dk h)
theorem n8 {F:aH}{C':bB}(h:k≠i):(h2 F i C').aY[k]?=F.aY[k]?:=m3 (λe=>h e.symm)
abbrev ec:=ca gW.conv
structure pq (E:Env)(A:bA)(g:gd)(t:ec):Prop where
 cR:t.a3=((0:Nat):Int)
 job:t.job=.inl (E.ed 0)
 bad:t.bad=false
 run:g.aF<=4->t.eU=false/\jU E g.aF t.a_/\(g.aF=3->1<E.n)/\t.a_.length<=g.aF
 fin:g.aF=6->t.eU=true/\t.out=.inl (0,3)
 ref:g.aF=7->t.eU=true/\∃ f,t.out=.inl (5,f)/\(f=1->gh E A)/\(f=3->h' E A)/\∃ m,m<E.n/\A.dO m=true
 new:g.aF=8->t.eU=false/\t.a_=[]
 aF:g.aF<=8/\g.aF≠5
theorem pq.aC {E:Env}{A A':bA}{g k:gd}{t:ec}(h:pq E A g t)(i:k.aF=g.aF)(j:5<=g.aF->oq E A A'):pq E A' k t:=by refine⟨h.cR,h.job,h.bad,by rw[i];exact h.run,by rw[i];exact h.fin,λe=>?_,by rw[i];exact h.new,by rw[i];exact h.aF⟩;rw[i]at e;obtain⟨a,f,b,c,d,m,l,n⟩:=h.ref e;have j:=j (by omega);exact⟨a,f,b,λe=>j.q9 (c e),λe=>j.mono.am (d e),m,l,j.mono.dO m n⟩
section
variable {E:Env}{rs:cV}{F:aH}{A:bA}{g:gd}{gr:Nat->c8}
theorem gx.H' (h:gx E rs F A g gr)(b:0 ∉ rs){C C':bB}(l:F.aY[0]?=some C)(q:cy (h2 F 0 C')){a:gd}(o:ki E.n C')(j:a.aF<=4->gL C' (dZ E a.aF) a.bC/\(a.aF=0->o' E C' F.nodes))(k:5<=a.aF->C'.batch=none/\hs C')(s:e' E A a)(t:np E A a)(r:a.aF≠8):gx E rs (h2 F 0 C') A a gr:=
 ⟨q,h.lines,h.hI,by simpa[h2]using h.sC,h.rep,h.law,h.vF,⟨C',pZ l,o,j,k⟩,s,t,λe=>b_ e r,λc p=>by rw[n8 (λe=>b (by grind))];exact h.rl c p,h.mJ,h.lk,h.op,λc d f i u=>h.rest c d f i (by grind[n8])⟩
def qJ (E:Env)(rs:cV)(F:aH)(A:bA)(g:gd)(gr:Nat->c8)(t:ec):Prop:=
 ∃ a,gx E rs (b5 F t).1 A a gr/\pq E A a (b5 F t).2/\eB (b5 F t).1 0+rn a.aF<=eB F 0+rn g.aF/\(∀ k,k≠0->(b5 F t).1.aY[k]?=F.aY[k]?)/\(a.aF=6\/a.aF=7\/a.aF<=4/\∃ C,(b5 F t).1.aY[0]?=some C/\¬ hs C)/\(g.aF=6\/g.aF=7->b5 F t=(F,t)/\a=g)
theorem Q0 (aA:cl E)(p:Nat):(dZ E p).length<=1024:=by
 have b:=aA.e.n;have a:=aA.k5;unfold dZ
 grind[FF,FE]
theorem r' (aA:cl E)(s:0 ∉ rs)(h:gx E rs F A g gr){t:ec}(o:pq E A g t){C:bB}(c:F.aY[0]?=some C)(B:ki E.n C)(G:hs C)(M:t.eU=false)(K:g.aF≠6/\g.aF≠7)(x:p<=4)(b:p=3->1<E.n)(f:jU E p (fg t C))(I:(fg t C).length<=p)(w:e' E A ⟨p,hc⟩)(H:cost (dZ E p)+rn p<=rn g.aF):qJ E rs F A g gr t:=by
 have J:=aA.e.n;have u:gW.conv.next t.job (fg t C)=(dZ E p,.inl (0,0),false):=by rw[o.job];show((ea (E.ed 0) (fg t C)).1,Sum.inl (ea (E.ed 0) (fg t C)).2.1,(ea (E.ed 0) (fg t C)).2.2)=_;rw[f.ask aA x b];rfl
 have a:=rV aA p x b;have r:∀ v ∈ dZ E p,ic E.n E.L v:=λv ar=>by
  grind[List.mem_iff_getElem?,AV]
 have z:=GE (n:=E.n) (L:=E.L) c B.live (zK h.eA c G) o.cR M (by omega) u a (Q0 aA p) h.rep.len J.2 h.lines r;have j:=DO h.eA c B G (vs:=dZ E p) λv ar=>by have:=(r v ar).node;omega
 have D:=h.eA.b5 t;unfold qJ;rw[z]at D ⊢;refine⟨⟨p,hc⟩,h.H' s c D j.base (λ_=>⟨j.sv,λ_ k l y f O i _ he=>?_⟩) (λe=>b_ e (by grind)) w (λq d e=>by cases e) (by grind),⟨o.cR,o.job,o.bad,λ_=>⟨rfl,f,b,I⟩,λe=>by grind,λe=>by grind,λe=>by grind,by grind⟩,?_,λk f=>n8 f,.inr (.inr ⟨x,_,pZ c,j.busy a⟩),λe=>by omega⟩
 ·rw[(j.zero k l f).1]at he;omega
 ·have N:eB (h2 F 0 (({C with batch:=none}:bB).kE (dZ E p))) 0=cost (dZ E p):=by unfold eB;rw[pZ c];exact j.iH
  grind
theorem GK (aA:cl E)(r:0 ∉ rs)(h:gx E rs F A g gr){t:ec}(i:pq E A g t){C:bB}(l:F.aY[0]?=some C)(j:ki E.n C)(w:hs C)(G:t.eU=false)(s:(fg t C).length<=200)(D:g.aF≠6/\g.aF≠7)(H:p=6\/p=7){o:Int×Int}(c:ea (E.ed 0) (fg t C)=([],o,true))(J:p=6->o=(0,3)/\oe E A)(z:p=7->∃ f,o=(5,f)/\(f=1->gh E A)/\(f=3->h' E A)/\∃ m,m<E.n/\A.dO m=true):qJ E rs F A g gr t:=by
 have K:=aA.e.n;have c:gW.conv.next t.job (fg t C)=([],.inl o,true):=by rw[i.job];show((ea (E.ed 0) (fg t C)).1,Sum.inl (ea (E.ed 0) (fg t C)).2.1,(ea (E.ed 0) (fg t C)).2.2)=_;rw[c];rfl
 have x:=DJ l j.live (zK h.eA l w) i.cR G s c;have y:=h.eA.b5 t;unfold qJ;rw[x]at y ⊢;have u:e' E A ⟨p,hc⟩:=by
  grind[e']
 refine⟨⟨p,hc⟩,h.H' r l y ⟨j.inc,j.live,j.aG,j.ny⟩ (λe=>b_ e (by grind)) (λ_=>⟨rfl,w⟩) u (λq d e=>by cases e) (by grind),⟨i.cR,i.job,i.bad,λe=>by grind,λe=>⟨rfl,by grind⟩,λe=>?_,λe=>by grind,by grind⟩,?_,λk B=>n8 B,H.imp id .inl,λe=>by grind⟩
 ·obtain⟨f,a,b⟩:=z e;exact⟨rfl,f,eh Sum.inl a,b⟩
 ·have I:eB (h2 F 0 ({C with batch:=none}:bB)) 0=0:=by unfold eB;rw[pZ l];exact vJ w
  grind[rn,eB,h2]
theorem UV (aA:cl E)(i:0 ∉ rs)(h:gx E rs F A g gr){t:ec}(o:pq E A g t):qJ E rs F A g gr t:=by
 have aL:=aA.e.n;obtain⟨C,z,H,ao,aq⟩:=h.cz;obtain⟨aR,aP⟩:=o.aF;by_cases P:g.aF=6\/g.aF=7
 ·have aM:t.eU=true:=by
   rcases P with e | e
   ·exact(o.fin e).1
   ·exact(o.ref e).1
  have X:b5 F t=(F,t):=by unfold b5;grind
  unfold qJ
  grind
 by_cases Q:g.aF=8
 ·obtain⟨aB,fB⟩:=o.new Q;obtain⟨aT,aE⟩:=aq (by omega);have j:fg t C=[]:=by grind[fg]
  obtain⟨a,b,d⟩:=h.yM Q;refine r' aA i h o z H aE aB (by omega) (p:=0) (by omega) (by omega) (by grind[TT]) (by grind) ⟨a,b,d,λm _ d e=>by cases e⟩ ?_;rw[Q,<-Ep aA];have:=NV aA.e aA.job;show cost (ni (E.ed 0))+106<=700;omega
 have S:g.aF<=4:=by omega
 obtain⟨r1,w,Y,aV⟩:=o.run S;obtain⟨T,_⟩:=ao S;by_cases s:hs C
 ·obtain⟨ds,d1,d2,d3,d4⟩:=T.all s;have j:fg t C=t.a_++[ds]:=by grind[fg]
  have I:=h.vC;have f:=h.s0;have u:∀ {q:Nat} {v:bE},(dZ E g.aF)[q]?=some v->∃ d,g.bC q=some d/\ds[q]?=some d:=λ{q v} ar=>by
   grind
  have N:o9 (dZ E g.aF) ds:=⟨d2,λq v d ar Z=>by
   obtain⟨ab,r,G⟩:=u ar;rw[Z]at G;cases G;obtain⟨aW,x,O⟩:=I q d r
   grind⟩
  have hlen:(fg t C).length<=g.aF+1:=by grind
  rcases N.cases with c | ⟨ae,d5,U,ag⟩
  ·have ax:∀ {q:Nat} {v:bE},(dZ E g.aF)[q]?=some v->∃ d,g.bC q=some d/\ds[q]?=some d/\d.code=0:=λ{q v} ar=>by obtain⟨d,r,G⟩:=u ar;exact⟨d,r,G,(c.each q v d ar G).1⟩
   obtain e | e | e | e | e:g.aF=0\/g.aF=1\/g.aF=2\/g.aF=3\/g.aF=4:=by omega
   ·unfold e' at f;rw[e]at f w c ax hlen;obtain⟨D,b8,K,aI⟩:=f;refine r' aA i h o z H s r1 (by omega) (p:=1) (by omega) (by omega) (by rw[j];exact w.next aA (by omega) (by omega) c (by omega)) hlen ⟨λm hm=>?_,D,λq p L=>⟨λ_=>K 0 (by omega) p (cu L),λd e=>by cases e⟩⟩ ?_
    ·obtain⟨d,r,_,x⟩:=ax (q:=m) (v:=cH m 56 (fE E)) (by grind[dZ,List.getElem?_range])
     grind
    ·rw[e,<-wq aA];have:=NX aA.e aA.job;show cost (dG (E.ed 0))+70<=106;omega
   ·unfold e' at f;rw[e]at f w c ax hlen;obtain⟨D,b8,K⟩:=f;have af:∀ {q:Nat} {p:aD},(bL E)[q]?=some p->∃ d,g.bC q=some d/\ds[q]?=some d/\d.code=0:=λ{q p} L=>ax (q:=q) (v:=fV 0 (p.bw*8) p.Head (ew p.Head 0)) (by grind[dZ])
    have ah:xk E ds:=λq p d L Z=>by
     grind
    refine r' aA i h o z H s r1 (by omega) (p:=2) (by omega) (by omega) (by rw[j];exact w.next aA (by omega) (by omega) c (λ_=>ah)) hlen ⟨D,λ_=>?_,λm _ d e=>by cases e⟩ ?_
    ·grind[jf,List.mem_iff_getElem?]
    ·rw[e,<-Er aA];have:=NW aA.e aA.job;show cost (m6 (E.ed 0))+65<=70;omega
   ·unfold e' at f;rw [e] at f w c ax hlen;obtain ⟨D,b8,K⟩:=f;have M:h' E A:=λm hm=>by
     obtain⟨d,r,_,x⟩:=ax (q:=m) (v:=cH m 48 [hQ E]) (by grind[dZ,List.getElem?_range])
     grind
    have J:=w.next aA (by omega) (by omega) c (by omega);rw[<-j]at J;by_cases R:E.n=1
    ·refine r' aA i h o z H s r1 (by omega) (p:=4) (by omega) (by omega) (J.skip aA R) (by omega) ⟨M,λm _ _=>by omega,λq v d _ e=>by cases e⟩ ?_;rw[e,<-Aq aA];have:=Eu aA.e aA.job;show cost (hW (E.ed 0))+0<=65;omega
    ·refine r' aA i h o z H s r1 (by omega) (p:=3) (by omega) (λ_=>by omega) J hlen ⟨M,λq v d _ e=>by cases e⟩ ?_;rw[e,<-Es aA];have:=NY aA.e aA.job;show cost (qy (E.ed 0))+13<=65;omega
   ·unfold e' at f;rw[e]at f w c ax hlen Y;obtain⟨D,b8⟩:=f;refine r' aA i h o z H s r1 (by omega) (p:=4) (by omega) (by omega) (by rw[j];exact w.next aA (by omega) (λ_=>Y rfl) c (by omega)) hlen ⟨D,λm R ad=>?_,λq v d _ e=>by cases e⟩ ?_
    ·obtain⟨q,s⟩:=GJ (l:=bL E) R ad;obtain⟨d,r,_,x⟩:=ax (q:=q) s;exact(b8 q _ d s r x).2 m rfl
    ·rw[e,<-Aq aA];have:=Eu aA.e aA.job;show cost (hW (E.ed 0))+0<=13;omega
   ·unfold e' at f;rw[e]at f w c ax hlen;obtain⟨D,b8,K⟩:=f;have J:=w.next aA (by omega) (by omega) c (by omega);rw[<-j]at J;refine GK aA i h o z H s r1 (by omega) (by omega) (p:=6) (.inl rfl) (J.done aA) (λ_=>⟨rfl,D,?_,λp L=>?_⟩) (by omega)
    ·obtain⟨d,r,_,x⟩:=ax (q:=0) (v:=cH 0 32 [dv E]) rfl;exact(K 0 _ d rfl r x).2 0 rfl
    ·obtain ⟨k,J⟩:=eP.1 L;have B:(f' E (bL E))[k+1]?=some (fD 0 p):=by
      grind[f',List.getElem?_cons_succ]
     obtain⟨d,r,_,x⟩:=ax (q:=k+1) B;exact(K _ _ d B r x).1 0 p L rfl
  ·have V:∃ m,m<E.n/\A.dO m=true:=by
    obtain⟨q,B⟩:=eP.1 U;have W:q<(dZ E g.aF).length:=by grind
    obtain⟨ab,r,G⟩:=u (bW W);rw[B]at G;cases G;obtain⟨v,x,O⟩:=I q d5 r;rcases O with O | ⟨_,_,O⟩
    ·omega
    ·have:=(AV aA x).1.node
     grind
   refine GK aA i h o z H s r1 (by omega) (by omega) (p:=7) (.inr rfl) (by rw[j];exact w.ref aA S Y N ae) (by omega) λ_=>⟨_,rfl,λy=>?_,λy=>?_,V⟩
   ·unfold e' at f;obtain e | e | e | e | e:g.aF=0\/g.aF=1\/g.aF=2\/g.aF=3\/g.aF=4:=by omega
    ·grind
    ·grind
    all_goals
     rw[e]at y;cases y
   ·unfold e' at f;obtain e | e | e | e | e:g.aF=0\/g.aF=1\/g.aF=2\/g.aF=3\/g.aF=4:=by omega
    ·rw[e]at y;cases y
    ·rw[e]at y;cases y
    ·rw[e]at y;cases y
    ·grind
    grind
 ·have X:b5 F t=(F,t):=DY (by rw[o.cR];exact DN h.eA z s);unfold qJ
  grind
structure mr (E:Env)(c:Nat)(g:c8)(t:ec):Prop where
 cR:t.a3=(c:Int)
 job:t.job=.inr (cG E c)
 bad:t.bad=false
 run:g.aF<=9->t.eU=false/\Kp E c t.a_ (ez E c g)/\cZ E c g≠[]/\t.a_.length<=mW g.aF
 fin:g.aF=10->t.eU=true/\t.out=.inr ⟨0,g.di.1,g.di.2,jI E.L g.cU g.aX,0⟩/\t.a_.length<=9
 busy:g.aF=11->t.eU=true/\∃ w,t.out=.inr ⟨3,0,0,0,w⟩
 new:g.aF=12->t.eU=false/\t.a_=[]
theorem mr.aC {s a:c8}{t:ec}(h:mr E c s t)(b:a.bare=s.bare):mr E c a t:=by
 have d:=Au b;have e:ez E c a=ez E c s:=by
  have:ez E c a.bare=ez E c s.bare:=by rw[b]
  exact this
 have f:cZ E c a=cZ E c s:=by
  have:cZ E c a.bare=cZ E c s.bare:=by rw[b]
  exact this
 have g:a.di=s.di:=by
  have:a.bare.di=s.bare.di:=by rw[b]
  exact this
 have i:a.cU=s.cU:=by
  have:a.bare.cU=s.bare.cU:=by rw[b]
  exact this
 have j:a.aX=s.aX:=by
  have:a.bare.aX=s.bare.aX:=by rw[b]
  exact this
 exact⟨h.cR,h.job,h.bad,by rw[d,e,f];exact h.run,by rw[d,g,i,j];exact h.fin,by rw[d];exact h.busy,by rw[d];exact h.new⟩
theorem gx.Ia (h:gx E rs F A g gr)(l:∀ c ∈ rs,1<=c/\c<6)(z:c ∈ rs){C C':bB}(x:F.aY[c]?=some C)(D:cy (h2 F c C')){s:c8}(y:ki E.n C')(w:s.aF<=9->gL C' (cZ E c s) s.bC/\(s.aF=3->qE C' F.nodes))(d:10<=s.aF->C'.batch=none/\hs C')(j:cO E rs A F.nodes (hR gr c s) c)(b:lM E s)(a:mm E c s)(t:s.aF<=11)(hw:gM (gr c)->gM s)(f:h8 (gr c)->h8 s):gx E rs (h2 F c C') A g (hR gr c s):=by
 have B:=l c z;refine⟨D,h.lines,h.hI,by simpa[h2]using h.sC,h.rep,h.law,lW h.vF rfl f,?_,h.s0,h.vC,h.yM,λk i=>?_,λk i=>?_,h.lk,λM=>(by grind[eR]),λk p r u L=>h.rest k p r u (by grind[n8])⟩
 ·obtain⟨o,K,q⟩:=h.cz;exact⟨o,by grind[n8],q⟩
 ·by_cases e:k=c
  ·subst e;rw[eR];exact⟨C',pZ x,y,w,d⟩
  ·rw[j1 e,n8 e];exact h.rl k i
 ·by_cases e:k=c
  ·subst e;rw[eR];exact⟨j,b,a,by omega⟩
  ·obtain⟨G,H,I,J⟩:=h.mJ k i;rw[j1 e];exact⟨G.stay (j1 e) (wA hw),H,I,J⟩
def uP (E:Env)(rs:cV)(F:aH)(A:bA)(g:gd)(gr:Nat->c8)(c:Nat)(t:ec):Prop:=
 ∃ s,gx E rs (b5 F t).1 A g (hR gr c s)/\mr E c s (b5 F t).2/\eB (b5 F t).1 c+hy s.aF<=eB F c+hy (gr c).aF/\(∀ k,k≠c->(b5 F t).1.aY[k]?=F.aY[k]?)/\(s.aF=10\/s.aF=11\/s.aF<=9/\∃ C,(b5 F t).1.aY[c]?=some C/\¬ hs C)/\((gr c).aF=10\/(gr c).aF=11->b5 F t=(F,t)/\s=gr c)
theorem FG (gr:Nat->c8)(c:Nat):hR gr c (gr c)=gr:=by
 grind[hR]
theorem S5 (aA:cl E){ns:List aO}(h:cO E rs A ns gr c)(j:(gr c).aF<=9):∀ v ∈ cZ E c (gr c),ic E.n E.L v:=by
 have r:=aA.e.n;have l:=aA.e.L;have i:=aA.mC;have f:1<=E.L/\E.L<=256:=by omega
 unfold cO at h;intro v ar;unfold cZ at ar;split at ar
 ·obtain⟨m,hm,rfl⟩:=dD.1 ar
  grind[o5]
 ·rename_i e;rw[e]at h;obtain⟨m,hm,rfl⟩:=dD.1 ar
  grind[n5]
 ·grind[gZ,List.mem_singleton,n5]
 ·grind[List.mem_iff_getElem?,Ba,o5]
 ·rename_i e;rw[e]at h;have o:=aA.k5;obtain⟨q,b⟩:=eP.1 ar;obtain⟨k,m,hm,d⟩:=GP b
  grind[List.mem_of_getElem?,pd]
 ·obtain⟨p,a,rfl⟩:=dD.1 ar;have g:=aA.pl a
  grind[o5]
 ·rename_i e;rw[e]at h;obtain⟨q,b⟩:=eP.1 ar;obtain⟨m,hm,_,⟨p,a,rfl⟩ | ⟨rfl,_⟩⟩:=xl b
  ·exact r5 aA hm (h.2.2.1.1 p a)
  grind[r6]
 ·rename_i e;rw[e]at h;obtain⟨q,b⟩:=eP.1 ar;obtain⟨_,⟨_,rfl⟩ | ⟨_,p,a,rfl⟩⟩:=xm b
  ·grind[r6]
  ·exact r5 aA (by omega) (h.2.2.2.1.1 p a)
 ·rename_i e;rw[e]at h;obtain⟨p,a,rfl⟩:=dD.1 ar
  grind[n5]
 ·grind[gN,List.mem_singleton,n5]
 grind
theorem GL (aA:cl E)(J:∀ c ∈ rs,1<=c/\c<6)(h:gx E rs F A g gr)(Q:c ∈ rs){t:ec}(r:mr E c (gr c) t){C:bB}(p:F.aY[c]?=some C)(z:ki E.n C)(N:hs C)(R:t.eU=false)(X:(gr c).aF≠10/\(gr c).aF≠11){s:c8}(i:(fg t C).length<=mW s.aF)(f:je E rs A F.nodes gr c (fg t C) s):uP E rs F A g gr c t:=by
 have W:=aA.e.n;have hw:=zK h.eA p N;have x:∀ {vs:bu} {o:dA} {b:Bool},fz (cG E c) (fg t C)=(vs,o,b)->gW.conv.next t.job (fg t C)=(vs,.inr o,b):=λ{vs o b} P=>by rw[r.job];show((fz (cG E c) (fg t C)).1,Sum.inr (fz (cG E c) (fg t C)).2.1,(fz (cG E c) (fg t C)).2.2)=_;rw[P];rfl
 have j:mm E c s:=λq d e=>by rw[f.bC]at e;cases e
 have M:=h.eA.b5 t;have u:∀ k,k<=11->mW k<=200:=λk G=>by grind[mW]
 unfold uP;rcases f.go with⟨H,K,U,O,Z,V⟩ | ⟨H,K⟩ | ⟨H,w,K⟩
 ·have B:=S5 (gr:=hR gr c s) aA f.ok (by grind[eR]);rw[eR]at B;have D:=GE (n:=E.n) (L:=E.L) p z.live hw r.cR R (m2 i (u _ (by omega))) (x K) O V h.rep.len W.2 h.lines B;have I:=DO h.eA p z N (vs:=cZ E c s) λv ar=>by have:=(B v ar).node;omega
  rw[D]at M ⊢;refine⟨s,h.Ia J Q p M I.base (λ_=>⟨by rw[f.bC];exact I.sv,λ_ k l y G ab a n S _=>?_⟩) (λe=>by omega) f.ok f.yZ j (by omega) f.vI f.holds,⟨r.cR,r.job,r.bad,λ_=>⟨rfl,U,O,i⟩,λe=>by omega,λe=>by omega,λe=>by omega⟩,?_,λk G=>n8 G,.inr (.inr ⟨H,_,pZ p,I.busy O⟩),λe=>by omega⟩
  ·obtain⟨ad,ae⟩:=I.zero k l G
   simp_all
  ·have T:eB (h2 F c (({C with batch:=none}:bB).kE (cZ E c s))) c=cost (cZ E c s):=by unfold eB;rw[pZ p];exact I.iH
   grind
 all_goals
  have D:=DJ p z.live hw r.cR R (m2 i (u _ (by omega))) (x K);rw[D]at M ⊢;have T:eB (h2 F c ({C with batch:=none}:bB)) c=0:=by unfold eB;rw[pZ p];exact vJ N
  have Y:hy s.aF=0:=by rw[H];rfl
  refine⟨s,h.Ia J Q p M ⟨z.inc,z.live,z.aG,z.ny⟩ (λe=>by omega) (λ_=>⟨rfl,N⟩) f.ok f.yZ j (by omega) f.vI f.holds,⟨r.cR,r.job,r.bad,λe=>by omega,λe=>?_,λe=>?_,λe=>by omega⟩,?_,λk G=>n8 G,?_,λe=>by omega⟩
 ·refine⟨rfl,rfl,?_⟩;rw[H]at i;exact i
 ·omega
 ·grind
 ·grind
 ·omega
 ·grind
 ·grind
 grind
theorem S6 (aA:cl E)(k:∀ c ∈ rs,1<=c/\c<6)(h:gx E rs F A g gr)(o:c ∈ rs){t:ec}(a:mr E c (gr c) t):uP E rs F A g gr c t:=by
 have U:=aA.e.n;have j:=k c o;obtain⟨C,p,G,K,L⟩:=h.rl c o;obtain⟨N,O,B,W⟩:=h.mJ c o;by_cases f:(gr c).aF=10\/(gr c).aF=11
 ·have V:t.eU=true:=by
   rcases f with e | e
   ·exact(a.fin e).1
   ·exact(a.busy e).1
  have b:b5 F t=(F,t):=by unfold b5;grind
  unfold uP;rw[b];exact⟨gr c,by grind[FG],a,dr _,λ_ _=>rfl,f.imp id .inl,λ_=>⟨rfl,rfl⟩⟩
 by_cases i:(gr c).aF=12
 ·obtain⟨M,fB⟩:=a.new i;obtain⟨X,P⟩:=L (by omega);have u:fg t C=[]:=by grind[fg]
  refine GL aA k h o a p G P M (by omega) (s:=nE 0) (by grind) ?_
  grind[SA]
 have l:(gr c).aF<=9:=by omega
 obtain⟨r1,Q,R,Y⟩:=a.run l;obtain⟨r,_⟩:=K l;by_cases w:hs C
 ·obtain⟨ds,d1,d2,d3,d4⟩:=r.all w;have u:fg t C=t.a_++[ds]:=by grind[fg]
  have x:kn E c (gr c) ds:=by
   refine⟨⟨d2,λq v d ar H=>?_⟩,d3,d4⟩;obtain⟨D,y⟩:=d4 q (dk ar);have z:=d3 q D y;rw[H]at z;cases z;obtain⟨Z,S,T⟩:=B q d y
   grind
  obtain⟨s,I⟩:=W8 aA j h.rep h.law h.lk l R O B Q N x;have J:mW (gr c).aF<mW s.aF:=I.up.resolve_left i
  grind[GL,List.length_append,List.length_singleton]
 ·have b:b5 F t=(F,t):=DY (by rw[a.cR];exact DN h.eA p w);unfold uP;rw[b];exact⟨gr c,by grind[FG],a,dr _,λ_ _=>rfl,.inr (.inr ⟨l,C,p,w⟩),λe=>by omega⟩
end
end
section
open e2
theorem uj {f g:Nat->Nat}:∀ {l:cV},(∀ k ∈ l,f k<=g k)->(l.map f).sum<=(l.map g).sum
 | [],_=>by simp
 |a::l,h=>by
  have:=uj λk b=>h k (gm _ b)
  grind
theorem FP {f g:Nat->Nat}:∀ {l:cV},(∀ k ∈ l,f k<=g k)->∀ {i:Nat},i ∈ l->f i<g i->(l.map f).sum<(l.map g).sum
 | [],_,_,b,_=>by cases b
 |a::l,h,i,b,d=>by
  have j:=uj λk c=>h k (gm _ c)
  have n:=h a g_;simp only[jT,qe];rcases gw.1 b with e | e
  ·grind
  ·have:=FP (λk c=>h k (gm _ c)) e d;omega
end
section
open e2
theorem zM:∀ {cp:List db}{i:Nat}{x:ii},x ∈ ip i cp->∃ q p,cp[q]?=some p/\x=⟨((i+q:Nat):Int),p.a3,p.node⟩
 | [],i,x,h=>by grind[ip]
 |p::cp,i,x,h=>by
  unfold ip at h;rcases gw.1 h with e | h
  ·exact⟨0,p,rfl,e⟩
  ·obtain⟨q,p',a,b⟩:=zM h;exact⟨q+1,p',by simpa using a,by rw[b];congr 1;omega⟩
theorem O7 (p:db)(x:aO):(p.step x).1.node=p.node:=by
 unfold db.step;split
 ·rfl
 ·simp only;split
  ·rfl
  ·split<;>rfl
structure pe (F G:aH):Prop where
 nodes:F.nodes=G.nodes
 lines:F.lines=G.lines
 gI:∀ k,k≠0->F.aY[k]?=G.aY[k]?
 dead:∀ C,F.aY[0]?=some C->C.aG=[]
 y6:∀ p ∈ F.b2,∃ C l,G.aY[0]?=some C/\C.aG[p.node.toNat]?=some l/\l.pair=p/\p.bj≠[]
 nodup:(F.b2.map λp=>p.node.toNat).Nodup
def fT (F G:aH):Prop:=F=G\/pe F G
section
variable {F G:aH}
theorem fT.nodes (h:fT F G):F.nodes=G.nodes:=by
 rcases h with h | h
 ·rw[h]
 ·exact h.nodes
theorem fT.lines (h:fT F G):F.lines=G.lines:=by
 rcases h with h | h
 ·rw[h]
 ·exact h.lines
theorem fT.gI (h:fT F G){k:Nat}(a:k≠0):F.aY[k]?=G.aY[k]?:=by
 rcases h with h | h
 ·rw[h]
 ·exact h.gI k a
theorem pe.eW (h:pe F G){k:Nat}(f:k≠0)(C':bB):pe (F.eW (k:Int) C') (G.eW (k:Int) C'):=by
 have c:∀ H:aH,(H.eW (k:Int) C').aY=H.aY.set k C':=λH=>rfl
 refine⟨h.nodes,h.lines,λi g=>?_,λC d=>?_,λp j=>?_,h.nodup⟩
 ·rw[c,c];by_cases e:k=i
  ·subst e;rw[kg,kg,bm rfl,bm rfl];have:=h.gI k f
   grind
  ·rw[m3 e,m3 e];exact h.gI i g
 ·rw[c,m3 f]at d;exact h.dead C d
 ·obtain⟨C,l,a,b⟩:=h.y6 p j
  grind
theorem fT.eW (h:fT F G){k:Nat}(a:k≠0)(C':bB):fT (F.eW (k:Int) C') (G.eW (k:Int) C'):=by
 rcases h with h | h
 ·exact .inl (by rw[h])
 ·exact .inr (h.eW a C')
theorem fT.take (h:fT F G){k:Nat}(a:k≠0):(F.take (k:Int)).1=(G.take (k:Int)).1/\fT (F.take (k:Int)).2 (G.take (k:Int)).2:=by
 unfold aH.take;rw[ik,ik,h.gI a];split
 ·grind
 ·split
  ·grind
  ·split
   ·grind
   ·split
    ·grind
    ·exact⟨rfl,h.eW a _⟩
theorem fT.post (h:fT F G){k:Nat}(a:k≠0)(vs:bu):(F.post (k:Int) vs).1=(G.post (k:Int) vs).1/\fT (F.post (k:Int) vs).2 (G.post (k:Int) vs).2:=by
 unfold aH.post;rw[ik,ik,h.gI a,h.nodes,h.lines];split
 ·grind
 split
 ·grind
 split
 ·grind
 split
 ·grind
 split
 ·grind
 split
 ·grind
 exact⟨rfl,h.eW a _⟩
theorem fT.tail (h:fT F G)(b:k≠0){hV:Conv}{t:ca hV}(a:t.a3=(k:Int)):(kd F t).2=(kd G t).2/\fT (kd F t).1 (kd G t).1:=by
 unfold kd;rw[a];obtain⟨c,d⟩:=h.post b (hV.next t.job t.a_).1
 grind
theorem fT.b5 (h:fT F G){k:Nat}(a:k≠0){hV:Conv}{t:ca hV}(b:t.a3=(k:Int)):(b5 F t).2=(b5 G t).2/\fT (b5 F t).1 (b5 G t).1:=by
 unfold Go.Proofs.YtmkljjbioomepaaGreat.b5;have c:F.alive (k:Int)=G.alive (k:Int):=by unfold aH.alive;rw[ik,ik,h.gI a]
 have d:F.waiting (k:Int)=G.waiting (k:Int):=by unfold aH.waiting;rw[ik,ik,h.gI a]
 rw[b,c,d];split
 ·grind
 ·obtain⟨t1,t2⟩:=h.take a;rw[t1];refine t2.tail a ?_;cases(G.take (k:Int)).1<;>exact b
theorem Cr (h:F.e5=[]){C:bB}(a:F.aY[i]?=some C):hs C:=λk l b=>by
 cases ar:l.pair.bj with
 |nil=>rfl
 |cons v vs=>
  have hm:(⟨-1,((0+i:Nat):Int),((0+k:Nat):Int)⟩:ii) ∈ F.e5:=by
   unfold aH.e5
   grind[vk,vj]
  grind
end
section
variable {E:Env}{rs:cV}{F G:aH}{A:bA}{g:gd}{gr:Nat->c8}
theorem Q1 (h:gx E rs G A g gr)(Y:fT F G){x:ii}(H:x ∈ F.e5):∃ i m dx J,mQ i m G=some J/\F.step x=(true,dx)/\fT dx J/\(F=G->dx=J):=by
 have b:∀ {i m:Nat} {C:bB} {l:cL},G.aY[i]?=some C->C.aG[m]?=some l->l.pair.bj≠[]->∃ y,G.nodes[m]?=some y:=λ{i m C l} c d ar=>by
  have ae:=dk d;have af:=(h.eA.ct.ok.a3 i C c).aG;refine⟨_,bW ?_⟩
  grind
 have o:∀ {l:cL},0<l.pair.bj.length->l.pair.bj≠[]/\l.pair.bj.length≠0:=λ{l} ar=>⟨λe=>by grind,by omega⟩
 unfold aH.e5 at H;by_cases j:F=G
 ·subst j;rw[h.hI]at H;rcases kh.1 H with hm | hm
  ·obtain⟨i,C,c,hm⟩:=vk.1 hm;obtain⟨m,l,d,ar,rfl⟩:=vj.1 hm;rw[h_,h_];obtain⟨O,fB⟩:=o ar;obtain⟨y,t⟩:=b c d O;have u:=rj.2 ⟨C,l,y,c,d,t,fB,rfl⟩;exact⟨i,m,_,_,u,y' u,.inl rfl,λ_=>rfl⟩
  grind[ip]
 ·have a:pe F G:=Y.resolve_left j;rcases kh.1 H with hm | hm
  ·obtain ⟨i,C,c,hm⟩:=vk.1 hm;obtain ⟨m,l,d,ar,rfl⟩:=vj.1 hm;rw [h_,h_];obtain ⟨O,fB⟩:=o ar;have P:i≠0:=λe=>by
    subst e;rw[a.dead C c]at d
    grind
   have z:G.aY[i]?=some C:=by rw[<-a.gI i P];exact c
   obtain⟨y,t⟩:=b z d O;have u:=rj.2 ⟨C,l,y,z,d,t,fB,rfl⟩;have L:=rj.2 ⟨C,l,y,c,d,by rw[a.nodes];exact t,fB,rfl⟩;refine⟨i,m,_,_,u,y' L,.inr ?_,λe=>b_ e j⟩;have:=a.eW P (C.comes m l (l.pair.step y).1 (l.pair.step y).2.2);exact⟨by simp only[a.nodes],a.lines,this.gI,this.dead,this.y6,a.nodup⟩
  ·obtain⟨q,p,K,rfl⟩:=zM hm;rw[h_];have X:=dk K;obtain⟨C,l,c,d,rfl,ar⟩:=a.y6 p (cu K);obtain⟨y,t⟩:=b c d ar;have V:=dk c;have N:l.pair.bj.length≠0:=λe=>ar (tG.1 e)
   have u:mQ 0 l.pair.node.toNat G=some {G with nodes:=G.nodes.set l.pair.node.toNat (l.pair.step y).2.1,aY:=G.aY.set 0 (C.comes l.pair.node.toNat l (l.pair.step y).1 (l.pair.step y).2.2)}:=rj.2 ⟨C,l,y,c,d,t,N,rfl⟩;have M:F.step ⟨(q:Int),l.pair.a3,l.pair.node⟩=(true,{F with nodes:=F.nodes.set l.pair.node.toNat (l.pair.step y).2.1,b2:=if(l.pair.step y).1.bj.length=0 then F.b2.eraseIdx q else F.b2.set q (l.pair.step y).1}):=by unfold aH.step;rw[bm (by grind)];unfold aH.iu;simp only[g9,K,a.nodes,t]
   have r:=O7 l.pair y;refine⟨0,_,_,_,u,M,.inr ⟨by simp only[a.nodes],a.lines,λk Q=>?_,a.dead,λp' s=>?_,?_⟩,λe=>b_ e j⟩
   ·show F.aY[k]?=(G.aY.set 0 _)[k]?;rw[m3 (λe=>Q e.symm)];exact a.gI k Q
   ·have n:∀ w,w ∈ F.b2.eraseIdx q->∃ I l2,(G.aY.set 0 (C.comes l.pair.node.toNat l (l.pair.step y).1 (l.pair.step y).2.2))[0]?=some I/\I.aG[w.node.toNat]?=some l2/\l2.pair=w/\w.bj≠[]:=by
     intro w D;obtain⟨I,l2,B,U,rfl,Z⟩:=a.y6 w (zA D);rw[c]at B;cases B;have o:l2.pair.node.toNat≠l.pair.node.toNat:=by
      obtain⟨i2,f,T⟩:=List.mem_eraseIdx_iff_getElem?.1 D;intro e;have W:=a.nodup;have S:(F.b2.map λp=>p.node.toNat)[i2]?=some l.pair.node.toNat:=by grind
      grind[List.getElem?_inj,dk]
     grind[List.getElem?_set_self,pL]
    simp only at s;split at s
    ·grind
    ·rename_i ab;obtain⟨i2,f⟩:=eP.1 s;by_cases e:q=i2
     ·subst e;rw[vW X]at f;cases f;obtain⟨l',S,ad⟩:=y2 d (l.pair.step y).1 (l.pair.step y).2.2
      grind
     ·rw[m3 e]at f;exact n p' (List.mem_eraseIdx_iff_getElem?.2 ⟨i2,λR=>e R.symm,f⟩)
   ·simp only;split
    ·exact a.nodup.sublist ((List.eraseIdx_sublist _ _).map _)
    ·rw [m4,r];have:(F.b2.map λp=>p.node.toNat).set q l.pair.node.toNat=F.b2.map λp=>p.node.toNat:=by
      apply jb
      grind
     rw[this];exact a.nodup
theorem z4 (h:gx E rs G A g gr)(f:fT F G)(sch:ba)(n:Nat):(dX F sch n=(false,F)/\F.e5=[])\/∃ i m dx a,mQ i m G=some a/\dX F sch n=(true,dx)/\fT dx a/\(F=G->dx=a):=by
 unfold Go.Proofs.YtmkljjbioomepaaGreat.dX;cases j:F.e5[kV F sch n]? with
 |some x=>exact .inr (Q1 h f (cu j))
 |none=>
  refine .inl ⟨rfl,?_⟩;rcases Nat.eq_zero_or_pos F.e5.length with e | c
  ·grind
  ·exfalso;have d:kV F sch n<F.e5.length:=by
    unfold kV;split
    ·have k:=zz (sch.getD n 0) (b:=(F.e5.length:Int)) (by omega);have l:=zx (sch.getD n 0) (b:=(F.e5.length:Int)) (by omega);omega
    grind
   grind
def ja (rs:cV)(G:aH)(g:gd)(gr:Nat->c8):Nat:=eB G 0+rn g.aF+(rs.map λc=>eB G c+hy (gr c).aF).sum
structure mh (E:Env)(rs cs:cV)(F:aH)(ts:List ec)(G:aH)(A:bA)(g:gd)(gr:Nat->c8):Prop where
 ir:gx E rs G A g gr
 oR:fT F G
 len:ts.length=cs.length
 fN:∀ (k c:Nat) (t:ec),cs[k]?=some c->ts[k]?=some t->(c=0/\F=G/\pq E A g t)\/(c ∈ rs/\mr E c (gr c) t)
def qD (rs:cV)(G:aH)(g:gd)(gr:Nat->c8)(c:Nat):Prop:=(c=0->g.aF=6\/g.aF=7\/∃ C,G.aY[0]?=some C/\¬ hs C)/\(c ∈ rs->(gr c).aF=10\/(gr c).aF=11\/∃ C,G.aY[c]?=some C/\¬ hs C)
theorem z5 (aA:cl E)(x:∀ c ∈ rs,1<=c/\c<6){cs:cV}(J:cs.Nodup):∀ (l:List ec) {pre:List ec} {F G:aH} {g:gd} {gr:Nat->c8},mh E rs cs F (pre++l) G A g gr->
  ∃ y z i,mh E rs cs (turns F l).1 (pre++(turns F l).2) y A z i/\ja rs y z i<=ja rs G g gr/\(∀ k c:Nat,k<pre.length->cs[k]?=some c->qD rs G g gr c->qD rs y z i c)/\∀ k c:Nat,pre.length<=k->cs[k]?=some c->qD rs y z i c
 | [],pre,F,G,g,gr,h=>⟨G,g,gr,h,dr _,λ_ _ _ _ p=>p,λk c V ah=>by
  have:=h.len
  grind⟩
 |t::l,pre,F,G,g,gr,h=>by
  have D:0 ∉ rs:=λe=>by grind
  have N:=h.len;rw[hi,jB]at N;obtain⟨c,q⟩:∃ c,cs[pre.length]?=some c:=⟨_,bW (by omega)⟩;have X:(pre++t::l)[pre.length]?=some t:=by grind
  have P:∀ {k:Nat},cs[k]?=some c->k=pre.length:=λ{k} d=>(Jq (dk d) J).1 (d.trans q.symm)
  have hlen:((pre++[(b5 F t).2])++l).length=cs.length:=by grind
  have H:∀ {k c':Nat} {u:ec},cs[k]?=some c'->((pre++[(b5 F t).2])++l)[k]?=some u->(k=pre.length/\c'=c/\u=(b5 F t).2)\/(c'≠c/\(pre++t::l)[k]?=some u):=λ{k c' u} d r=>by
   grind
  have key:∃ C w j,mh E rs cs (b5 F t).1 ((pre++[(b5 F t).2])++l) C A w j/\ja rs C w j<=ja rs G g gr/\(∀ k c':Nat,k<pre.length->cs[k]?=some c'->qD rs G g gr c'->qD rs C w j c')/\qD rs C w j c:=by
   rcases h.fN _ c t q X with⟨rfl,rfl,L⟩ | ⟨o,L⟩
   ·obtain⟨w,M,b8,S,K,T,_⟩:=UV aA D h.ir L;refine⟨_,w,gr,⟨M,.inl rfl,hlen,λk c' u d r=>?_⟩,?_,λk c' d a B=>?_,λ_=>?_,λe=>b_ e D⟩
    ·rcases H d r with⟨_,rfl,rfl⟩ | ⟨f,g⟩
     ·grind
     ·rcases h.fN k c' u d g with⟨e,_⟩ | b
      ·grind
      grind
    ·have:(rs.map λc=>eB (b5 F t).1 c+hy (gr c).aF).sum<=(rs.map λc=>eB F c+hy (gr c).aF).sum:=uj λk d=>by
      grind[eB,b5]
     grind[ja]
    ·have f:c'≠0:=λe=>by grind
     refine⟨λe=>b_ e f,λo=>?_⟩
     rw[K c' f];exact B.2 o
    grind
   ·have W:=x c o;have n:c≠0:=by omega
    obtain⟨s,M,b8,S,K,T,_⟩:=S6 aA x h.ir o L;obtain⟨b1,az⟩:=h.oR.b5 n L.cR;refine⟨(b5 G t).1,g,hR gr c s,⟨M,az,hlen,λk c' u d r=>?_⟩,?_,λk c' d a B=>?_,λe=>b_ e n,λ_=>?_⟩
    ·rcases H d r with⟨_,rfl,rfl⟩ | ⟨f,U⟩
     ·grind[eR]
     ·rcases h.fN k c' u d U with⟨e,ag,b⟩ | ⟨e,b⟩
      ·grind
      grind[j1]
    ·have V:eB (b5 G t).1 0=eB G 0:=by grind[eB]
     have:(rs.map λk=>eB (b5 G t).1 k+hy (hR gr c s k).aF).sum<=(rs.map λk=>eB G k+hy (gr k).aF).sum:=uj λk d=>by
      grind[eR,eB,b5,j1]
     grind[ja]
    ·have f:c'≠c:=λe=>by grind
     refine⟨λe=>?_,λI=>?_⟩
     ·rw[K 0 (λe=>n e.symm)];exact B.1 e
     ·rw[K c' f,j1 f];exact B.2 I
    grind[eR]
  obtain⟨C,w,j,Y,Z,ab,ad⟩:=key;obtain⟨y,z,i,Q,ae,R,af⟩:=z5 aA x J l Y;have O:turns F (t::l)=((turns (b5 F t).1 l).1,(b5 F t).2::(turns (b5 F t).1 l).2):=rfl;rw[O];refine⟨y,z,i,by rw[vP]at Q;exact Q,m2 ae Z,λk c' d a B=>R k c' (by simp;omega) a (ab k c' d a B),λk c' d a=>?_⟩;by_cases e:k=pre.length
  ·subst e;rw[q]at a;cases a;exact R pre.length c (by simp) q ad
  ·exact af k c' (by simp;omega) a
theorem FH (aA:cl E)(j:∀ c ∈ rs,1<=c/\c<6){ts:List ec}(h:mh E rs cs F ts G A g gr){dx d:aH}(y:mQ i m G=some d)(x:fT dx d)(s:F=G->dx=d):∃ A' l a,mh E rs cs dx ts d A' l a/\ja rs d l a<ja rs G g gr/\dU E A A':=by
 obtain⟨A',l,a,B,o,p,H,I,J,C,C',M,N,O,D⟩:=FD aA j h.ir y;have r:0 ∉ rs:=λe=>by grind
 refine⟨A',l,a,⟨B,x,h.len,λk c t n z=>?_⟩,?_,I⟩
 ·rcases h.fN k c t n z with⟨e,q,b⟩ | ⟨e,b⟩
  ·exact .inl ⟨e,s q,b.aC o H⟩
  ·exact .inr ⟨e,b.aC (p c)⟩
 ·have w:∀ c,(a c).aF=(gr c).aF:=λc=>Au (p c)
  have u:eB d i<eB G i:=by grind[eB]
  have f:∀ k,k≠i->eB d k=eB G k:=λk n=>by grind[eB]
  unfold ja;rw[o];rcases J with e | e
  ·subst e;have:(rs.map λc=>eB d c+hy (a c).aF).sum<=(rs.map λc=>eB G c+hy (gr c).aF).sum:=uj λk n=>by
    grind
   omega
  ·have L:=j i e;have K:=f 0 (by omega);have:(rs.map λc=>eB d c+hy (a c).aF).sum<(rs.map λc=>eB G c+hy (gr c).aF).sum:=FP (i:=i) (λk n=>by
    grind) e (by grind)
   omega
def tL (ts:List ec):Prop:=∀ t ∈ ts,t.eU=true
theorem Q2 (b:∀ c ∈ rs,1<=c/\c<6){ts:List ec}(h:mh E rs cs F ts G A g gr)(n:∀ c ∈ cs,qD rs G g gr c)(r:F.e5=[]):tL ts:=λt o=>by
 obtain⟨k,j⟩:=eP.1 o;obtain⟨c,i⟩:∃ c,cs[k]?=some c:=⟨_,bW (by rw[<-h.len];grind)⟩;have f:=n c (cu i);rcases h.fN k c t i j with⟨e,q,a⟩ | ⟨e,a⟩
 ·rcases f.1 e with p | p | ⟨C,d,l⟩
  ·exact(a.fin p).1
  ·exact(a.ref p).1
  grind[Cr]
 ·rcases f.2 e with p | p | ⟨C,d,l⟩
  ·exact(a.fin p).1
  ·exact(a.busy p).1
  ·have:=b c e;rw[<-h.oR.gI (by omega)]at d
   grind[Cr]
theorem Dc:∀ {ts:List ec}{F:aH},tL ts->turns F ts=(F,ts)
 | [],F,_=>rfl
 |t::ts,F,h=>by
  have a:b5 F t=(F,t):=by unfold b5;rw[bm (.inl (h t g_))]
  show((turns (b5 F t).1 ts).1,(b5 F t).2::(turns (b5 F t).1 ts).2)=_;rw[a];show((turns F ts).1,t::(turns F ts).2)=_;rw[Dc λx b=>h x (gm _ b)]
end
end
section
open e2

end
section
open e2
theorem O8 {x:Nat}(b:x<18446744073709551616):ee .u64 (x:Int) 255=((x % 256:Nat):Int):=by
 have a:ee .u64 (x:Int) ((2 ^ 8-1:Nat):Int)=(x:Int) % (2 ^ 8:Nat):=Dz (by omega) (by omega) 8 (by omega)
 grind
theorem DP (b:256*a<18446744073709551616)(c:k<255):ew ((256*a:Nat):Int) k=((256*a+(k+1):Nat):Int):=by
 unfold ew;have e:((k:Int)+1)=((k+1:Nat):Int):=by omega
 rw[e,tS _ _ b (by omega)];congr 1;exact(Nat.two_pow_add_eq_or_of_lt (i:=8) (by omega) a).symm
theorem Q3:cD .u64 ((256*a:Nat):Int) 8=(a:Int):=by
 show Int.fdiv ((256*a:Nat):Int) 256=_
 grind
theorem NA (b:256*(a+1)<18446744073709551616):kP ((256*a:Nat):Int)=((256*(a+1):Nat):Int):=by
 unfold kP;rw[Q3];show IntKind.u64.wrap (((a:Int)+1)*256)=_
 grind[kT]
theorem LL {p:aD}(h:lz p=true):∃ a:Nat,p.Head=((256*a:Nat):Int)/\1<=a/\a<=281474976710654:=by
 simp only[lz,ly,l3,fP,jA,beq_iff_eq]at h;obtain⟨⟨b,c⟩,d⟩:=h;have e:cD .u64 p.Head 8=p.Head / 256:=by
  show Int.fdiv p.Head 256=_
  grind
 rw[e]at b c;obtain⟨x,f⟩:∃ x:Nat,p.Head=x:=⟨p.Head.toNat,by omega⟩;rw[f]at b c d ⊢;rw[O8 (by omega)]at d;exact⟨x / 256,by omega,by omega,by omega⟩
theorem O9 {l:List aD}(h:∀ i,i<l.length->ko l i=true):∀ a b (e:a<l.length) (c:b<l.length),a<b->l[a].bw<l[b].bw:=by
 intro a b e c f;induction b with
 |zero=>omega
 |succ b g=>
  have d:=h (b+1) c;simp only[ko,zr,jA,lF]at d
  grind
theorem DQ {l L:Int}(h:hv l L=true):∃ k:Nat,l=(k:Int)/\96<=k/\(k:Int)<L:=by simp only[hv,jA]at h;exact⟨l.toNat,by omega,by omega,by omega⟩
theorem ey.Vd {E:Env}{j:cJ}(ar:j.valid=0)(A:j.a3=(i:Int))(z:i<6)(hw:j.v=ke E.n)(H:j.lines=E.L)(w:j.writes≠[])(B:∀ p ∈ j.writes,p.Head=E.base p.bw.toNat 0)(F:∀ s ∈ j.reads,s.Head=E.base s.bw.toNat 0):ey E i j:=by
 have t:=ar;have hlen:0<j.writes.length:=zu.2 w;unfold cJ.valid at ar;split at ar
 ·omega
 split at ar
 ·grind
 split at ar
 ·omega
 next C=>
 split at ar
 ·grind
 next b=>
 split at ar
 ·omega
 next y=>
 split at ar
 ·omega
 next o=>
 split at ar
 ·omega
 next f=>
 have b:fJ j.seq j.writes j.lines=0:=Decidable.not_not.1 λe=>b ⟨hlen,e⟩
 unfold fJ at b;split at b
 ·omega
 split at b
 ·omega
 next G=>
 split at b
 ·omega
 next u=>
 split at b
 ·omega
 next g=>
 have u:∀ p ∈ j.writes,hv p.bw j.lines=true:=iz.1 (by grind);have o:∀ p ∈ j.reads,hv p.bw j.lines=true:=iz.1 (by grind);have g:∀ i,i<j.writes.length->ko j.writes i=true/\lz (j.writes.getD i il)=true:=λi h=>by
  grind
 have f:∀ i,i<j.reads.length->mX j.reads j.writes i=true:=λi h=>iz.1 (show(List.range j.reads.length).all (mX j.reads j.writes)=true by grind) i (jd.2 h)
 have D:=O9 λi h=>(g i h).1
 have d:∀ p ∈ j.writes,∃ a:Nat,p.Head=((256*a:Nat):Int)/\1<=a/\a<=281474976710654:=λp c=>by
  obtain⟨k,l,rfl⟩:=Jr c
  grind[List.getElem?_eq_getElem,LL]
 refine⟨A,z,t,hw,w,by omega,by omega,λp c=>?_,λp c=>?_,λp c q I e=>?_,?_,B,λp c k l=>?_,λp c=>?_,F,λs r p c e=>?_⟩
 ·grind[DQ]
 ·grind[DQ]
 ·grind[List.getElem_of_mem,Nat.lt_trichotomy]
 ·grind[List.pairwise_iff_getElem]
 ·obtain⟨a,e,b,x⟩:=d p c;rw[e,DP (by omega) (by omega),DP (by omega) (by omega)]
  grind
 ·obtain⟨a,e,b,x⟩:=d p c;rw[e,NA (by omega)];omega
 ·obtain⟨k,l,rfl⟩:=Jr r;have:=f k l;simp only[mX,fP,lF,bW l,vV,has,Jm,jA]at this
  grind
end
section
open e2
def qs (l k:Nat):Int:=if k=0 then 256 else 0
def tQ (n L:Nat):Bool:=
 let w:=fmt L n
 w.length == L*8 && (w.getD 0 0 == 1 && (w.getD 1 0 == 1 && ((List.range 6).all (λc=>w.getD (24+c) 0 == 1 && w.getD (32+c) 0 == 0) && (List.range (L-96)).all λq=>(List.range 8).all λk=>w.getD ((q+96)*8+k) 0 == qs 0 k)))
end
end Go.Proofs.YtmkljjbioomepaaGreat
