import Derived.Test.YtmkljjbioomepaaGreatg22
import Derived.Test.YtmkljjbioomepaaGreatg21
set_option linter.all false
namespace Go.Proofs.YtmkljjbioomepaaGreat
open Go.Proofs.Tryz Go.bJ
variable {Ls:eE}{a c i k m p:Nat}{cE:Int}{cs:c6}{bU:Int×Int}
section
open dF
theorem xA {n:Nat}(hm:m<n):(fc n)[2*m]?=some (cb m 24 1)/\(fc n)[2*m+1]?=some (cb m 48 120):=by
 have c:∀ b ∈ (List.range n).map (λm=>[cb m 24 1,cb m 48 120]),b.length=2:=λb c=>by
  grind
 have f:((List.range n).map (λm=>[cb m 24 1,cb m 48 120])).flatten.length=2*n:=by
  rw[rT c]
  grind
 have a:((List.range n).map (λm=>[cb m 24 1,cb m 48 120]))[m]?=some [cb m 24 1,cb m 48 120]:=by grind
 have d:=ug (r:=0) c a rfl;have e:=ug (r:=1) c a rfl
 grind[fc,List.getElem?_append_left]
theorem Ge (n:Nat):(fc n)[2*n]?=some (cb 0 32 1):=by
 have a:∀ b ∈ (List.range n).map (λm=>[cb m 24 1,cb m 48 120]),b.length=2:=λb a=>by
  grind
 have c:((List.range n).map (λm=>[cb m 24 1,cb m 48 120])).flatten.length=2*n:=by
  rw[rT a]
  grind
 unfold fc
 grind
theorem tK (l:a7)(a:Nat):((l.drop a).take 1).headD 0=l.getD a 0:=by rw[List.headD_eq_head?_getD,List.head?_take,aQ (by omega),List.head?_drop,hO]
theorem Q3 (E:Env)(A:bn):ff E A\/∃ m,m<E.n/\A.cX m=true:=by
 by_cases h:∃ m,m<E.n/\A.cX m=true
 ·grind
 ·refine .inl λm hm=>?_
  grind
section
variable {E:Env}{rs:c6}{A:bn}{ns:List aD}{gr:Nat->c1}{c:Nat}{G:a3}{D:ck}
theorem xe:m ∈ jJ E A↔m<E.n/\A.cX m=false:=by
 grind[jJ]
theorem Pd:(jJ E A).Nodup:=List.nodup_range.filter _
theorem Sf (a:E.n<=5):(jJ E A).length<=5:=by
 grind[List.length_filter_le,List.length_range,jJ]
theorem wh {s:c1}(a:3<=s.aE)(b:s.aE<=8):iD s:=.inr (.inl ⟨a,b⟩)
theorem r_ {s:c1}(a:3<=s.aE)(b:s.aE<=10):g' s:=.inr ⟨a,b⟩
theorem wR (au:b8 E)(j:1<=c/\c<6)(e:3<=(gr c).aE/\(gr c).aE<=8){s:c1}(g:s.aE=9)(a:s.bg=hJ)(n:Kp E c G (mo E c s.Ls s.cE s.bU))(i:Own E A c)(d:Fin E A s):jO E rs A ns gr c G s:=by
 have f:c7 E c s=eP c:=by grind[c7]
 have k:eH E c s=mo E c s.Ls s.cE s.bU:=by grind[eH]
 refine⟨(by rw[g];exact nE (b:=9) (by omega) (by omega)),?_,⟨λh=>(by omega),λh=>(by omega)⟩,a,λ_=>r_ (by omega) (by omega),λ_=>.inr (.inr ⟨g,by rw[a];rfl⟩),oI au j (by omega) (by grind) (by rw[k,f];exact GH) (by grind[eP]) ?_⟩
 ·unfold cQ;rw[e5,g];exact⟨i.1,λ_=>i.2,d⟩
 ·rw [f,g];have:=QY (c:=c);have l:1<=h2 (gr c).aE:=by
   obtain e | e | e | e | e | e:(gr c).aE=3\/(gr c).aE=4\/(gr c).aE=5\/(gr c).aE=6\/(gr c).aE=7\/(gr c).aE=8:=by omega
   all_goals
    rw[e];first | exact db _ | (show 1<=1063;omega) | (show 1<=498;omega) | (show 1<=486;omega) | (show 1<=98;omega)
  show cost (eP c)+0<=_/\(eP c).length<=1024;omega
theorem Dx (au:b8 E)(a:1<=c/\c<6)(e:(gr c).aE=3\/(gr c).aE=4)(al:bU.1=2/\fT E.L cE Ls=dt E+1)(f:Kp E c G (λX=>fk E c Ls cE bU (jY E X)))(g:Own E A c)(hm:iJ E A):jO E rs A ns gr c G ⟨5,hJ,[],Ls,cE,[],[],[],bU⟩:=by
 refine⟨(nE (b:=5) (by omega) (by omega)),?_,⟨λ_=>al,λh=>(by grind)⟩,rfl,λ_=>r_ (by grind) (by grind),λ_=>wh (by grind) (by grind),oI au a (by grind) f ?_ (xu au) ?_⟩
 ·unfold cQ;rw[e5];exact⟨g,hm,λq p d _ h=>by cases h⟩
 ·show(fk E c Ls cE bU (jY E [])).1.ask=_;rw[GD au];exact sH _
 ·have:=Q1 au;have i:498<=h2 (gr c).aE:=by
   rcases e with e | e
   ·rw[e];show 498<=1063;omega
   ·rw[e];exact db _
  show cost (eC (bD E))+486<=_/\(eC (bD E)).length<=1024;omega
theorem SL (au:b8 E)(N:1<=c/\c<6)(ae:hQ E A ns)(o:e8 E A)(W:(∃ p ∈ bD E,A.b6 0 (bz p)=1)->h4 E A)(e:(gr c).aE=3)(P:Kp E c G (eH E c (gr c)))(S:cQ E rs A ns gr c)(ag:k0 E c (gr c) D):∃ s,jO E rs A ns gr c (G++[D]) s:=by
 have av:=au.e.n;have ad:c7 E c (gr c)=fc E.n:=by grind[c7]
 have ao:eH E c (gr c)=ob E c:=by grind[eH]
 unfold cQ at S;rw[e]at S;obtain⟨I,bW⟩:=S;have M:∀ {q:Nat} {v:bc},(fc E.n)[q]?=some v->∃ d,D[q]?=some d/\d.words=ss ns v:=λ{q v} af=>by
  obtain⟨d,J,K⟩:=ag.bg (q:=q) (v:=v) (by grind)
  grind
 have f:∀ m,m<E.n->∃ x,ns[m]?=some x/\Mem E A m x:=λm hm=>by obtain⟨x,l⟩:∃ x,ns[m]?=some x:=⟨_,b2 (by rw[ae.len];exact hm)⟩;exact⟨x,l,ae.mem m x l⟩
 have j:∀ {m:Nat} {x:aD} (a k:Nat),ns[m]?=some x->ss ns (cb m (a:Int) (k:Int))=(x.words.drop a).take k:=λ{m x} a k l=>by
  grind[ss,cb]
 have u:∀ {q m a:Nat},(fc E.n)[q]?=some (cb m (a:Int) 1)->∀ x,ns[m]?=some x->di D q=x.get a:=λ{q m a} af x l=>by obtain⟨d,J,K⟩:=M af;rw[wQ J];unfold ed;have:=j a 1 l;rw[K,show((1:Int))=((1:Nat):Int) from rfl,this,tK];rfl
 have y:∀ i,i<E.n->di D (2*i)=2:=λi V=>by obtain⟨x,l,hm⟩:=f i V;rw[u (a:=24) (xA V).1 x l,hm.aT.d0,I.1 i V];rfl
 have O:di D (2*E.n)=dt E\/di D (2*E.n)=E.o8 0:=by
  obtain⟨x,l,hm⟩:=f 0 (by omega);rw[u (a:=32) (Ge E.n) x l,hm.dO]
  grind
 have B:n2 E A (kq E.n D):=by
  refine⟨by grind[kq],λm L o=>?_⟩;unfold kq at o;have hm:=cS o;simp only[gR,nO]at hm;rw[fQ,si hm]at o;simp only[se,hM]at o;obtain⟨x,l,Q⟩:=f m hm;obtain⟨d,J,K⟩:=M (xA hm).2;have ah:L=vJ x:=by rw[<-o,hO,J];show d.words=_;rw[K];exact j 48 120 l
  rw[ah];exact Q.fX au
 have t:=ag.fit;rw[ad]at t;rw[ao]at P;have Z:∀ X,ob E c (D::X)=fk E c (kq E.n D) (di D (2*E.n)) (eO (bC E c) (bj 0) (kq E.n D) X).1 (eO (bC E c) (bj 0) (kq E.n D) X).2:=λX=>F0 t y X
 generalize kq E.n D=Ls at *;generalize di D (2*E.n)=cE at *;rcases Q3 E A with r | Y
 ·obtain⟨bU,w,bQ,cl,bw,cq,aG⟩:=E9 (c:=c) au B r;have g:Kp E c (G++[D]) (λX=>fk E c Ls cE bU (mq w X)):=P.next λX=>by grind
  have H:w=bD E\/∀ p ∈ bD E,A.b6 0 (bz p)=0:=by
   by_cases U:h4 E A
   ·grind
   ·refine .inr λp T=>?_
    have S:=(o.fz 0 (by omega) p T).1;have J:A.b6 0 (bz p)≠1:=λh=>U (W ⟨p,T,h⟩)
    have K:A.b6 0 (bz p)≠2:=λh=>by
     have:=o.lf 0 (by omega) p T h 0 (by omega);rw[r 0 (by omega)]at this
     grind
    omega
  by_cases hu:w=[]
  ·refine⟨⟨9,hJ,[],Ls,cE,[],[],[],bU⟩,wR au N (by omega) rfl rfl (g.congr λX=>?_) I (.inr ⟨⟨I.1,r,λp T=>?_⟩,cl⟩)⟩
   ·rw[hu,GF];exact u6 N.2 rfl
   grind
  ·refine⟨⟨8,hJ,[],Ls,cE,[],[],w,bU⟩,(nE (b:=8) (by omega) (by omega)),?_,⟨λh=>(by grind),λ_=>cl⟩,rfl,λ_=>r_ (by grind) (by grind),λ_=>wh (by grind) (by grind),oI au N (by grind) g ?_ (by show fP w≠[];unfold fP;simp_all) ?_⟩
   ·unfold cQ;rw[e5];exact⟨I,r,H,cq,aG,λq p d _ h=>by cases h⟩
   ·show(fk E c Ls cE bU (mq w [])).1.ask=_;rw[GG hu];exact sH _
   ·rw[e];have:=Q2 cq;show cost (fP w)+1<=1063/\(fP w).length<=1024;omega
 ·obtain⟨bS,C,F⟩:=Y;obtain⟨z,H⟩:=o.l2 bS C F;have R:fT E.L cE Ls=dt E+1:=Hu au B z O;have g:Kp E c (G++[D]) (λX=>fk E c Ls cE (2,dt E) (k9 E (jJ E A) X)):=P.next λX=>by rw[Z X,E8 au B z ⟨bS,C,F⟩]
  by_cases ab:jJ E A=[]
  ·refine⟨_,Dx au N (.inl e) ⟨rfl,R⟩ (g.congr λX=>by rw[ab,GC]) I λm hm=>?_⟩;cases U:A.cX m with
   |true=>rfl
   |false=>
    have:=xe.2 ⟨hm,U⟩
    grind
  ·refine⟨⟨4,hJ,[],Ls,cE,jJ E A,[],[],(2,dt E)⟩,(nE (b:=4) (by omega) (by omega)),?_,⟨λ_=>⟨rfl,R⟩,λh=>(by grind)⟩,rfl,λ_=>r_ (by grind) (by grind),λ_=>wh (by grind) (by grind),oI au N (by grind) g ?_ (A5 ab) ?_⟩
   ·unfold cQ;rw[e5];refine⟨I,z,⟨bS,C,F⟩,H,λm hm aB=>?_,λm hm=>(xe.1 hm).1,Pd,λk m P _=>(xe.1 (b9 P)).2,λq m d _ h=>by cases h⟩
    grind[xe]
   ·show(fk E c Ls cE _ (k9 E (jJ E A) [])).1.ask=_;rw[SA ab];exact sH _
   ·rw[e];have:=Q0 au (Sf (A:=A) av.2);show cost (g6 E (jJ E A))+498<=1063/\(g6 E (jJ E A)).length<=1024;omega
theorem SM (au:b8 E)(u:1<=c/\c<6)(e:(gr c).aE=4)(l:c7 E c (gr c)≠[])(g:mf E (gr c))(h:Kp E c G (eH E c (gr c)))(i:cQ E rs A ns gr c)(o:k0 E c (gr c) D):∃ s,jO E rs A ns gr c (G++[D]) s:=by
 have a:c7 E c (gr c)=g6 E (gr c).sp:=by grind[c7]
 have w:eH E c (gr c)=λX=>fk E c (gr c).Ls (gr c).cE (gr c).bU (k9 E (gr c).sp X):=by grind[eH]
 unfold cQ at i;rw[e]at i;obtain⟨p,bW,y,z,B,C,F,H,I⟩:=i;have K:(gr c).sp≠[]:=λt=>l (by rw[a,t];rfl)
 have f:=o.fit;rw[a]at f;rw[w]at h;refine⟨_,Dx au u (.inr e) (g.1 (by omega)) (h.next λX=>?_) p λm hm=>?_⟩
 ·grind[fk,k9,QL]
 ·by_cases j:m ∈ (gr c).sp
  ·obtain ⟨k,h⟩:=ez.1 j;have n:∀ b ∈ (gr c).sp.map (λm=>[ca m 48 [0],ca m 56 (hk E),ca m 48 [iH E]]),b.length=3:=λb n=>by
    grind
   have x:(g6 E (gr c).sp)[k*3+2]?=some (ca m 48 [iH E]):=ug (r:=2) n (by rw[fQ,h];rfl) rfl;obtain⟨d,J,_⟩:=o.bg (q:=k*3+2) (by rw[a];exact x)
   grind
  grind
theorem Gf {p:aN}:p ∈ h' E D↔∃ i,(bD E)[i]?=some p/\di D i=dK p.Head 0:=by
 unfold h' gx;rw[qL];constructor
 ·rintro⟨b,f,d⟩;obtain⟨i,c,rfl⟩:=cW.1 f;have c:=gS.1 c;unfold pK at d;split at d
  ·rename_i e;simp only[sl]at d;have a:(bD E)[i]?=some p:=by grind
   exact⟨i,a,by rw[d];exact e⟩
  grind
 ·rintro⟨i,a,e⟩;have c:=cS a
  have g:(bD E).getD i iA=p:=by grind
  refine⟨_,cW.2 ⟨i,gS.2 c,rfl⟩,?_⟩;unfold pK;rw[g,bh (show di D i=dK p.Head (bC E 0).dead from e)]
  grind
theorem EB (au:b8 E)(g:1<=c/\c<6)(e:(gr c).aE=5\/(gr c).aE=6){l:List aN}(al:bU.1=2/\fT E.L cE Ls=dt E+1)(i:Kp E c G (λX=>fk E c Ls cE bU (ng E l X)))(j:Own E A c)(hm:iJ E A)(f:q1 E A)(a:xk E A l):jO E rs A ns gr c G ⟨7,hJ,[],Ls,cE,[],l,[],bU⟩:=by
 refine⟨(nE (b:=7) (by omega) (by omega)),?_,⟨λ_=>al,λh=>(by grind)⟩,rfl,λ_=>r_ (by grind) (by grind),λ_=>wh (by grind) (by grind),oI au g (by grind) i ?_ (by show gI E l≠[];simp[gI]) ?_⟩
 ·unfold cQ;rw[e5];exact⟨j,hm,f,a,λq v d _ h=>by cases h⟩
 ·show(fk E c Ls cE bU (ng E l [])).1.ask=_;rw[SD];exact sH _
 ·have:=FN (E:=E) a.2.1;have k:98<=h2 (gr c).aE:=by
   rcases e with e | e
   ·rw[e];show 98<=486;omega
   ·rw[e];exact db _
  show cost (gI E l)+1<=_/\(gI E l).length<=1024;omega
theorem Hh (au:b8 E)(c:e8 E A)(hm:iJ E A)(b:∀ p ∈ bD E,A.b6 0 (bz p)=2):jP E A:=by
 obtain⟨p,cx,fu⟩:=um au.bp.some_;have a:p ∈ bD E:=by grind
 exact⟨hm,c.mu p a (b p a),b⟩
theorem SN (au:b8 E)(r:1<=c/\c<6)(w:e8 E A)(e:(gr c).aE=5)(k:mf E (gr c))(F:Kp E c G (eH E c (gr c)))(o:cQ E rs A ns gr c)(H:k0 E c (gr c) D):∃ s,jO E rs A ns gr c (G++[D]) s:=by
 have M:=au.e.n;have C:c7 E c (gr c)=eC (bD E):=by grind[c7]
 have J:eH E c (gr c)=λX=>fk E c (gr c).Ls (gr c).cE (gr c).bU (jY E X):=by grind[eH]
 unfold cQ at o;rw[e]at o;obtain⟨t,bW,N⟩:=o;have g:=H.fit;rw[C]at g;rw[J]at F;have al:=k.1 (show 4<=(gr c).aE/\(gr c).aE<=7 by omega);have x:∀ {q:Nat} {p:aN},(bD E)[q]?=some p->(di D q=dK p.Head 0↔A.b6 0 (bz p)=1):=λ{q p} B=>by
  obtain⟨d,u,I⟩:=H.bg (q:=q) (v:=cb 0 (p.bt*8) 1) (by grind[eC])
  grind[wQ]
 have l:∀ p ∈ bD E,p ∉ h' E D->A.b6 0 (bz p)=2:=λp f y=>by
  obtain⟨q,B⟩:=ez.1 f;have u:A.b6 0 (bz p)≠1:=λh=>y (Gf.2 ⟨q,B,(x B).2 h⟩)
  have o:=(w.l2 0 (by omega) (bW 0 (by omega))).2 p f;have I:=(w.fz 0 (by omega) p f).1;omega
 have i:Kp E c (G++[D]) (λX=>fk E c (gr c).Ls (gr c).cE (gr c).bU (if h' E D=[]then rN D X else kC E (h' E D) X)):=F.next λX=>by
  grind[fk,jY,F2]
 by_cases z:h' E D=[]
 ·refine⟨⟨9,hJ,[],(gr c).Ls,(gr c).cE,[],[],[],(gr c).bU⟩,wR au r (by omega) rfl rfl (i.congr λX=>?_) t (.inl ⟨Hh au w bW λp f=>l p f (by grind),al⟩)⟩;rw[bh z];exact u6 r.2 rfl
 ·have a:xk E A (h' E D):=by
   refine⟨λp f=>?_,?_,λp f=>?_⟩
   ·grind[Gf,List.mem_of_getElem?]
   ·have:=zc (bC E 0) (bD E) D (bD E).length;have:=au.k2
    grind[h']
   grind
  have j:Kp E c (G++[D]) (λX=>fk E c (gr c).Ls (gr c).cE (gr c).bU (kC E (h' E D) X)):=i.congr λX=>by grind
  by_cases u:E.n=1
  ·exact⟨_,EB au r (.inl e) al (j.congr λX=>by rw[SB u]) t bW (λm K L=>by omega) a⟩
  ·refine⟨⟨6,hJ,[],(gr c).Ls,(gr c).cE,[],h' E D,[],(gr c).bU⟩,(nE (b:=6) (by omega) (by omega)),?_,⟨λ_=>al,λh=>(by grind)⟩,rfl,λ_=>r_ (by grind) (by grind),λ_=>wh (by grind) (by grind),oI au r (by grind) j ?_ (xv (by omega) _) ?_⟩
   ·unfold cQ;rw[e5];exact⟨t,bW,a,λq v d _ h=>by cases h⟩
   ·show(fk E c (gr c).Ls (gr c).cE (gr c).bU (kC E (h' E D) [])).1.ask=_;rw[SC (by omega)];exact sH _
   ·rw[e];have:=FO (E:=E) M.2 a.2.1;show cost (gp E (h' E D))+98<=486/\(gp E (h' E D)).length<=1024;omega
theorem Hi {l:List aN}(a:1<=m)(b:m<E.n):∃ q:Nat,(gp E l)[q]?=some (ca m 32 [dt E]):=by
 have:ca m 32 [dt E] ∈ gp E l:=by
  unfold gp;refine qL.2 ⟨_,cW.2 ⟨m-1,gS.2 (by omega),rfl⟩,?_⟩
  grind
 grind[List.mem_iff_getElem?]
theorem SO (au:b8 E)(B:1<=c/\c<6)(e:(gr c).aE=6)(o:c7 E c (gr c)≠[])(f:mf E (gr c))(b:m2 E c (gr c))(r:Kp E c G (eH E c (gr c)))(i:cQ E rs A ns gr c)(u:k0 E c (gr c) D):∃ s,jO E rs A ns gr c (G++[D]) s:=by
 have H:=au.e.n;have g:c7 E c (gr c)=gp E (gr c).l:=by grind[c7]
 have C:eH E c (gr c)=λX=>fk E c (gr c).Ls (gr c).cE (gr c).bU (kC E (gr c).l X):=by grind[eH]
 unfold cQ at i;rw[e]at i;obtain⟨w,bW,x,y⟩:=i;have a:=u.fit;rw[g]at a;rw[C]at r;have F:1<E.n:=Nat.lt_of_not_le λh=>o (by grind[AP])
 refine⟨_,EB au B (.inr e) (f.1 (by omega)) (r.next λX=>?_) w bW (λm j k=>?_) x⟩
 ·grind[fk,kC,QM]
 ·obtain⟨q,t⟩:=Hi (l:=(gr c).l) j k;obtain⟨d,p,_⟩:=u.bg (q:=q) (by rw[g];exact t);obtain⟨_,_,z,_⟩:=b q d p;exact(y q _ d t p z).2 m rfl
theorem SP (au:b8 E)(o:1<=c/\c<6)(C:e8 E A)(e:(gr c).aE=7)(f:mf E (gr c))(b:m2 E c (gr c))(j:Kp E c G (eH E c (gr c)))(i:cQ E rs A ns gr c)(u:k0 E c (gr c) D):∃ s,jO E rs A ns gr c (G++[D]) s:=by
 have h:c7 E c (gr c)=gI E (gr c).l:=by grind[c7]
 have F:eH E c (gr c)=λX=>fk E c (gr c).Ls (gr c).cE (gr c).bU (ng E (gr c).l X):=by grind[eH]
 unfold cQ at i;rw[e]at i;obtain⟨w,bW,x,y,z⟩:=i;have a:=u.fit;rw[h]at a;rw[F]at j;refine⟨⟨9,hJ,[],(gr c).Ls,(gr c).cE,[],[],[],(gr c).bU⟩,wR au o (by omega) rfl rfl (j.next λX=>?_) w (.inl ⟨Hh au C bW λp r=>?_,f.1 (by omega)⟩)⟩
 ·show fk E c _ _ _ (ng E (gr c).l (D::X))=_;rw[QN a];exact u6 o.2 rfl
 ·rcases y.2.2 p r with g | g
  ·obtain ⟨k,j⟩:=ez.1 g;have t:(gI E (gr c).l)[k+1]?=some (fo 0 p):=by
    grind[gI,List.getElem?_cons_succ]
   obtain⟨d,n,_⟩:=u.bg (q:=k+1) (by rw[h];exact t);obtain⟨_,_,B,_⟩:=b _ d n;exact(z _ _ d t n B).1 0 p r rfl
  grind
theorem SQ (au:b8 E)(k:1<=c/\c<6)(e:(gr c).aE=8)(i:c7 E c (gr c)≠[])(b:mf E (gr c))(l:Kp E c G (eH E c (gr c)))(h:cQ E rs A ns gr c)(n:k0 E c (gr c) D):∃ s,jO E rs A ns gr c (G++[D]) s:=by
 have f:c7 E c (gr c)=fP (gr c).nH:=by grind[c7]
 have t:eH E c (gr c)=λX=>fk E c (gr c).Ls (gr c).cE (gr c).bU (mq (gr c).nH X):=by grind[eH]
 unfold cQ at h;rw[e]at h;obtain⟨j,bW,o,u,w,x⟩:=h;have hu:(gr c).nH≠[]:=λr=>i (by rw[f,r];rfl)
 have a:=n.fit;rw[f]at a;rw[t]at l;refine⟨⟨9,hJ,[],(gr c).Ls,(gr c).cE,[],[],[],(gr c).bU⟩,wR au k (by omega) rfl rfl (l.next λX=>?_) j (.inr ⟨⟨j.1,bW,λp z=>?_⟩,b.2 e⟩)⟩
 ·show fk E c _ _ _ (mq (gr c).nH (D::X))=_;rw[F3 hu a];exact u6 k.2 rfl
 ·rcases o with g | g
  ·obtain⟨q,B⟩:=ez.1 (show p ∈ (gr c).nH by grind);obtain⟨d,y,_⟩:=n.bg (q:=q) (v:=c9 0 (p.bt*8) (dK p.Head 0) p.Head) (by grind[fP])
   grind
  grind
theorem SR (au:b8 E)(p:1<=c/\c<6)(e:(gr c).aE=9)(k:Kp E c G (eH E c (gr c)))(i:cQ E rs A ns gr c)(l:k0 E c (gr c) D):∃ s,jO E rs A ns gr c (G++[D]) s:=by
 have f:c7 E c (gr c)=eP c:=by grind[c7]
 have r:eH E c (gr c)=mo E c (gr c).Ls (gr c).cE (gr c).bU:=by grind[eH]
 unfold cQ at i;rw[e]at i;obtain⟨n,bW,o⟩:=i;have a:=l.fit;rw[f]at a;rw[r]at k;have j:=k.next λX=>F4 a X
 obtain⟨d,t,_⟩:=l.bg (q:=0) (v:=c9 0 49 (dp c) 0) (by rw[f];rfl);refine⟨⟨10,hJ,[],(gr c).Ls,(gr c).cE,[],[],[],(gr c).bU⟩,(nE (b:=10) (by omega) (by omega)),?_,⟨λh=>(by grind),λh=>(by grind)⟩,rfl,λ_=>r_ (by grind) (by grind),λh=>?_,.inr (.inl ⟨rfl,j.out au p rfl rfl rfl⟩)⟩
 ·unfold cQ;rw[e5];exact⟨n,o⟩
 ·rcases h with⟨g,_⟩ | ⟨u,w⟩ | ⟨_,g⟩
  ·omega
  ·omega
  grind
theorem W3 (au:b8 E)(d:1<=c/\c<6)(l:hQ E A ns)(j:e8 E A)(k:(∃ p ∈ bD E,A.b6 0 (bz p)=1)->h4 E A)(e:(gr c).aE<=9)(h:c7 E c (gr c)≠[])(a:mf E (gr c))(i:m2 E c (gr c))(f:Kp E c G (eH E c (gr c)))(b:cQ E rs A ns gr c)(g:k0 E c (gr c) D):∃ s,jO E rs A ns gr c (G++[D]) s:=by
 obtain e | e | e | e | e | e | e | e | e | e:(gr c).aE=0\/(gr c).aE=1\/(gr c).aE=2\/(gr c).aE=3\/(gr c).aE=4\/(gr c).aE=5\/(gr c).aE=6\/(gr c).aE=7\/(gr c).aE=8\/(gr c).aE=9:=by omega
 ·exact Tk au d e f b g
 ·exact Tl au d e h f b g
 ·exact SK au d e f b g
 ·exact SL au d l j k e f b g
 ·exact SM au d e h a f b g
 ·exact SN au d j e a f b g
 ·exact SO au d e h a i f b g
 ·exact SP au d j e a i f b g
 ·exact SQ au d e h a f b g
 ·exact SR au d e f b g
end
end
section
open dF
theorem Dy:∀ (vs:a_) {C:a9} {k m:Nat} {l:ct},(C.fB k vs).az[m]?=some l->∃ b,C.az[m]?=some b/\l.pair.words=b.pair.words/\l.pair.b4=b.pair.b4
 | [],C,k,m,l,h=>⟨l,h,rfl,rfl⟩
 |v::vs,C,k,m,l,h=>by
  obtain⟨g,a,d,f⟩:=Dy vs (C:=C.fe k v) (k:=k+1) h;unfold a9.fe at a;simp only[Cr]at a;cases c:C.az[m]? with
  |none=>rw[c]at a;simp at a
  |some b=>
   rw[c]at a;refine⟨b,rfl,d.trans ?_,f.trans ?_⟩;all_goals
    by_cases e:v.node.toNat=m
    ·simp[e]at a;subst a;rfl
    ·simp[e]at a;subst a;rfl
structure Sg (n:Nat)(C':a9)(vs:a_):Prop where
 base:kb n C'
 s5:g8 C' vs hJ
 zero:∀ (k:Nat) (l:ct),C'.az[k]?=some l->l.pair.b4=0/\l.pair.words=[]
 jk:jk C'=cost vs
 busy:vs≠[]->¬ hx C'
section
variable {F:ay}{i n:Nat}{C:a9}
theorem Mg (e:cr F)(d:F.aF[i]?=some C)(f:hx C)(k:Nat)(l:ct)(b:C.az[k]?=some l):l.pair.a1=[]/\l.bG=[]/\l.pair.b4=0/\l.pair.words=[]:=by have al:=f k l b;have c:=((e.cg.ok.aL i C d).lane k l b).bG;rw[al]at c;have a:=e.cg.cC C (b9 d) l (b9 b);exact⟨al,oL.1 c,a.idle al,a.zero (a.idle al)⟩
theorem Ck (b:cr F)(a:F.aF[i]?=some C)(e:hx C):C.waiting=0:=by
 rw[(b.cg.ok.aL i C a).waiting];unfold gQ;have:∀ ls:List ct,(∀ l ∈ ls,l.pair.a1=[])->(ls.map λl=>l.pair.a1.length).sum=0:=λls=>by
  induction ls with
  |nil=>grind
  |cons l ls f=>
   grind
 exact this C.az λl d=>by obtain⟨k,c⟩:=ez.1 d;exact e k l c
theorem D2 (b:cr F)(a:F.aF[i]?=some C)(d:¬ hx C):0<F.waiting (i:Int):=by
 unfold ay.waiting;rw[g1,a];show 0<C.waiting;rw[(b.cg.ok.aL i C a).waiting];rcases J8 (gQ C.az)with e | e
 ·exact cp (λk l c=>v_ e l (b9 c)) d
 grind
theorem D3 (s:cr F)(r:F.aF[i]?=some C)(f:kb n C)(p:hx C){vs:a_}(t:∀ v ∈ vs,v.node.toNat<n):Sg n (({C with batch:=none}:a9).j4 vs) vs:=by
 have d:=Mg s r p;have b:∀ v ∈ vs,v.node.toNat<({C with batch:=none}:a9).az.length:=λv al=>by
  show _<C.az.length;rw[f.az]
  grind
 have c:g8 (({C with batch:=none}:a9).j4 vs) vs hJ:=g8.post f.live (λk l a=>⟨(d k l a).1,(d k l a).2.1⟩) b;obtain⟨h,g⟩:=CL vs ({C with batch:=none}:a9) 0;have aq:∀ (k:Nat) (l:ct),(({C with batch:=none}:a9).j4 vs).az[k]?=some l->l.pair.b4=0/\l.pair.words=[]:=λk l a=>by
  obtain⟨y,u,w,x⟩:=Dy vs (C:=({C with batch:=none}:a9)) (k:=0) (l:=l) a
  grind
 refine⟨⟨g.trans f.inc,c.live,h.trans f.az,λk l a v e2 _ _=>(aq k l a).2⟩,c,aq,?_,λj o=>?_⟩
 ·have:=Ev vs (C:=({C with batch:=none}:a9)) (k:=0) (λm l a=>(d m l a).2.2.1) b;have q:jk ({C with batch:=none}:a9)=0:=wb p;rw[q,iZ]at this;exact this
 ·obtain⟨v,e2,e⟩:=um j;obtain⟨k,l,a,hm⟩:=c.left 0 (by grind) rfl;have:=(c.lane k l a).len;rw[o k l a]at this
  grind
end
theorem qs {F:ay}{C C':a9}(h:F.aF[i]?=some C):(iB F i C').aF[i]?=some C':=kX (cS h)
theorem pH {F:ay}{C':a9}(h:k≠i):(iB F i C').aF[k]?=F.aF[k]?:=jN (λe=>h e.symm)
abbrev fi:=bK dI.conv
structure o2 (E:Env)(A:bn)(g:fp)(t:fi):Prop where
 cC:t.aL=((0:Nat):Int)
 bp:t.bp=.inl (E.dV 0)
 bad:t.bad=false
 run:g.aE<=4->t.en=false/\kt E g.aE t.a2/\(g.aE=3->1<E.n)/\t.a2.length<=g.aE
 fin:g.aE=6->t.en=true/\t.out=.inl (0,3)
 ref:g.aE=7->t.en=true/\∃ f,t.out=.inl (5,f)/\(f=1->ff E A)/\(f=3->iJ E A)/\∃ m,m<E.n/\A.c0 m=true
 new:g.aE=8->t.en=false/\t.a2=[]
 aE:g.aE<=8/\g.aE≠5
theorem o2.aA {E:Env}{A A':bn}{g k:fp}{t:fi}(h:o2 E A g t)(i:k.aE=g.aE)(j:5<=g.aE->o1 E A A'):o2 E A' k t:=by refine⟨h.cC,h.bp,h.bad,by rw[i];exact h.run,by rw[i];exact h.fin,λe=>?_,by rw[i];exact h.new,by rw[i];exact h.aE⟩;rw[i]at e;obtain⟨a,f,b,c,d,m,l,n⟩:=h.ref e;have j:=j (by omega);exact⟨a,f,b,λe=>j.rM (c e),λe=>j.mono.am (d e),m,l,j.mono.c0 m n⟩
section
variable {E:Env}{rs:c6}{F:ay}{A:bn}{g:fp}{gr:Nat->c1}
theorem gC.IV (h:gC E rs F A g gr)(b:0 ∉ rs){C C':a9}(l:F.aF[0]?=some C)(q:cr (iB F 0 C')){a:fp}(o:kb E.n C')(j:a.aE<=4->g8 C' (eb E a.aE) a.bg/\(a.aE=0->pS E C' F.nodes))(k:5<=a.aE->C'.batch=none/\hx C')(s:fg E A a)(t:n4 E A a)(r:a.aE≠8):gC E rs (iB F 0 C') A a gr:=
 ⟨q,h.lines,h.fY,by simpa[iB]using h.o_,h.rep,h.law,h.r4,⟨C',qs l,o,j,k⟩,s,t,λe=>cp e r,λc p=>by rw[pH (λe=>b (by grind))];exact h.px c p,h.mB,h.vK,h.op,λc d f i u=>h.rest c d f i (by grind[pH])⟩
def rm (E:Env)(rs:c6)(F:ay)(A:bn)(g:fp)(gr:Nat->c1)(t:fi):Prop:=
 ∃ a,gC E rs (br F t).1 A a gr/\o2 E A a (br F t).2/\eR (br F t).1 0+rV a.aE<=eR F 0+rV g.aE/\(∀ k,k≠0->(br F t).1.aF[k]?=F.aF[k]?)/\(a.aE=6\/a.aE=7\/a.aE<=4/\∃ C,(br F t).1.aF[0]?=some C/\¬ hx C)/\(g.aE=6\/g.aE=7->br F t=(F,t)/\a=g)
theorem Q4 (au:b8 E)(p:Nat):(eb E p).length<=1024:=by
 have b:=au.e.n;have a:=au.k2;unfold eb
 grind[FO,FN]
theorem sJ (au:b8 E)(s:0 ∉ rs)(h:gC E rs F A g gr){t:fi}(o:o2 E A g t){C:a9}(c:F.aF[0]?=some C)(B:kb E.n C)(G:hx C)(M:t.en=false)(K:g.aE≠6/\g.aE≠7)(x:p<=4)(b:p=3->1<E.n)(f:kt E p (fy t C))(I:(fy t C).length<=p)(w:fg E A ⟨p,hJ⟩)(H:cost (eb E p)+rV p<=rV g.aE):rm E rs F A g gr t:=by
 have J:=au.e.n;have u:dI.conv.next t.bp (fy t C)=(eb E p,.inl (0,0),false):=by rw[o.bp];show((ee (E.dV 0) (fy t C)).1,Sum.inl (ee (E.dV 0) (fy t C)).2.1,(ee (E.dV 0) (fy t C)).2.2)=_;rw[f.ask au x b];rfl
 have a:=sr au p x b;have r:∀ v ∈ eb E p,e9 E.n E.L v:=λv al=>by
  grind[List.mem_iff_getElem?,AT]
 have z:=Du (n:=E.n) (L:=E.L) c B.live (Ck h.ev c G) o.cC M (by omega) u a (Q4 au p) h.rep.len J.2 h.lines r;have j:=D3 h.ev c B G (vs:=eb E p) λv al=>by have:=(r v al).node;omega
 have D:=h.ev.br t;unfold rm;rw[z]at D ⊢;refine⟨⟨p,hJ⟩,h.IV s c D j.base (λ_=>⟨j.s5,λ_ k l y f O i _ he=>?_⟩) (λe=>cp e (by grind)) w (λq d e=>by cases e) (by grind),⟨o.cC,o.bp,o.bad,λ_=>⟨rfl,f,b,I⟩,λe=>by grind,λe=>by grind,λe=>by grind,by grind⟩,?_,λk f=>pH f,.inr (.inr ⟨x,_,qs c,j.busy a⟩),λe=>by omega⟩
 ·rw[(j.zero k l f).1]at he;omega
 ·have N:eR (iB F 0 (({C with batch:=none}:a9).j4 (eb E p))) 0=cost (eb E p):=by unfold eR;rw[qs c];exact j.jk
  grind
theorem Hj (au:b8 E)(r:0 ∉ rs)(h:gC E rs F A g gr){t:fi}(i:o2 E A g t){C:a9}(l:F.aF[0]?=some C)(j:kb E.n C)(w:hx C)(G:t.en=false)(s:(fy t C).length<=200)(D:g.aE≠6/\g.aE≠7)(H:p=6\/p=7){o:Int×Int}(c:ee (E.dV 0) (fy t C)=([],o,true))(J:p=6->o=(0,3)/\jP E A)(z:p=7->∃ f,o=(5,f)/\(f=1->ff E A)/\(f=3->iJ E A)/\∃ m,m<E.n/\A.c0 m=true):rm E rs F A g gr t:=by
 have K:=au.e.n;have c:dI.conv.next t.bp (fy t C)=([],.inl o,true):=by rw[i.bp];show((ee (E.dV 0) (fy t C)).1,Sum.inl (ee (E.dV 0) (fy t C)).2.1,(ee (E.dV 0) (fy t C)).2.2)=_;rw[c];rfl
 have x:=Dv l j.live (Ck h.ev l w) i.cC G s c;have y:=h.ev.br t;unfold rm;rw[x]at y ⊢;have u:fg E A ⟨p,hJ⟩:=by
  grind[fg]
 refine⟨⟨p,hJ⟩,h.IV r l y ⟨j.inc,j.live,j.az,j.nb⟩ (λe=>cp e (by grind)) (λ_=>⟨rfl,w⟩) u (λq d e=>by cases e) (by grind),⟨i.cC,i.bp,i.bad,λe=>by grind,λe=>⟨rfl,by grind⟩,λe=>?_,λe=>by grind,by grind⟩,?_,λk B=>pH B,H.imp id .inl,λe=>by grind⟩
 ·obtain⟨f,a,b⟩:=z e;exact⟨rfl,f,ey Sum.inl a,b⟩
 ·have I:eR (iB F 0 ({C with batch:=none}:a9)) 0=0:=by unfold eR;rw[qs l];exact wb w
  grind[rV,eR,iB]
theorem SS (au:b8 E)(i:0 ∉ rs)(h:gC E rs F A g gr){t:fi}(o:o2 E A g t):rm E rs F A g gr t:=by
 have aO:=au.e.n;obtain⟨C,z,H,ao,av⟩:=h.cD;obtain⟨aR,aQ⟩:=o.aE;by_cases P:g.aE=6\/g.aE=7
 ·have aP:t.en=true:=by
   rcases P with e | e
   ·exact(o.fin e).1
   ·exact(o.ref e).1
  have X:br F t=(F,t):=by unfold br;grind
  unfold rm
  grind
 by_cases Q:g.aE=8
 ·obtain⟨aB,fm⟩:=o.new Q;obtain⟨aV,aG⟩:=av (by omega);have j:fy t C=[]:=by grind[fy]
  obtain⟨a,b,d⟩:=h.yH Q;refine sJ au i h o z H aG aB (by omega) (p:=0) (by omega) (by omega) (by grind[T3]) (by grind) ⟨a,b,d,λm _ d e=>by cases e⟩ ?_;rw[Q,<-E_ au];have:=Oe au.e au.bp;show cost (nX (E.dV 0))+106<=700;omega
 have S:g.aE<=4:=by omega
 obtain⟨r1,w,Y,aX⟩:=o.run S;obtain⟨T,_⟩:=ao S;by_cases s:hx C
 ·obtain⟨ds,d1,d2,d3,d4⟩:=T.all s;have j:fy t C=t.a2++[ds]:=by grind[fy]
  have I:=h.tF;have f:=h.qp;have u:∀ {q:Nat} {v:bc},(eb E g.aE)[q]?=some v->∃ d,g.bg q=some d/\ds[q]?=some d:=λ{q v} al=>by
   grind
  have N:pZ (eb E g.aE) ds:=⟨d2,λq v d al Z=>by
   obtain⟨ab,r,G⟩:=u al;rw[Z]at G;cases G;obtain⟨aZ,x,O⟩:=I q d r
   grind⟩
  have hlen:(fy t C).length<=g.aE+1:=by grind
  rcases N.cases with c | ⟨ae,d5,U,ag⟩
  ·have aq:∀ {q:Nat} {v:bc},(eb E g.aE)[q]?=some v->∃ d,g.bg q=some d/\ds[q]?=some d/\d.code=0:=λ{q v} al=>by obtain⟨d,r,G⟩:=u al;exact⟨d,r,G,(c.each q v d al G).1⟩
   obtain e | e | e | e | e:g.aE=0\/g.aE=1\/g.aE=2\/g.aE=3\/g.aE=4:=by omega
   ·unfold fg at f;rw[e]at f w c aq hlen;obtain⟨D,bW,K,aH⟩:=f;refine sJ au i h o z H s r1 (by omega) (p:=1) (by omega) (by omega) (by rw[j];exact w.next au (by omega) (by omega) c (by omega)) hlen ⟨λm hm=>?_,D,λq p L=>⟨λ_=>K 0 (by omega) p (b9 L),λd e=>by cases e⟩⟩ ?_
    ·obtain⟨d,r,_,x⟩:=aq (q:=m) (v:=ca m 56 (hk E)) (by grind[eb,List.getElem?_range])
     grind
    ·rw[e,<-wF au];have:=Og au.e au.bp;show cost (dL (E.dV 0))+70<=106;omega
   ·unfold fg at f;rw[e]at f w c aq hlen;obtain⟨D,bW,K⟩:=f;have af:∀ {q:Nat} {p:aN},(bD E)[q]?=some p->∃ d,g.bg q=some d/\ds[q]?=some d/\d.code=0:=λ{q p} L=>aq (q:=q) (v:=c9 0 (p.bt*8) p.Head (dK p.Head 0)) (by grind[eb])
    have ah:xw E ds:=λq p d L Z=>by
     grind
    refine sJ au i h o z H s r1 (by omega) (p:=2) (by omega) (by omega) (by rw[j];exact w.next au (by omega) (by omega) c (λ_=>ah)) hlen ⟨D,λ_=>?_,λm _ d e=>by cases e⟩ ?_
    ·grind[iL,List.mem_iff_getElem?]
    ·rw[e,<-E' au];have:=Of au.e au.bp;show cost (nY (E.dV 0))+65<=70;omega
   ·unfold fg at f;rw [e] at f w c aq hlen;obtain ⟨D,bW,K⟩:=f;have M:iJ E A:=λm hm=>by
     obtain⟨d,r,_,x⟩:=aq (q:=m) (v:=ca m 48 [iH E]) (by grind[eb,List.getElem?_range])
     grind
    have J:=w.next au (by omega) (by omega) c (by omega);rw[<-j]at J;by_cases R:E.n=1
    ·refine sJ au i h o z H s r1 (by omega) (p:=4) (by omega) (by omega) (J.skip au R) (by omega) ⟨M,λm _ _=>by omega,λq v d _ e=>by cases e⟩ ?_;rw[e,<-At au];have:=Eu au.e au.bp;show cost (iu (E.dV 0))+0<=65;omega
    ·refine sJ au i h o z H s r1 (by omega) (p:=3) (by omega) (λ_=>by omega) J hlen ⟨M,λq v d _ e=>by cases e⟩ ?_;rw[e,<-Es au];have:=Oh au.e au.bp;show cost (q7 (E.dV 0))+13<=65;omega
   ·unfold fg at f;rw[e]at f w c aq hlen Y;obtain⟨D,bW⟩:=f;refine sJ au i h o z H s r1 (by omega) (p:=4) (by omega) (by omega) (by rw[j];exact w.next au (by omega) (λ_=>Y rfl) c (by omega)) hlen ⟨D,λm R ad=>?_,λq v d _ e=>by cases e⟩ ?_
    ·obtain⟨q,s⟩:=Hi (l:=bD E) R ad;obtain⟨d,r,_,x⟩:=aq (q:=q) s;exact(bW q _ d s r x).2 m rfl
    ·rw[e,<-At au];have:=Eu au.e au.bp;show cost (iu (E.dV 0))+0<=13;omega
   ·unfold fg at f;rw[e]at f w c aq hlen;obtain⟨D,bW,K⟩:=f;have J:=w.next au (by omega) (by omega) c (by omega);rw[<-j]at J;refine Hj au i h o z H s r1 (by omega) (by omega) (p:=6) (.inl rfl) (J.done au) (λ_=>⟨rfl,D,?_,λp L=>?_⟩) (by omega)
    ·obtain⟨d,r,_,x⟩:=aq (q:=0) (v:=ca 0 32 [dt E]) rfl;exact(K 0 _ d rfl r x).2 0 rfl
    ·obtain ⟨k,J⟩:=ez.1 L;have B:(gI E (bD E))[k+1]?=some (fo 0 p):=by
      grind[gI,List.getElem?_cons_succ]
     obtain⟨d,r,_,x⟩:=aq (q:=k+1) B;exact(K _ _ d B r x).1 0 p L rfl
  ·have V:∃ m,m<E.n/\A.c0 m=true:=by
    obtain⟨q,B⟩:=ez.1 U;have W:q<(eb E g.aE).length:=by grind
    obtain⟨ab,r,G⟩:=u (b2 W);rw[B]at G;cases G;obtain⟨v,x,O⟩:=I q d5 r;rcases O with O | ⟨_,_,O⟩
    ·omega
    ·have:=(AT au x).1.node
     grind
   refine Hj au i h o z H s r1 (by omega) (by omega) (p:=7) (.inr rfl) (by rw[j];exact w.ref au S Y N ae) (by omega) λ_=>⟨_,rfl,λy=>?_,λy=>?_,V⟩
   ·unfold fg at f;obtain e | e | e | e | e:g.aE=0\/g.aE=1\/g.aE=2\/g.aE=3\/g.aE=4:=by omega
    ·grind
    ·grind
    all_goals
     rw[e]at y;cases y
   ·unfold fg at f;obtain e | e | e | e | e:g.aE=0\/g.aE=1\/g.aE=2\/g.aE=3\/g.aE=4:=by omega
    ·rw[e]at y;cases y
    ·rw[e]at y;cases y
    ·rw[e]at y;cases y
    ·grind
    grind
 ·have X:br F t=(F,t):=v' (by rw[o.cC];exact D2 h.ev z s);unfold rm
  grind
structure p6 (E:Env)(c:Nat)(g:c1)(t:fi):Prop where
 cC:t.aL=(c:Int)
 bp:t.bp=.inr (bC E c)
 bad:t.bad=false
 run:g.aE<=9->t.en=false/\Kp E c t.a2 (eH E c g)/\c7 E c g≠[]/\t.a2.length<=nN g.aE
 fin:g.aE=10->t.en=true/\t.out=.inr ⟨0,g.bU.1,g.bU.2,fT E.L g.cE g.Ls,0⟩/\t.a2.length<=9
 busy:g.aE=11->t.en=true/\∃ w,t.out=.inr ⟨3,0,0,0,w⟩
 new:g.aE=12->t.en=false/\t.a2=[]
theorem p6.aA {s a:c1}{t:fi}(h:p6 E c s t)(b:a.bare=s.bare):p6 E c a t:=by
 have d:=Ax b;have e:eH E c a=eH E c s:=by
  have:eH E c a.bare=eH E c s.bare:=by rw[b]
  exact this
 have f:c7 E c a=c7 E c s:=by
  have:c7 E c a.bare=c7 E c s.bare:=by rw[b]
  exact this
 have g:a.bU=s.bU:=by
  have:a.bare.bU=s.bare.bU:=by rw[b]
  exact this
 have i:a.cE=s.cE:=by
  have:a.bare.cE=s.bare.cE:=by rw[b]
  exact this
 have j:a.Ls=s.Ls:=by
  have:a.bare.Ls=s.bare.Ls:=by rw[b]
  exact this
 exact⟨h.cC,h.bp,h.bad,by rw[d,e,f];exact h.run,by rw[d,g,i,j];exact h.fin,by rw[d];exact h.busy,by rw[d];exact h.new⟩
theorem gC.IW (h:gC E rs F A g gr)(l:∀ c ∈ rs,1<=c/\c<6)(z:c ∈ rs){C C':a9}(x:F.aF[c]?=some C)(D:cr (iB F c C')){s:c1}(y:kb E.n C')(w:s.aE<=9->g8 C' (c7 E c s) s.bg/\(s.aE=3->rj C' F.nodes))(d:10<=s.aE->C'.batch=none/\hx C')(j:cQ E rs A F.nodes (ik gr c s) c)(b:mf E s)(a:m2 E c s)(t:s.aE<=11)(hw:g' (gr c)->g' s)(f:iD (gr c)->iD s):gC E rs (iB F c C') A g (ik gr c s):=by
 have B:=l c z;refine⟨D,h.lines,h.fY,by simpa[iB]using h.o_,h.rep,h.law,mz h.r4 rfl f,?_,h.qp,h.tF,h.yH,λk i=>?_,λk i=>?_,h.vK,λM=>(by grind[e5]),λk p r u L=>h.rest k p r u (by grind[pH])⟩
 ·obtain⟨o,K,q⟩:=h.cD;exact⟨o,by grind[pH],q⟩
 ·by_cases e:k=c
  ·subst e;rw[e5];exact⟨C',qs x,y,w,d⟩
  ·rw[kF e,pH e];exact h.px k i
 ·by_cases e:k=c
  ·subst e;rw[e5];exact⟨j,b,a,by omega⟩
  ·obtain⟨G,H,I,J⟩:=h.mB k i;rw[kF e];exact⟨G.stay (kF e) (wP hw),H,I,J⟩
def vf (E:Env)(rs:c6)(F:ay)(A:bn)(g:fp)(gr:Nat->c1)(c:Nat)(t:fi):Prop:=
 ∃ s,gC E rs (br F t).1 A g (ik gr c s)/\p6 E c s (br F t).2/\eR (br F t).1 c+h2 s.aE<=eR F c+h2 (gr c).aE/\(∀ k,k≠c->(br F t).1.aF[k]?=F.aF[k]?)/\(s.aE=10\/s.aE=11\/s.aE<=9/\∃ C,(br F t).1.aF[c]?=some C/\¬ hx C)/\((gr c).aE=10\/(gr c).aE=11->br F t=(F,t)/\s=gr c)
theorem FP (gr:Nat->c1)(c:Nat):ik gr c (gr c)=gr:=by
 grind[ik]
theorem SU (au:b8 E){ns:List aD}(h:cQ E rs A ns gr c)(j:(gr c).aE<=9):∀ v ∈ c7 E c (gr c),e9 E.n E.L v:=by
 have r:=au.e.n;have l:=au.e.L;have i:=au.jG;have f:1<=E.L/\E.L<=256:=by omega
 unfold cQ at h;intro v al;unfold c7 at al;split at al
 ·obtain⟨m,hm,rfl⟩:=cW.1 al
  grind[mE]
 ·rename_i e;rw[e]at h;obtain⟨m,hm,rfl⟩:=cW.1 al
  grind[lo]
 ·grind[ft,List.mem_singleton,lo]
 ·grind[List.mem_iff_getElem?,A7,mE]
 ·rename_i e;rw[e]at h;have o:=au.k2;obtain⟨q,b⟩:=ez.1 al;obtain⟨k,m,hm,d⟩:=Hz b
  grind[List.mem_of_getElem?,oS]
 ·obtain⟨p,a,rfl⟩:=cW.1 al;have g:=au.pl a
  grind[mE]
 ·rename_i e;rw[e]at h;obtain⟨q,b⟩:=ez.1 al;obtain⟨m,hm,_,⟨p,a,rfl⟩ | ⟨rfl,_⟩⟩:=xx b
  ·exact su au hm (h.2.2.1.1 p a)
  grind[sv]
 ·rename_i e;rw[e]at h;obtain⟨q,b⟩:=ez.1 al;obtain⟨_,⟨_,rfl⟩ | ⟨_,p,a,rfl⟩⟩:=xy b
  ·grind[sv]
  ·exact su au (by omega) (h.2.2.2.1.1 p a)
 ·rename_i e;rw[e]at h;obtain⟨p,a,rfl⟩:=cW.1 al
  grind[lo]
 ·grind[eP,List.mem_singleton,lo]
 grind
theorem Hk (au:b8 E)(J:∀ c ∈ rs,1<=c/\c<6)(h:gC E rs F A g gr)(Q:c ∈ rs){t:fi}(r:p6 E c (gr c) t){C:a9}(p:F.aF[c]?=some C)(z:kb E.n C)(N:hx C)(R:t.en=false)(X:(gr c).aE≠10/\(gr c).aE≠11){s:c1}(i:(fy t C).length<=nN s.aE)(f:jO E rs A F.nodes gr c (fy t C) s):vf E rs F A g gr c t:=by
 have W:=au.e.n;have hw:=Ck h.ev p N;have x:∀ {vs:a_} {o:dB} {b:Bool},fx (bC E c) (fy t C)=(vs,o,b)->dI.conv.next t.bp (fy t C)=(vs,.inr o,b):=λ{vs o b} P=>by rw[r.bp];show((fx (bC E c) (fy t C)).1,Sum.inr (fx (bC E c) (fy t C)).2.1,(fx (bC E c) (fy t C)).2.2)=_;rw[P];rfl
 have j:m2 E c s:=λq d e=>by rw[f.bg]at e;cases e
 have M:=h.ev.br t;have u:∀ k,k<=11->nN k<=200:=λk G=>by grind[nN]
 unfold vf;rcases f.go with⟨H,K,U,O,Z,V⟩ | ⟨H,K⟩ | ⟨H,w,K⟩
 ·have B:=SU (gr:=ik gr c s) au f.ok (by grind[e5]);rw[e5]at B;have D:=Du (n:=E.n) (L:=E.L) p z.live hw r.cC R (mK i (u _ (by omega))) (x K) O V h.rep.len W.2 h.lines B;have I:=D3 h.ev p z N (vs:=c7 E c s) λv al=>by have:=(B v al).node;omega
  rw[D]at M ⊢;refine⟨s,h.IW J Q p M I.base (λ_=>⟨by rw[f.bg];exact I.s5,λ_ k l y G ab a n S _=>?_⟩) (λe=>by omega) f.ok f.yT j (by omega) f.we f.holds,⟨r.cC,r.bp,r.bad,λ_=>⟨rfl,U,O,i⟩,λe=>by omega,λe=>by omega,λe=>by omega⟩,?_,λk G=>pH G,.inr (.inr ⟨H,_,qs p,I.busy O⟩),λe=>by omega⟩
  ·obtain⟨ad,ae⟩:=I.zero k l G
   simp_all
  ·have T:eR (iB F c (({C with batch:=none}:a9).j4 (c7 E c s))) c=cost (c7 E c s):=by unfold eR;rw[qs p];exact I.jk
   grind
 all_goals
  have D:=Dv p z.live hw r.cC R (mK i (u _ (by omega))) (x K);rw[D]at M ⊢;have T:eR (iB F c ({C with batch:=none}:a9)) c=0:=by unfold eR;rw[qs p];exact wb N
  have Y:h2 s.aE=0:=by rw[H];rfl
  refine⟨s,h.IW J Q p M ⟨z.inc,z.live,z.az,z.nb⟩ (λe=>by omega) (λ_=>⟨rfl,N⟩) f.ok f.yT j (by omega) f.we f.holds,⟨r.cC,r.bp,r.bad,λe=>by omega,λe=>?_,λe=>?_,λe=>by omega⟩,?_,λk G=>pH G,?_,λe=>by omega⟩
 ·refine⟨rfl,rfl,?_⟩;rw[H]at i;exact i
 ·omega
 ·grind
 ·grind
 ·omega
 ·grind
 ·grind
 grind
theorem SV (au:b8 E)(k:∀ c ∈ rs,1<=c/\c<6)(h:gC E rs F A g gr)(o:c ∈ rs){t:fi}(a:p6 E c (gr c) t):vf E rs F A g gr c t:=by
 have U:=au.e.n;have j:=k c o;obtain⟨C,p,G,K,L⟩:=h.px c o;obtain⟨N,O,B,W⟩:=h.mB c o;by_cases f:(gr c).aE=10\/(gr c).aE=11
 ·have V:t.en=true:=by
   rcases f with e | e
   ·exact(a.fin e).1
   ·exact(a.busy e).1
  have b:br F t=(F,t):=by unfold br;grind
  unfold vf;rw[b];exact⟨gr c,by grind[FP],a,db _,λ_ _=>rfl,f.imp id .inl,λ_=>⟨rfl,rfl⟩⟩
 by_cases i:(gr c).aE=12
 ·obtain⟨M,fm⟩:=a.new i;obtain⟨X,P⟩:=L (by omega);have u:fy t C=[]:=by grind[fy]
  refine Hk au k h o a p G P M (by omega) (s:=lO 0) (by grind) ?_
  grind[Se]
 have l:(gr c).aE<=9:=by omega
 obtain⟨r1,Q,R,Y⟩:=a.run l;obtain⟨r,_⟩:=K l;by_cases w:hx C
 ·obtain⟨ds,d1,d2,d3,d4⟩:=r.all w;have u:fy t C=t.a2++[ds]:=by grind[fy]
  have x:k0 E c (gr c) ds:=by
   refine⟨⟨d2,λq v d al H=>?_⟩,d3,d4⟩;obtain⟨D,y⟩:=d4 q (cS al);have z:=d3 q D y;rw[H]at z;cases z;obtain⟨Z,S,T⟩:=B q d y
   grind
  obtain⟨s,I⟩:=W3 au j h.rep h.law h.vK l R O B Q N x;have J:nN (gr c).aE<nN s.aE:=I.up.resolve_left i
  grind[Hk,List.length_append,List.length_singleton]
 ·have b:br F t=(F,t):=v' (by rw[a.cC];exact D2 h.ev p w);unfold vf;rw[b];exact⟨gr c,by grind[FP],a,db _,λ_ _=>rfl,.inr (.inr ⟨l,C,p,w⟩),λe=>by omega⟩
end
end
section
open dF
theorem uT {f g:Nat->Nat}:∀ {l:c6},(∀ k ∈ l,f k<=g k)->(l.map f).sum<=(l.map g).sum
 | [],_=>by simp
 |a::l,h=>by
  have:=uT λk b=>h k (fG _ b)
  grind
theorem Gg {f g:Nat->Nat}:∀ {l:c6},(∀ k ∈ l,f k<=g k)->∀ {i:Nat},i ∈ l->f i<g i->(l.map f).sum<(l.map g).sum
 | [],_,_,b,_=>by cases b
 |a::l,h,i,b,d=>by
  have j:=uT λk c=>h k (fG _ c)
  have n:=h a fR;simp only[iI,pO];rcases f0.1 b with e | e
  ·grind
  ·have:=Gg (λk c=>h k (fG _ c)) e d;omega
end
section
open dF
theorem Fd:∀ {cx:List cH} {i:Nat} {x:fb},x ∈ kA i cx->∃ q p,cx[q]?=some p/\x=⟨((i+q:Nat):Int),p.aL,p.node⟩
 | [],i,x,h=>by grind[kA]
 |p::cx,i,x,h=>by
  unfold kA at h;rcases f0.1 h with e | h
  ·exact⟨0,p,rfl,e⟩
  ·obtain⟨q,p',a,b⟩:=Fd h;exact⟨q+1,p',by simpa using a,by rw[b];congr 1;omega⟩
theorem Pe (p:cH)(x:aD):(p.step x).1.node=p.node:=by
 unfold cH.step;split
 ·rfl
 ·simp only;split
  ·rfl
  ·split<;>rfl
structure kf (F G:ay):Prop where
 nodes:F.nodes=G.nodes
 lines:F.lines=G.lines
 gb:∀ k,k≠0->F.aF[k]?=G.aF[k]?
 dead:∀ C,F.aF[0]?=some C->C.az=[]
 y0:∀ p ∈ F.bZ,∃ C l,G.aF[0]?=some C/\C.az[p.node.toNat]?=some l/\l.pair=p/\p.a1≠[]
 nodup:(F.bZ.map λp=>p.node.toNat).Nodup
def gM (F G:ay):Prop:=F=G\/kf F G
section
variable {F G:ay}
theorem gM.nodes (h:gM F G):F.nodes=G.nodes:=by
 rcases h with h | h
 ·rw[h]
 ·exact h.nodes
theorem gM.lines (h:gM F G):F.lines=G.lines:=by
 rcases h with h | h
 ·rw[h]
 ·exact h.lines
theorem gM.gb (h:gM F G){k:Nat}(a:k≠0):F.aF[k]?=G.aF[k]?:=by
 rcases h with h | h
 ·rw[h]
 ·exact h.gb k a
theorem kf.eo (h:kf F G){k:Nat}(f:k≠0)(C':a9):kf (F.eo (k:Int) C') (G.eo (k:Int) C'):=by
 have c:∀ H:ay,(H.eo (k:Int) C').aF=H.aF.set k C':=λH=>rfl
 refine⟨h.nodes,h.lines,λi g=>?_,λC d=>?_,λp j=>?_,h.nodup⟩
 ·rw[c,c];by_cases e:k=i
  ·subst e;rw[kW,kW,bh rfl,bh rfl];have:=h.gb k f
   grind
  ·rw[jN e,jN e];exact h.gb i g
 ·rw[c,jN f]at d;exact h.dead C d
 ·obtain⟨C,l,a,b⟩:=h.y0 p j
  grind
theorem gM.eo (h:gM F G){k:Nat}(a:k≠0)(C':a9):gM (F.eo (k:Int) C') (G.eo (k:Int) C'):=by
 rcases h with h | h
 ·exact .inl (by rw[h])
 ·exact .inr (h.eo a C')
theorem gM.take (h:gM F G){k:Nat}(a:k≠0):(F.take (k:Int)).1=(G.take (k:Int)).1/\gM (F.take (k:Int)).2 (G.take (k:Int)).2:=by
 unfold ay.take;rw[g1,g1,h.gb a];split
 ·grind
 ·split
  ·grind
  ·split
   ·grind
   ·split
    ·grind
    ·exact⟨rfl,h.eo a _⟩
theorem gM.post (h:gM F G){k:Nat}(a:k≠0)(vs:a_):(F.post (k:Int) vs).1=(G.post (k:Int) vs).1/\gM (F.post (k:Int) vs).2 (G.post (k:Int) vs).2:=by
 unfold ay.post;rw[g1,g1,h.gb a,h.nodes,h.lines];split
 ·grind
 split
 ·grind
 split
 ·grind
 split
 ·grind
 split
 ·grind
 split
 ·grind
 exact⟨rfl,h.eo a _⟩
theorem gM.tail (h:gM F G)(b:k≠0){cv:Conv}{t:bK cv}(a:t.aL=(k:Int)):(gG F t).2=(gG G t).2/\gM (gG F t).1 (gG G t).1:=by
 unfold gG;rw[a];obtain⟨c,d⟩:=h.post b (cv.next t.bp t.a2).1
 grind
theorem gM.br (h:gM F G){k:Nat}(a:k≠0){cv:Conv}{t:bK cv}(b:t.aL=(k:Int)):(br F t).2=(br G t).2/\gM (br F t).1 (br G t).1:=by
 unfold Go.Proofs.YtmkljjbioomepaaGreat.br;have c:F.alive (k:Int)=G.alive (k:Int):=by unfold ay.alive;rw[g1,g1,h.gb a]
 have d:F.waiting (k:Int)=G.waiting (k:Int):=by unfold ay.waiting;rw[g1,g1,h.gb a]
 rw[b,c,d];split
 ·grind
 ·obtain⟨t1,t2⟩:=h.take a;rw[t1];refine t2.tail a ?_;cases(G.take (k:Int)).1<;>exact b
theorem J4 (h:F.dd=[]){C:a9}(a:F.aF[i]?=some C):hx C:=λk l b=>by
 cases al:l.pair.a1 with
 |nil=>rfl
 |cons v vs=>
  have hm:(⟨-1,((0+i:Nat):Int),((0+k:Nat):Int)⟩:fb) ∈ F.dd:=by
   unfold ay.dd
   grind[pe,pd]
  grind
end
section
variable {E:Env}{rs:c6}{F G:ay}{A:bn}{g:fp}{gr:Nat->c1}
theorem FQ (h:gC E rs G A g gr)(a:kf F G){x:fb}(N:x ∈ F.dd):∃ i m bE G',fC i m G=some G'/\F.step x=(true,bE)/\kf bE G'/\(i=0->0<=x.ew):=by
 have c:∀ {i m:Nat} {C:a9} {l:ct},G.aF[i]?=some C->C.az[m]?=some l->l.pair.a1≠[]->∃ y,G.nodes[m]?=some y:=λ{i m C l} d f al=>by
  have Z:=cS f;have ab:=(h.ev.cg.ok.aL i C d).az;refine⟨_,b2 ?_⟩
  grind
 have u:∀ {l:ct},0<l.pair.a1.length->l.pair.a1≠[]/\l.pair.a1.length≠0:=λ{l} al=>⟨λe=>by grind,by omega⟩
 unfold ay.dd at N;rcases i'.1 N with hm | hm
 ·obtain ⟨i,C,d,hm⟩:=pe.1 hm;obtain ⟨m,l,f,al,rfl⟩:=pd.1 hm;rw [iZ,iZ];obtain ⟨X,fm⟩:=u al;have D:i≠0:=λe=>by
   subst e;rw[a.dead C d]at f
   grind
  have s:G.aF[i]?=some C:=by rw[<-a.gb i D];exact d
  obtain⟨y,z⟩:=c s f X;have I:=iR.2 ⟨C,l,y,s,f,z,fm,rfl⟩;have J:=iR.2 ⟨C,l,y,d,f,by rw[a.nodes];exact z,fm,rfl⟩;refine⟨i,m,_,_,I,v3 J,?_,λe=>cp e D⟩;have:=a.eo D (C.comes m l (l.pair.step y).1 (l.pair.step y).2.2);exact⟨by simp only[a.nodes],a.lines,this.gb,this.dead,this.y0,a.nodup⟩
 ·obtain⟨q,p,H,rfl⟩:=Fd hm;rw[iZ];have U:=cS H;obtain⟨C,l,d,f,rfl,al⟩:=a.y0 p (b9 H);obtain⟨y,z⟩:=c d f al;have S:=cS d;have L:l.pair.a1.length≠0:=λe=>al (oL.1 e)
  have I:fC 0 l.pair.node.toNat G=some {G with nodes:=G.nodes.set l.pair.node.toNat (l.pair.step y).2.1,aF:=G.aF.set 0 (C.comes l.pair.node.toNat l (l.pair.step y).1 (l.pair.step y).2.2)}:=iR.2 ⟨C,l,y,d,f,z,L,rfl⟩;have K:F.step ⟨(q:Int),l.pair.aL,l.pair.node⟩=(true,{F with nodes:=F.nodes.set l.pair.node.toNat (l.pair.step y).2.1,bZ:=if(l.pair.step y).1.a1.length=0 then F.bZ.eraseIdx q else F.bZ.set q (l.pair.step y).1}):=by unfold ay.step;rw[bh (by grind)];unfold ay.iY;simp only[hD,H,a.nodes,z]
  have n:=Pe l.pair y;refine⟨0,_,_,_,I,K,⟨by simp only[a.nodes],a.lines,λk M=>?_,a.dead,λp' o=>?_,?_⟩,λ_=>(by show(0:Int)<=((q:Nat):Int);omega)⟩
  ·show F.aF[k]?=(G.aF.set 0 _)[k]?;rw[jN (λe=>M e.symm)];exact a.gb k M
  ·have j:∀ r,r ∈ F.bZ.eraseIdx q->∃ B l2,(G.aF.set 0 (C.comes l.pair.node.toNat l (l.pair.step y).1 (l.pair.step y).2.2))[0]?=some B/\B.az[r.node.toNat]?=some l2/\l2.pair=r/\r.a1≠[]:=by
    intro r w;obtain⟨B,l2,t,R,rfl,V⟩:=a.y0 r (zy w);rw[d]at t;cases t;have u:l2.pair.node.toNat≠l.pair.node.toNat:=by
     obtain⟨i2,b,Q⟩:=List.mem_eraseIdx_iff_getElem?.1 w;intro e;have T:=a.nodup;have P:(F.bZ.map λp=>p.node.toNat)[i2]?=some l.pair.node.toNat:=by grind
     grind[List.getElem?_inj,cS]
    grind[List.getElem?_set_self,k8]
   simp only at o;split at o
   ·grind
   ·rename_i W;obtain⟨i2,b⟩:=ez.1 o;by_cases e:q=i2
    ·subst e;rw[kX U]at b;cases b;obtain⟨l',P,Y⟩:=yV f (l.pair.step y).1 (l.pair.step y).2.2
     grind
    ·rw[jN e]at b;exact j p' (List.mem_eraseIdx_iff_getElem?.2 ⟨i2,λO=>e O.symm,b⟩)
  ·simp only;split
   ·exact a.nodup.sublist ((List.eraseIdx_sublist _ _).map _)
   ·rw [mM,n];have:(F.bZ.map λp=>p.node.toNat).set q l.pair.node.toNat=F.bZ.map λp=>p.node.toNat:=by
     apply i_
     grind
    rw[this];exact a.nodup
theorem Q5 (h:gC E rs G A g gr)(q:gM F G){x:fb}(n:x ∈ F.dd):∃ i m bE G',fC i m G=some G'/\F.step x=(true,bE)/\gM bE G'/\(F=G->bE=G'):=by
 by_cases d:F=G
 ·subst d;have f:∀ {i m:Nat} {C:a9} {l:ct},F.aF[i]?=some C->C.az[m]?=some l->l.pair.a1≠[]->∃ y,F.nodes[m]?=some y:=λ{i m C l} j k al=>by
   have t:=cS k;have u:=(h.ev.cg.ok.aL i C j).az;refine⟨_,b2 ?_⟩
   grind
  have o:∀ {l:ct},0<l.pair.a1.length->l.pair.a1≠[]/\l.pair.a1.length≠0:=λ{l} al=>⟨λe=>by grind,by omega⟩
  unfold ay.dd at n;rw[h.fY]at n;rcases i'.1 n with hm | hm
  ·obtain⟨i,C,j,hm⟩:=pe.1 hm;obtain⟨m,l,k,al,rfl⟩:=pd.1 hm;rw[iZ,iZ];obtain⟨s,fm⟩:=o al;obtain⟨y,r⟩:=f j k s;have p:=iR.2 ⟨C,l,y,j,k,r,fm,rfl⟩;exact⟨i,m,_,_,p,v3 p,.inl rfl,λ_=>rfl⟩
  grind[kA]
 ·obtain⟨i,m,bE,G',a,b,c,_⟩:=FQ h (q.resolve_left d) n;exact⟨i,m,bE,G',a,b,.inr c,λe=>cp e d⟩
theorem Pf (h:gC E rs G A g gr)(d:gM F G)(sch:a7)(n:Nat):(e6 F sch n=(false,F)/\F.dd=[])\/∃ i m bE G',fC i m G=some G'/\e6 F sch n=(true,bE)/\gM bE G'/\(F=G->bE=G'):=by
 unfold Go.Proofs.YtmkljjbioomepaaGreat.e6;cases f:F.dd[jM F sch n]? with
 |some x=>exact .inr (Q5 h d (b9 f))
 |none=>
  refine .inl ⟨rfl,?_⟩;rcases J8 F.dd.length with e | a
  ·grind
  ·exfalso;have c:jM F sch n<F.dd.length:=by
    unfold jM;split
    ·have j:=uv (sch.getD n 0) (b:=(F.dd.length:Int)) (by omega);have k:=uu (sch.getD n 0) (b:=(F.dd.length:Int)) (by omega);omega
    grind
   grind
theorem dq.trans {E:Env}{A B C:bn}(h:dq E A B)(a:dq E B C):dq E A C:=⟨λm x=>a.cX m (h.cX m x),λm x=>a.dO m (h.dO m x),λm x=>a.fH m (h.fH m x),λm x=>a.c0 m (h.c0 m x),λm l x=>a.b6 m l (h.b6 m l x)⟩
def hC (rs:c6)(G:ay)(g:fp)(gr:Nat->c1):Nat:=eR G 0+rV g.aE+(rs.map λc=>eR G c+h2 (gr c).aE).sum
structure iM (E:Env)(rs cs:c6)(F:ay)(ts:List fi)(G:ay)(A:bn)(g:fp)(gr:Nat->c1):Prop where
 gd:gC E rs G A g gr
 qy:gM F G
 len:ts.length=cs.length
 gz:∀ (k c:Nat) (t:fi),cs[k]?=some c->ts[k]?=some t->(c=0/\F=G/\o2 E A g t)\/(c ∈ rs/\p6 E c (gr c) t)
def p0 (rs:c6)(G:ay)(g:fp)(gr:Nat->c1)(c:Nat):Prop:=(c=0->g.aE=6\/g.aE=7\/∃ C,G.aF[0]?=some C/\¬ hx C)/\(c ∈ rs->(gr c).aE=10\/(gr c).aE=11\/∃ C,G.aF[c]?=some C/\¬ hx C)
theorem wI (au:b8 E)(x:∀ c ∈ rs,1<=c/\c<6){cs:c6}(I:cs.Nodup):∀ (l:List fi) {pre:List fi} {F G:ay} {g:fp} {gr:Nat->c1},iM E rs cs F (pre++l) G A g gr->
  ∃ G' y i,iM E rs cs (turns F l).1 (pre++(turns F l).2) G' A y i/\hC rs G' y i<=hC rs G g gr/\(∀ k c:Nat,k<pre.length->cs[k]?=some c->p0 rs G g gr c->p0 rs G' y i c)/\∀ k c:Nat,pre.length<=k->cs[k]?=some c->p0 rs G' y i c
 | [],pre,F,G,g,gr,h=>⟨G,g,gr,h,db _,λ_ _ _ _ p=>p,λk c V ah=>by
  have:=h.len
  grind⟩
 |t::l,pre,F,G,g,gr,h=>by
  have C:0 ∉ rs:=λe=>by grind
  have M:=h.len;rw[fF,h3]at M;obtain⟨c,q⟩:∃ c,cs[pre.length]?=some c:=⟨_,b2 (by omega)⟩;have X:(pre++t::l)[pre.length]?=some t:=by grind
  have O:∀ {k:Nat},cs[k]?=some c->k=pre.length:=λ{k} d=>(Kb (cS d) I).1 (d.trans q.symm)
  have hlen:((pre++[(br F t).2])++l).length=cs.length:=by grind
  have D:∀ {k c':Nat} {u:fi},cs[k]?=some c'->((pre++[(br F t).2])++l)[k]?=some u->(k=pre.length/\c'=c/\u=(br F t).2)\/(c'≠c/\(pre++t::l)[k]?=some u):=λ{k c' u} d r=>by
   grind
  have key:∃ B w j,iM E rs cs (br F t).1 ((pre++[(br F t).2])++l) B A w j/\hC rs B w j<=hC rs G g gr/\(∀ k c':Nat,k<pre.length->cs[k]?=some c'->p0 rs G g gr c'->p0 rs B w j c')/\p0 rs B w j c:=by
   rcases h.gz _ c t q X with⟨rfl,rfl,K⟩ | ⟨o,K⟩
   ·obtain⟨w,L,bW,R,J,S,_⟩:=SS au C h.gd K;refine⟨_,w,gr,⟨L,.inl rfl,hlen,λk c' u d r=>?_⟩,?_,λk c' d a z=>?_,λ_=>?_,λe=>cp e C⟩
    ·rcases D d r with⟨_,rfl,rfl⟩ | ⟨f,g⟩
     ·grind
     ·rcases h.gz k c' u d g with⟨e,_⟩ | b
      ·grind
      grind
    ·have:(rs.map λc=>eR (br F t).1 c+h2 (gr c).aE).sum<=(rs.map λc=>eR F c+h2 (gr c).aE).sum:=uT λk d=>by
      grind[eR,br]
     grind[hC]
    ·have f:c'≠0:=λe=>by grind
     refine⟨λe=>cp e f,λo=>?_⟩
     rw[J c' f];exact z.2 o
    grind
   ·have W:=x c o;have n:c≠0:=by omega
    obtain⟨s,L,bW,R,J,S,_⟩:=SV au x h.gd o K;obtain⟨b1,T⟩:=h.qy.br n K.cC;refine⟨(br G t).1,g,ik gr c s,⟨L,T,hlen,λk c' u d r=>?_⟩,?_,λk c' d a z=>?_,λe=>cp e n,λ_=>?_⟩
    ·rcases D d r with⟨_,rfl,rfl⟩ | ⟨f,U⟩
     ·grind[e5]
     ·rcases h.gz k c' u d U with⟨e,ag,b⟩ | ⟨e,b⟩
      ·grind
      grind[kF]
    ·have V:eR (br G t).1 0=eR G 0:=by grind[eR]
     have:(rs.map λk=>eR (br G t).1 k+h2 (ik gr c s k).aE).sum<=(rs.map λk=>eR G k+h2 (gr k).aE).sum:=uT λk d=>by
      grind[e5,eR,br,kF]
     grind[hC]
    ·have f:c'≠c:=λe=>by grind
     refine⟨λe=>?_,λH=>?_⟩
     ·rw[J 0 (λe=>n e.symm)];exact z.1 e
     ·rw[J c' f,kF f];exact z.2 H
    grind[e5]
  obtain⟨B,w,j,Y,Z,ab,ad⟩:=key;obtain⟨G',y,i,P,ae,Q,af⟩:=wI au x I l Y;have N:turns F (t::l)=((turns (br F t).1 l).1,(br F t).2::(turns (br F t).1 l).2):=rfl;rw[N];refine⟨G',y,i,by rw[ke]at P;exact P,mK ae Z,λk c' d a z=>Q k c' (by simp;omega) a (ab k c' d a z),λk c' d a=>?_⟩;by_cases e:k=pre.length
  ·subst e;rw[q]at a;cases a;exact Q pre.length c (by simp) q ad
  ·exact af k c' (by simp;omega) a
theorem FR (au:b8 E)(f:∀ c ∈ rs,1<=c/\c<6){ts:List fi}(h:iM E rs cs F ts G A g gr){bE G':ay}(x:fC i m G=some G')(w:gM bE G')(r:F=G->bE=G'):∃ A' j a,iM E rs cs bE ts G' A' j a/\hC rs G' j a<hC rs G g gr/\dq E A A':=by
 obtain⟨A',j,a,z,n,o,D,H,I,C,C',L,M,N,B⟩:=FM au f h.gd x;have q:0 ∉ rs:=λe=>by grind
 refine⟨A',j,a,⟨z,w,h.len,λk c t l y=>?_⟩,?_,H⟩
 ·rcases h.gz k c t l y with⟨e,p,b⟩ | ⟨e,b⟩
  ·exact .inl ⟨e,r p,b.aA n D⟩
  ·exact .inr ⟨e,b.aA (o c)⟩
 ·have u:∀ c,(a c).aE=(gr c).aE:=λc=>Ax (o c)
  have s:eR G' i<eR G i:=by grind[eR]
  have d:∀ k,k≠i->eR G' k=eR G k:=λk l=>by grind[eR]
  unfold hC;rw[n];rcases I with e | e
  ·subst e;have:(rs.map λc=>eR G' c+h2 (a c).aE).sum<=(rs.map λc=>eR G c+h2 (gr c).aE).sum:=uT λk l=>by
    grind
   omega
  ·have K:=f i e;have J:=d 0 (by omega);have:(rs.map λc=>eR G' c+h2 (a c).aE).sum<(rs.map λc=>eR G c+h2 (gr c).aE).sum:=Gg (i:=i) (λk l=>by
    grind) e (by grind)
   omega
def uz (ts:List fi):Prop:=∀ t ∈ ts,t.en=true
theorem Q6 (b:∀ c ∈ rs,1<=c/\c<6){ts:List fi}(h:iM E rs cs F ts G A g gr)(n:∀ c ∈ cs,p0 rs G g gr c)(r:F.dd=[]):uz ts:=λt o=>by
 obtain⟨k,j⟩:=ez.1 o;obtain⟨c,i⟩:∃ c,cs[k]?=some c:=⟨_,b2 (by rw[<-h.len];grind)⟩;have f:=n c (b9 i);rcases h.gz k c t i j with⟨e,q,a⟩ | ⟨e,a⟩
 ·rcases f.1 e with p | p | ⟨C,d,l⟩
  ·exact(a.fin p).1
  ·exact(a.ref p).1
  grind[J4]
 ·rcases f.2 e with p | p | ⟨C,d,l⟩
  ·exact(a.fin p).1
  ·exact(a.busy p).1
  ·have:=b c e;rw[<-h.qy.gb (by omega)]at d
   grind[J4]
theorem yZ:∀ {ts:List fi} {F:ay},uz ts->turns F ts=(F,ts)
 | [],F,_=>rfl
 |t::ts,F,h=>by
  have a:br F t=(F,t):=by unfold br;rw[bh (.inl (h t fR))]
  show((turns (br F t).1 ts).1,(br F t).2::(turns (br F t).1 ts).2)=_;rw[a];show((turns F ts).1,t::(turns F ts).2)=_;rw[yZ λx b=>h x (fG _ b)]
theorem AZ (au:b8 E)(a:∀ c ∈ rs,1<=c/\c<6){cs:c6}(j:cs.Nodup)(ds sch:a7):∀ (f n:Nat) {F G:ay} {ts:List fi} {A:bn} {g:fp} {gr:Nat->c1},iM E rs cs F ts G A g gr->
  ∃ G' A' p d,iM E rs cs (eG ds sch [] f n F ts).1 (eG ds sch [] f n F ts).2 G' A' p d/\dq E A A'/\hC rs G' p d<=hC rs G g gr/\(hC rs G g gr<f->uz (eG ds sch [] f n F ts).2/\(eG ds sch [] f n F ts).1.dd=[])
 | 0,n,F,G,ts,A,g,gr,h=>⟨G,A,g,gr,h,dq.refl E A,db _,λhw=>by omega⟩
 |f+1,n,F,G,ts,A,g,gr,h=>by
  obtain⟨s,u,l,b,H,_,Q⟩:=wI au a j ts (pre:=[]) h;rw[qO]at b;unfold eG;have B:je F ds n []=F:=rfl;rw[B];rcases Pf b.gd b.qy sch n with⟨e,q⟩ | ⟨i,m,bE,G',D,e,C,y⟩
  ·rw[e,aQ (by simp)];refine⟨s,A,u,l,b,dq.refl E A,H,λ_=>⟨Q6 a b (λc z=>?_) q,q⟩⟩;obtain⟨k,P⟩:=ez.1 z
   grind
  ·rw[e,bh rfl];obtain⟨N,O,x,I,R,J⟩:=FR au a b D C y;obtain⟨t,r,w,o,K,L,S,M⟩:=AZ au a j ds sch f (n+1) I;exact⟨t,r,w,o,K,J.trans L,by omega,λhw=>M (by omega)⟩
theorem N4 (au:b8 E)(d:∀ c ∈ rs,1<=c/\c<6)(b:cs.Nodup){ts:List fi}(h:iM E rs cs F ts G A g gr)(sch:a7)(most:Nat) :
  ∃ G' A' e a,iM E rs cs (dP F ts sch [] most).1 (dP F ts sch [] most).2 G' A' e a/\dq E A A'/\hC rs G' e a<=hC rs G g gr/\(hC rs G g gr<most->uz (dP F ts sch [] most).2/\(dP F ts sch [] most).1.dd=[]):=by
 unfold dP;obtain⟨l,k,o,f,j,q,s,r⟩:=AZ au d b (ts.map bK.aL) sch most 0 h;obtain⟨n,p,i,t,u,_,_⟩:=wI au d b _ (pre:=[]) j
 grind[yZ]
theorem Pg (au:b8 E)(j:∀ c ∈ rs,1<=c/\c<6)(i:cs.Nodup){ts:List fi}(h:iM E rs cs F ts G A g gr)(sch:a7)(most:Nat) :
  ∃ G' A' f e,iM E rs cs (dP F ts sch [] most).1 (dP F ts sch [] most).2 G' A' f e/\dq E A A'/\hC rs G' f e<=hC rs G g gr/\(hC rs G g gr<most->uz (dP F ts sch [] most).2):=by
 obtain⟨G',A',f,e,a,b,c,d⟩:=N4 au j i h sch most
 grind
end
end
section
open dF

end
section
open dF
theorem Ph {x:Nat}(b:x<18446744073709551616):hE .u64 (x:Int) 255=((x % 256:Nat):Int):=by
 have a:hE .u64 (x:Int) ((2 ^ 8-1:Nat):Int)=(x:Int) % (2 ^ 8:Nat):=Dh (by omega) (by omega) 8 (by omega)
 grind
theorem D4 (b:256*a<18446744073709551616)(c:k<255):dK ((256*a:Nat):Int) k=((256*a+(k+1):Nat):Int):=by
 unfold dK;have e:((k:Int)+1)=((k+1:Nat):Int):=by omega
 rw[e,uB _ _ b (by omega)];congr 1;exact(Nat.two_pow_add_eq_or_of_lt (i:=8) (by omega) a).symm
theorem QI:c3 .u64 ((256*a:Nat):Int) 8=(a:Int):=by
 show Int.fdiv ((256*a:Nat):Int) 256=_
 grind
theorem N5 (b:256*(a+1)<18446744073709551616):mO ((256*a:Nat):Int)=((256*(a+1):Nat):Int):=by
 unfold mO;rw[QI];show IntKind.u64.wrap (((a:Int)+1)*256)=_
 grind[ly]
theorem Mh {p:aN}(h:l0 p=true):∃ a:Nat,p.Head=((256*a:Nat):Int)/\1<=a/\a<=281474976710654:=by
 simp only[l0,lZ,mG,gL,mL,beq_iff_eq]at h;obtain⟨⟨b,c⟩,d⟩:=h;have e:c3 .u64 p.Head 8=p.Head / 256:=by
  show Int.fdiv p.Head 256=_
  grind
 rw[e]at b c;obtain⟨x,f⟩:∃ x:Nat,p.Head=x:=⟨p.Head.toNat,by omega⟩;rw[f]at b c d ⊢;rw[Ph (by omega)]at d;exact⟨x / 256,by omega,by omega,by omega⟩
theorem Pj {l:List aN}(h:∀ i,i<l.length->k1 l i=true):∀ a b (e:a<l.length) (c:b<l.length),a<b->l[a].bt<l[b].bt:=by
 intro a b e c f;induction b with
 |zero=>omega
 |succ b g=>
  have d:=h (b+1) c;simp only[k1,Bool.or_eq_true,mL,hO]at d
  grind
theorem D5 {l L:Int}(h:jf l L=true):∃ k:Nat,l=(k:Int)/\96<=k/\(k:Int)<L:=by simp only[jf,mL]at h;exact⟨l.toNat,by omega,by omega,by omega⟩
theorem eB.VA {E:Env}{j:cJ}(al:j.valid=0)(A:j.aL=(i:Int))(z:i<6)(hw:j.v=j' E.n)(H:j.lines=E.L)(w:j.writes≠[])(B:∀ p ∈ j.writes,p.Head=E.base p.bt.toNat 0)(F:∀ s ∈ j.reads,s.Head=E.base s.bt.toNat 0):eB E i j:=by
 have t:=al;have hlen:0<j.writes.length:=wz.2 w;unfold cJ.valid at al;split at al
 ·omega
 split at al
 ·grind
 split at al
 ·omega
 next C=>
 split at al
 ·grind
 next b=>
 split at al
 ·omega
 next y=>
 split at al
 ·omega
 next o=>
 split at al
 ·omega
 next f=>
 have b:gk j.seq j.writes j.lines=0:=Decidable.not_not.1 λe=>b ⟨hlen,e⟩
 unfold gk at b;split at b
 ·omega
 split at b
 ·omega
 next G=>
 split at b
 ·omega
 next u=>
 split at b
 ·omega
 next g=>
 have u:∀ p ∈ j.writes,jf p.bt j.lines=true:=jt.1 (by grind);have o:∀ p ∈ j.reads,jf p.bt j.lines=true:=jt.1 (by grind);have g:∀ i,i<j.writes.length->k1 j.writes i=true/\l0 (j.writes.getD i iA)=true:=λi h=>by
  grind
 have f:∀ i,i<j.reads.length->nD j.reads j.writes i=true:=λi h=>jt.1 (show(List.range j.reads.length).all (nD j.reads j.writes)=true by grind) i (gS.2 h)
 have D:=Pj λi h=>(g i h).1
 have d:∀ p ∈ j.writes,∃ a:Nat,p.Head=((256*a:Nat):Int)/\1<=a/\a<=281474976710654:=λp c=>by
  obtain⟨k,l,rfl⟩:=Kc c
  grind[List.getElem?_eq_getElem,Mh]
 refine⟨A,z,t,hw,w,by omega,by omega,λp c=>?_,λp c=>?_,λp c q I e=>?_,?_,B,λp c k l=>?_,λp c=>?_,F,λs r p c e=>?_⟩
 ·grind[D5]
 ·grind[D5]
 ·grind[List.getElem_of_mem,Nat.lt_trichotomy]
 ·grind[List.pairwise_iff_getElem]
 ·obtain⟨a,e,b,x⟩:=d p c;rw[e,D4 (by omega) (by omega),D4 (by omega) (by omega)]
  grind
 ·obtain⟨a,e,b,x⟩:=d p c;rw[e,N5 (by omega)];omega
 ·obtain⟨k,l,rfl⟩:=Kc r;have:=f k l;simp only[nD,gL,hO,b2 l,zv,has,J9,mL]at this
  grind
end
section
open dF
def A0 (l k:Nat):Int:=if k=0 then 256 else 0
def uF (n L:Nat):Bool:=
 let w:=fmt L n
 w.length == L*8 && (w.getD 0 0 == 1 && (w.getD 1 0 == 1 && ((List.range 6).all (λc=>w.getD (24+c) 0 == 1 && w.getD (32+c) 0 == 0) && (List.range (L-96)).all λq=>(List.range 8).all λk=>w.getD ((q+96)*8+k) 0 == A0 0 k)))
end
end Go.Proofs.YtmkljjbioomepaaGreat
