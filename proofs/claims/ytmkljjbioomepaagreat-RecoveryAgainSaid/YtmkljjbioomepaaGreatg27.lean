import Derived.Test.YtmkljjbioomepaaGreatg25
import Derived.Test.YtmkljjbioomepaaGreatg13
import Derived.Test.YtmkljjbioomepaaGreatg14
import Derived.Test.YtmkljjbioomepaaGreatProg
import Derived.Test.YtmkljjbioomepaaGreatg02
import Derived.Laws.BytesArg
import Derived.Test.YtmkljjbioomepaaGreatg09
import Derived.Test.YtmkljjbioomepaaGreatg06
import Derived.Test.YtmkljjbioomepaaGreatg07
set_option linter.all false
set_option maxHeartbeats 4000000
set_option maxRecDepth 100000
namespace Go.Proofs.YtmkljjbioomepaaGreat
open Go.Proofs.Tryz Go.bJ
variable {A:a4}{K:ak->Nat->Nat->aJ}{L X ws:a7}{a s:ak}{b aK c cs g i m n:Nat}{u w w0:an}{v:bf}{x:Int}
section
open dI
def vu:Nat->ay->List fi->Option (ay×List fi)
 | 0,_,_=>none
 |f+1,F,l=>match turns F l with
  | (bE,l')=>match e6 bE [] 0 with
   | (true,a)=>vu f a l'
   | (false,a)=>some (a,l')
theorem OR (F:ay)(n:Nat):e6 F [] n=e6 F [] 0:=by
 grind[e6,jM]
theorem G5 (cs:a7):∀ (f f' n:Nat) {F:ay} {l:List fi} {e:ay×List fi},vu f F l=some e->f<=f'->eG cs [] [] f' n F l=e
 | 0,f',n,F,l,e,h,a=>by cases h
 |f+1,0,n,F,l,e,h,a=>by omega
 |f+1,f'+1,n,F,l,e,h,a=>by
  unfold vu at h;unfold eG;have c:je F cs n []=F:=rfl;rw[c,OR];cases g:turns F l with
  |mk bE l'=>
   rw[g]at h;simp only at h ⊢;cases d:e6 bE [] 0 with
   |mk b i=>
    rw[d]at h;cases b with
    |true=>simp only at h ⊢;rw[bh trivial];exact G5 cs f f' (n+1) h (by omega)
    |false=>
     grind
def HK:ay×List fi:=dP (ay.fresh 1 2 101) [l8 1 0] [] [] 3
def IP (t:fi):Bool:=match t.out with
 |.inl _=>false
 |.inr o=>o.Code == 0 && (o.kx == 3 && o.ku == 2)
def HJ (e:ay×List fi):Bool:=match e.2 with
 | [t]=>t.en && (IP t && match e.1.nodes with
  | [x]=>!x.down && (x.words.length == 808 && x.get 768 == 256)
  | _=>false)
 | _=>false
def HI:Bool:=match HK with
 | (a,c)=>(match a.nodes with
  | [x]=>!x.down && (x.words.length == 808 && x.get 768 == 257)
  | _=>false) && (c.length == 1 && match a.die 0 with
   | (true,b)=>(match vu 60 b [kc 1 1]with
    |some e=>HJ e
    |none=>false)
   | (false,_)=>false)
theorem So:HI=true:=by kernel_rfl
structure Kx (z5 D0 D1:ay)(hI:List fi)(t:fi)(y1 y2:aD):Prop where
 d1:dP (ay.fresh 1 2 101) [l8 1 0] [] [] 3=(z5,hI)
 UW:z5.nodes=[y1]/\y1.down=false/\y1.words.length=808/\y1.get 768=257
 die:z5.die 0=(true,D0)
 d3:mI D0 (kc 1 1)=(D1,[t])
 UX:D1.nodes=[y2]/\y2.down=false/\y2.words.length=808/\y2.get 768=256
 one:∃ t1,hI=[t1]
 en:t.en=true
 out:∃ o:dB,t.out=.inr o/\o.Code=0/\o.kx=3/\o.ku=2
theorem Ty:∃ j k n r t d f,Kx j k n r t d f:=by
 have h:=So;unfold HI at h;cases s:HK with
 |mk j r=>
 rw[s]at h;simp only[gL]at h;obtain⟨A,q,c⟩:=h;have g:∃ d,j.nodes=[d]/\d.down=false/\d.words.length=808/\d.get 768=257:=by
  grind
 obtain⟨d,g⟩:=g;cases u:j.die 0 with
 |mk b k=>
 rw[u]at c;cases b with
 |false=>cases c
 |true=>
 simp only at c;cases w:vu 60 k [kc 1 1]with
 |none=>grind
 |some e=>
 rw[w]at c;obtain⟨n,z⟩:=e;unfold HJ at c;simp only at c;cases z with
 |nil=>cases c
 |cons t l=>
 cases l with
 |cons a l=>cases c
 |nil=>
 simp only[gL]at c;obtain⟨x,o,B⟩:=c;have i:∃ f,n.nodes=[f]/\f.down=false/\f.words.length=808/\f.get 768=256:=by
  grind
 obtain⟨f,i⟩:=i;have p:mI k (kc 1 1)=(n,[t]):=by unfold mI dP;rw[G5 _ 60 20000 0 w (by omega)];exact yZ λC y=>by grind
 refine⟨j,k,n,r,t,d,f,s,g,u,p,i,?_,x,?_⟩
 ·rw[beq_iff_eq]at q
  grind[List.length_eq_one_iff]
 unfold IP at o
 grind
end
section
open dI
theorem AU {X:bs}{F:ay}(h:X.pure=F){x:aD}(a:F.nodes=[x]):∃ y,X.nodes[0]?=some y/\y.n=x:=by
 rw[<-h]at a;obtain⟨y,b,rfl⟩:=wS (f:=λy:g4=>y.n) (l:=X.nodes) (y:=x) (by grind[bs.pure])
 grind
theorem RU {X:bs}{F:ay}(h:X.pure=F)(a:cr F):X.bZ.length<=100000000:=by
 have b:=a.le
 grind[bs.pure]
theorem GE (n c:Nat):nW (kc n c):=λ_=>by show([]:a3).length<=200;simp
section
attribute [local irreducible] dP mI
theorem RV (w:an):a5 14 [] w λv u=>v=.bool true/\ai w u:=by
 obtain⟨b0,b2,cW,de,t,dB,dC,f⟩:=Ty;obtain⟨t1,rfl⟩:=f.one;have da:hH 0=[96]:=by decide
 have bh:cr (ay.fresh 1 2 101):=cr.fresh (by omega) (by omega) (by omega);have F:cr b0:=by
  have:=cr.dP bh [l8 1 0] [] [] 3;rw[f.d1]at this
  grind
 have ca:cr b2:=by
  have:=F.die 0;rw[f.die]at this
  grind
 refine ba Tryz.func14 ?_;rw[YH];refine aB (Fx (n:=1) (c:=2) (lines:=101) (by omega) (by omega) (by omega)) ?_;rintro v bQ ⟨aM,A,aw,X,rfl,aX,ab,b7,bK⟩;refine⟨_,_,rfl,dG rfl ?_⟩;rintro b1 cl a0 ah;obtain⟨J,j⟩:=bo a0 ah;have J:av cl b1 (is (ns [96])) 3:=J;clear ah;obtain⟨bT,br,E⟩:=AU (x:=⟨fmt 101 1,false⟩) bK rfl;have hlen:bT.n.words.length=808:=by
  rw[E];obtain⟨h,_⟩:=y8 (n:=1) (by omega);simp only[uF,gL,beq_iff_eq]at h
  grind
 refine aB (D7 (aX.new j) (n:=1) (by omega) br (by grind) (L:=[96]) (λl dd=>by grind) (by simp) (cc:=1) (fj J rfl) 0 1) ?_;rintro v bw ⟨M,N,O,rfl,G,al,b,bq⟩;have bb:qa bT.n [96]=[lN 96]:=by
  have:=D8 (n:=1) (y:=0) (by omega) (by omega) E
  grind
 rw[bb]at b;have ct:=j.size;have cy:=G.size;refine cu.aV (j2 0 1 101 M N 1 O) ⟨true,rfl,?_⟩;refine io (vs:=(j2 0 1 101 M N 1 O).cells) rfl (cu.single _) λp dz b8 K bj=>?_
 refine dG rfl (cu.aV (j2 0 1 101 M N 1 O) ⟨bX K rfl,?_⟩);rintro c3 bP a8 ao;obtain⟨bA,H⟩:=bo a8 ao;clear ao;have cm:=K.lt;have cz:=H.size;have d:ai bw bP:=bj.new H;have ad:ai w bw:=ab.new (j.new G);have P:cj A aw bw aM X:=aX.new (j.new G);have aR:∀ k,A k->k<bQ.heap.size:=λk z=>aX.low k z
 have bl:hb (λk=>A k\/k=p) bP (j2 0 1 101 M N 1 O) (l8 1 0):=by
  have bk:l8 1 0=A3 0 ⟨0,1,101,j' 1,[],[lN 96]⟩:=by grind[l8,v5]
  rw[bk];refine ED ((al.mono λk cn z=>z.resolve_right (by omega)).new d) (b.rd.new d) rfl (by simp) ?_ ?_
  ·exact hv b.rd λk z db=>by
    have c7:=bq _ z;have c9:=b.lt z
    grind
  grind[GZ]
 refine aB (EF P d (b1:=p) ⟨by omega,by omega⟩ (by grind) bl (CK 1 0) (pc:=1) (fj bA (by simp)) (sch:=[]) (sa:=none) (sc:=0) ⟨.inl rfl,.inl rfl⟩ (λx cB=>by cases cB) (most:=3) (by omega) (by rw[bK];exact f.d1)) ?_;rintro v cT ⟨la,lc,r1,cU,dE,cY,rfl,T,g,cA,_,a'⟩;refine⟨_,_,_,rfl,?_⟩;obtain⟨cG,fm,dn,dp⟩:=f.UW;obtain⟨aP,bx,bM⟩:=AU g cG;refine aB (AN T.cw bx (l:=96) (by omega) (by grind) (by grind)) ?_;rintro v u8 ⟨rfl,Y⟩;refine aN.aV (aP.n.gP 96) ⟨true,rfl,?_⟩;refine io (vs:=(aP.n.gP 96).cells) rfl (aN.single _) λc4 dA b9 bC Z=>?_
 have U:=T.new (Y.new Z);have cb:(aP.n.gP 96).Head=257:=by
  have:(aP.n.gP 96).Head=aP.n.get 768:=rfl
  grind
 refine dG rfl ⟨_,bC.cell (i:=1) rfl,dG (by grind) ?_⟩;refine aB (G8 U.cw (by rw[g];exact F.cg.ok) (RU g F) 0) ?_;rintro v bH ⟨rfl,ae⟩;rw[g,f.die]at ae ⊢;obtain⟨bV,dK,cZ,q,aZ,_,_,_,Q⟩:=U.op ae;refine⟨_,rfl,dG rfl ?_⟩;refine aB (A2 (A:=λk=>bV k\/k=p) (λk z=>q.cw.low k z) (n:=1) (by omega) 1 0) ?_;rintro v cP ⟨bD,rfl,B,bm⟩;refine cu.aV (qx 1 0 bD) ⟨rfl,?_⟩;have r:=q.new B;refine aB (FW r.cw (by grind) (t:=kc 1 1) (EE bm ⟨by omega,by omega⟩) (GE 1 1)) ?_;rintro v bI ae;rw[aZ]at ae;obtain⟨cV,dL,c2,S,V,⟨cI,bO,I,rfl,af⟩,_,_,R⟩:=r.op ae;rw[f.d3]at I V;have I:cI=t:=by grind
 subst I;have aG:av bI p (j2 0 1 101 M N 1 O).cells 45:=by have b3:av cT p (j2 0 1 101 M N 1 O).cells 45:=a'.trans (ai.aj H K);have b5:av bH p (j2 0 1 101 M N 1 O).cells 45:=(Q p rfl).trans (ai.aj (Y.new Z) b3);exact(R p rfl).trans (ai.aj B b5)
 refine cu.aV bO ⟨rfl,?_⟩;refine dY (vs:=bO.cells) aG rfl (cu.single _) λcQ aH W=>?_
 have s:=S.local W λk e=>e
 obtain⟨cF,dg,di,dm⟩:=f.UX;obtain⟨aQ,bz,bN⟩:=AU V cF;refine aB (AN s.cw bz (l:=96) (by omega) (by grind) (by grind)) ?_;rintro v cR ⟨rfl,C⟩;refine aN.aV (aQ.n.gP 96) ⟨true,rfl,?_⟩;refine io (vs:=(aQ.n.gP 96).cells) rfl (aN.single _) λc5 cS b_ aO D=>?_
 have a:=ai.aj (C.new D) aH;obtain⟨o,cp,dq,dr,dt⟩:=f.out;have ag:=af.out;rw[cp]at ag;obtain⟨du,dv,dx,dy⟩:=ag;have cd:(aQ.n.gP 96).Head=256:=by
  have:(aQ.n.gP 96).Head=aQ.n.get 768:=rfl
  grind
 refine⟨_,a.cell (i:=24) rfl,hc (af.en.trans f.en) ⟨_,a.cell (i:=26) rfl,hc (by grind) ⟨_,a.cell (i:=33) rfl,hc (by grind) ⟨_,a.cell (i:=35) rfl,hc (by grind) (hc rfl ⟨_,aO.cell (i:=1) rfl,?_,?_⟩)⟩⟩⟩⟩
 ·grind
 ·exact(s.new (C.new D)).jg P ad b7
end
end
section
def a9.IL (C:a9):a9:={C with jo:=0,kL:=0}
section
variable {cv:Conv}
end
end
section
open dI

end
section
set_option maxRecDepth 100000
end
section
set_option maxRecDepth 100000
end
section
set_option maxRecDepth 100000
end
section
open dI
theorem Fr:∀ {ls:List ct},(∀ l ∈ ls,l.pair.a1=[])->gQ ls=0
 | [],_=>rfl
 |l::ls,h=>by
  have:=Fr λx a=>h x (fG l a)
  unfold gQ at this ⊢;rw[iI,pO,this,h l fR];rfl
theorem F8 {F:ay}(u:cr F)(f:ek F){C:a9}(r:F.aF[i]?=some C)(x:F.nodes.length=n)(g:C.inc=1)(b:C.alive=true)(s:C.batch=none)(t:∀ l ∈ C.az,l.pair.a1=[]):C.IL=hd n i:=by
 have a:=u.cg.ok.aL i C r;have hlen:=a.az;rw[b,bh rfl,x]at hlen;have c:C.az=hU n i 1:=by
  apply i_;intro j;unfold hU;by_cases w:j<n
  ·rw[fQ,si w];obtain⟨l,c⟩:∃ l,C.az[j]?=some l:=⟨_,b2 (by omega)⟩;rw[c];have hm:=b9 c;have e:=a.lane j l c;have al:=t l hm;obtain⟨p,q⟩:=f C (b9 r) l hm al;have h:=e.bG;rw[al]at h;have d:=oL.1 h;clear h;have k:=e.aL;have gj:=e.inc;have o:=e.node;obtain⟨⟨G,H,I,J,K,L⟩,pl⟩:=l;simp only at k gj o p q al d;rw[g]at gj;subst k gj o p q al d;rfl
  ·rw[uq (by omega),uq (by simp;omega)]
 have hw:C.waiting=0:=by rw[a.waiting];exact Fr t
 obtain⟨y,bW,z,A,B,D,E⟩:=C;simp only at g b s c hw;subst g b s c hw;rfl
section
attribute [local irreducible] dP
end
end
section
open IntKind
abbrev WN (w:an)(a:aU)(K:qf->Prop):Prop:=qf.ex λr=>cn w a 0 r.cells/\K r
variable (w:an)(R:cM){a b c d e f:Nat}{A:aU}{s t u:ak}{i k l m:Int}{j:ar}{X:bf}{F:Bool}
def x' (e:aU)(i:ak)(a b:Nat)(c:ak)(d f:Nat)(g h:Int)(j:ar):ar:=.pointer (some e)::ag j 0 2 (ad i a b::ag j 2 26 (ad c d f::ab g::ab h::ag j 28 36 []))
def Ih (a:aU)(d:ak)(b c:Nat)(j:ar):ar:=.pointer (some a)::ag j 0 2 (ad d b c::ag j 2 65 [])
def ya (e:aU)(i:ak)(a b:Nat)(c:ak)(d f:Nat)(g h:Int)(j:ar):ar:=.pointer (some e)::ag j 0 2 (ad i a b::ag j 2 40 (ad c d f::ab g::ab h::ag j 42 22 []))
def Ii (a:aU)(d:ak)(b c:Nat)(j:ar):ar:=.pointer (some a)::ag j 0 2 (ad d b c::ag j 2 65 [])
def yb (e:ak)(a b:Nat)(c:ak)(d f:Nat)(g h:Int)(j:ar):ar:=ag j 0 3 (ad e a b::ag j 3 53 (ad c d f::ab g::ab h::ag j 56 9 []))
def Ij (c:ak)(a b:Nat)(j:ar):ar:=ag j 0 3 (ad c a b::ag j 3 65 [])
theorem Xt:bd prog f31 [a' a] R w=(cF w λz j=>cY j (af a 0) λe=>eD j (af a 1) λb c d=>eD j (af a 2) λf g h=>dm 55 #[a0,ab e] z λi k l x=>j x/\dm 55 #[ad i k l,ab (c:Nat)] x λm n o y=>j y/\dm 55 #[ad m n o,ab (g:Nat)] y λp q r u=>j u/\b_ u (af a 1) λs t v=>cz prog (cU f31 [1,1,0,1,0,0]) (x' (af a 0) p q r s t v (t:Nat) 0 (undef::a0::bm 6 (jp (af a 0)::jp (af a 0)::jp (af a 0)::ab e::ad i k l::jp (af a 0)::jp (af a 0)::jp (af a 1)::ad b c d::dA c::ad m n o::jp (af a 0)::jp (af a 0)::jp (af a 2)::ad f g h::dA g::ad p q r::jp (af a 0)::jp (af a 0)::jp (af a 1)::bm 36 []))) (aO 0 (aT f31 [1,1,1] R)) u):=by kernel_rfl
theorem U4 (h:ar->aJ):W prog (sb f31 [1,1,0,1,0,0]) (x' A s a b t c d i k j) (aZ h (aO 0 (aT f31 [1,1,1] R))) w=(cond (k<i) (bx t c k 1 λg=>lr w g λx=>dm 57 #[.pointer x] w λe f l q=>dm 56 #[ad s a b,ad e f l] q λm n o p=>h (x' A m n o t c d i (i64.wrap (k+1)) (aH j 0::aH j 1::aH j 2::.pointer x::ag j 4 24 (ae (k<i)::jp g::.pointer x::ad s a b::.pointer x::ad e f l::ad m n o::ab (i64.wrap (k+1))::ag j 36 28 []))) p) (W prog (sb f31 [1,1,1]) (Ih A s a b (ag j 0 28 (ad t c d::ab i::ab k::ae (k<i)::ag j 29 35 []))) (bT f31 R) w)):=by kernel_rfl
theorem V_:W prog (sb f31 [1,1,1]) (Ih A s a b j) (bT f31 R) w=(b_ w (b5 A 2) λd f g=>cz prog (cU f31 [1,1,1,0,1,0,0]) (ya A s a b d f g (f:Nat) 0 (ag j 0 39 (jp A::jp A::bM A 2::ag j 45 22 []))) (aO 2 (aT f31 [1,1,1,1] R)) w):=by kernel_rfl
theorem U5 (h:ar->aJ):W prog (sb f31 [1,1,1,0,1,0,0]) (ya A s a b t c d i k j) (aZ h (aO 2 (aT f31 [1,1,1,1] R))) w=(cond (k<i) (bx t c k 7 λm=>I9 w m λr=>aR w #[ae false,ab 0,a0,a0,ab 0,ab 0,ab 0] 102 λg q=>a8 q (af g 0) 0 r.cells λn=>I9 n (af g 0) λo=>dm 58 #[o.val,ad s a b] n λe f l p=>h (ya A e f l t c d i (i64.wrap (k+1)) (ag j 0 5 (jp (af g 0)::ag j 6 36 (ae (k<i)::jp m::r.val::o.val::ad s a b::ad e f l::ab (i64.wrap (k+1))::ag j 49 15 [])))) p) (W prog (sb f31 [1,1,1,1]) (Ii A s a b (ag j 0 42 (ad t c d::ab i::ab k::ae (k<i)::ag j 43 21 []))) (bT f31 R) w)):=by kernel_rfl
theorem V':W prog (sb f31 [1,1,1,1]) (Ii A s a b j) (bT f31 R) w=(b_ w (b5 A 3) λd f g=>cz prog (cU f31 [1,1,1,1,0,1,0,0]) (yb s a b d f g (f:Nat) 0 (jp A::ag j 0 52 (jp A::jp A::bM A 3::ag j 58 9 []))) (aO 4 (aT f31 [1,1,1,1,1] R)) w):=by kernel_rfl
theorem U6 (h:ar->aJ):W prog (sb f31 [1,1,1,1,0,1,0,0]) (yb s a b t c d i k j) (aZ h (aO 4 (aT f31 [1,1,1,1,1] R))) w=(cond (k<i) (bx t c k 1 λg=>lr w g λx=>dm 59 #[.pointer x] w λe f l q=>dm 56 #[ad s a b,ad e f l] q λm n o p=>h (yb m n o t c d i (i64.wrap (k+1)) (ag j 0 8 (.pointer x::ag j 9 47 [ae (k<i),jp g,.pointer x,ad s a b,.pointer x,ad e f l,ad m n o,ab (i64.wrap (k+1)),aH j 64]))) p) (W prog (sb f31 [1,1,1,1,1]) (Ij s a b (ag j 0 56 (ad t c d::ab i::ab k::ae (k<i)::ag j 57 8 []))) (bT f31 R) w)):=by kernel_rfl
theorem Wa:W prog (sb f31 [1,1,1,1,1]) (Ij s a b j) (bT f31 R) w=(R (ad s a b) w):=by kernel_rfl
theorem Xu:bd prog f32 [ad s a b,ad t c d] R w=(∃ (e:ByteArray),∃ g,(convert 77 9 (ad s a b)).run prog w=.ok (.string e) g/\∃ (h:ByteArray),∃ f,(convert 77 9 (ad t c d)).run prog g=.ok (.string h) f/\R (ae (e.toList == h.toList)) f):=by kernel_rfl
theorem X5:bd prog f55 [ad s a b,ab i] R w=(dm 81 #[ad s a b,ah (u64.wrap i)] w λc d f e=>R (ad c d f) e):=by kernel_rfl
theorem Yo:bd prog f56 [ad s a b,ad t c d] R w=(dm 55 #[ad s a b,ab (c:Nat)] w λf g h l=>de 77 (ad f g h) (ad t c d) l λe i k j=>R (ad e i k) j):=by kernel_rfl
def tc (e:ak)(a b:Nat)(c:ak)(d f:Nat)(g h:Int)(j:ar):ar:=ag j 0 3 (ad e a b::ag j 3 22 (ad c d f::ab g::ab h::ag j 25 11 []))
def IH (c:ak)(a b:Nat)(j:ar):ar:=ag j 0 3 (ad c a b::ag j 3 36 [])
theorem Yp:bd prog f57 [a' a] R w=(aR w #[.int .u8 77,.int .u8 69,.int .u8 77,.int .u8 49] 5 λs x=>∃ (e:ak) (b c:Nat),∃ v,(convert 77 77 (ad (bk s) 4 4)).run prog x=.ok (ad e b c) v/\cG 82 #[a' a] v λd z=>cG 82 #[a' a] z λf y=>aR y #[.int .u8 (IntKind.u8.wrap d),.int .u8 (IntKind.u8.wrap (c3 .i64 f 8)),.int .u8 1] 5 λr A=>de 77 (ad e b c) (ad (bk r) 3 3) A λj g h q=>j5 q (af a 1) λi=>cond i (bx j g 6 1 λt=>cV q t (.int .u8 0) λu=>b_ u (af a 0) λk l m=>cz prog (cU f57 [1,1,1,0,1,0,0]) (tc j g h k l m (l:Nat) 0 (jp (af a 0)::undef::a0::bm 2 (ad (bk s) 4 4::ad e b c::jp (af a 0)::ab d::.int .u8 (IntKind.u8.wrap d)::jp (af a 0)::ab f::ab (c3 .i64 f 8)::.int .u8 (IntKind.u8.wrap (c3 .i64 f 8))::ad (bk r) 3 3::ad j g h::jp (af a 0)::jp (af a 0)::jp (af a 1)::ae i::ad j g h::jp t::jp (af a 0)::jp (af a 0)::jp (af a 0)::bm 11 []))) (aO 0 (aT f57 [1,1,1,1] R)) u) (b_ q (af a 0) λn o p=>cz prog (cU f57 [1,1,1,0,1,0,0]) (tc j g h n o p (o:Nat) 0 (jp (af a 0)::undef::a0::bm 2 (ad (bk s) 4 4::ad e b c::jp (af a 0)::ab d::.int .u8 (IntKind.u8.wrap d)::jp (af a 0)::ab f::ab (c3 .i64 f 8)::.int .u8 (IntKind.u8.wrap (c3 .i64 f 8))::ad (bk r) 3 3::ad j g h::jp (af a 0)::jp (af a 0)::jp (af a 1)::ae i::bm 2 (jp (af a 0)::jp (af a 0)::jp (af a 0)::bm 11 [])))) (aO 0 (aT f57 [1,1,1,1] R)) q)):=by kernel_rfl
theorem Vp (g:ar->aJ):W prog (sb f57 [1,1,1,0,1,0,0]) (tc s a b t c d i k j) (aZ g (aO 0 (aT f57 [1,1,1,1] R))) w=(cond (k<i) (bx t c k 1 λh=>d' w h λx=>dm 83 #[ad s a b,ah x] w λe f l m=>g (tc e f l t c d i (i64.wrap (k+1)) (ag j 0 4 (ah x::ag j 5 20 (ae (k<i)::jp h::ah x::ad s a b::ah x::ad e f l::ab (i64.wrap (k+1))::ag j 32 4 [])))) m) (W prog (sb f57 [1,1,1,1]) (IH s a b (ag j 0 25 (ad t c d::ab i::ab k::ae (k<i)::ag j 26 10 []))) (bT f57 R) w)):=by kernel_rfl
theorem Wh:W prog (sb f57 [1,1,1,1]) (IH s a b j) (bT f57 R) w=(jI 84 #[ad s a b] w λc h=>dm 83 #[ad s a b,ah c] h λd f g e=>R (ad d f g) e):=by kernel_rfl
def xZ (s1:ak)(a b:Nat)(s2:aU)(e:bf)(c:ak)(d f:Nat)(g h:Int)(j:ar):ar:=ag j 0 1 (ad s1 a b::.pointer (some s2)::ag j 1 2 (e::ag j 3 26 (ad c d f::ab g::ab h::ag j 29 53 [])))
def Iq (s1:ak)(a b:Nat)(c:aU)(d:bf)(j:ar):ar:=ag j 0 1 (ad s1 a b::.pointer (some c)::ag j 1 2 (d::ag j 3 82 []))
def x0 (s1:ak)(a b:Nat)(s2:aU)(e:bf)(c:ak)(d f:Nat)(g h:Int)(i:ak)(k l:Nat)(m n:Int)(j:ar):ar:=ag j 0 1 (ad s1 a b::.pointer (some s2)::ag j 1 2 (e::ag j 3 26 (ad c d f::ab g::ab h::ag j 29 9 (ad i k l::ab m::ab n::ag j 38 41 []))))
def Ir (s1:ak)(a b:Nat)(c:aU)(e:bf)(d:ak)(f g:Nat)(h i:Int)(j:ar):ar:=ag j 0 1 (ad s1 a b::.pointer (some c)::ag j 1 2 (e::ag j 3 26 (ad d f g::ab h::ab i::ag j 29 53 [])))
def BE (s1:ak)(a b:Nat)(e:bf)(c:ak)(d f:Nat)(g h:Int)(j:ar):ar:=ag j 0 1 (ad s1 a b::ag j 1 3 (e::ag j 4 49 (ad c d f::ab g::ab h::ag j 53 30 [])))
def kw (s1:ak)(a b:Nat)(j:ar):ar:=ag j 0 1 (ad s1 a b::ag j 1 86 [])
def Wi (s1:ak)(a b:Nat)(e:bf)(c:ak)(d f:Nat)(g h:Int)(i:ak)(k l:Nat)(m n:Int)(j:ar):ar:=ag j 0 1 (ad s1 a b::ag j 1 3 (e::ag j 4 49 (ad c d f::ab g::ab h::ag j 53 18 (ad i k l::ab m::ab n::ag j 71 9 []))))
theorem Xe (B:iP):bd prog f58 [B.val,ad s a b] R w=(aR w B.cells.toArray 102 λj N=>cF N λM u=>BZ u (af j 0) λc=>cY u (af j 1) λd=>dm 85 #[ad s a b,ae c] M λf g h a6=>u a6/\dm 55 #[ad f g h,ab d] a6 λi k l H=>u H/\cF H λK A=>eD A (af j 3) λn o p=>eD A (af j 3) λq r e=>dm 85 #[ad i k l,ae (!(Option.isNone n))] K λt v x D=>A D/\dm 55 #[ad t v x,ab (r:Nat)] D λy z F E=>A E/\∃ m,∃ C,(Instr.makeMap 155 none).run prog E=.ok m C/\b_ C (af j 2) λL G I=>cz prog (cU f58 [1,1,1,1,0,1,0,0]) (xZ y z F (af j 0) m L G I (G:Nat) 0 (B.val::undef::a0::bm 8 (ad s a b::jp (af j 0)::ae c::ad f g h::jp (af j 1)::ab d::ad i k l::ad i k l::jp (af j 3)::ad n o p::ae (!(Option.isNone n))::ad t v x::jp (af j 3)::ad q r e::dA r::ad y z F::m::jp (af j 2)::bm 53 []))) (aO 0 (aT f58 [1,1,1,1,1] R)) C):=by kernel_rfl
theorem UG (v:ar->aJ):W prog (sb f58 [1,1,1,1,0,1,0,0]) (xZ s a b A X t c d i k j) (aZ v (aO 0 (aT f58 [1,1,1,1,1] R))) w=(cond (k<i) (bx t c k 2 λx=>WN w x λr=>aR w #[.pointer none,a0] 105 λh C=>a8 C (af h 0) 0 r.cells λy=>lr y (af h 0) λg=>dm 59 #[.pointer g] y λu l m D=>dm 56 #[ad s a b,ad u l m] D λn o p z=>b_ z (af h 1) λq e f=>cz prog (cU f58 [1,1,1,1,0,1,0,0,1,1,0,0,1,1,1,0,0]) (x0 n o p A X t c d i k q e f (e:Nat) 0 (ag j 0 4 (jp (af h 0)::ag j 5 24 (ae (k<i)::jp x::r.val::ad s a b::jp (af h 0)::.pointer g::ad u l m::ad n o p::jp (af h 1)::ag j 41 41 [])))) (aO 2 (aO 1 (aZ (λB w=>W prog (sb f58 [1,1,1,1,0,1,0,0,1,1,1]) B (aZ v (aO 0 (aT f58 [1,1,1,1,1] R))) w) (aZ v (aO 0 (aT f58 [1,1,1,1,1] R)))))) z) (W prog (sb f58 [1,1,1,1,1]) (Iq s a b A X (ag j 0 29 (ad t c d::ab i::ab k::ae (k<i)::ag j 30 52 []))) (bT f58 R) w)):=by kernel_rfl
theorem Vq:W prog (sb f58 [1,1,1,1,1]) (Iq s a b A X j) (bT f58 R) w=(b_ w (b5 A 3) λd f g=>cz prog (cU f58 [1,1,1,1,1,0,1,0,0]) (BE s a b X d f g (f:Nat) 0 (aH j 0::jp A::ag j 1 50 (bM A 3::ag j 55 30 []))) (aO 4 (aT f58 [1,1,1,1,1,1] R)) w):=by kernel_rfl
theorem UH (g:ar->aJ)(n:ar->aJ):W prog (sb f58 [1,1,1,1,0,1,0,0,1,1,0,0,1,1,1,0,0]) (x0 s a b A X t c d i k u e f l m j) (aZ n (aO 2 (aO 1 (aZ (λp w=>W prog (sb f58 [1,1,1,1,0,1,0,0,1,1,1]) p (aZ g (aO 0 (aT f58 [1,1,1,1,1] R))) w) (aZ g (aO 0 (aT f58 [1,1,1,1,1] R))))))) w=(cond (m<l) (bx u e m 1 λh=>b0 w h λx=>∃ o,(Instr.mapUpdate 155 X (ab x) (ae true)).run prog w=.ok () o/\n (x0 s a b A X t c d i k u e f l (i64.wrap (m+1)) (ag j 0 6 (ab x::ag j 7 31 (ae (m<l)::jp h::ab x::X::ab x::ab (i64.wrap (m+1))::ag j 44 35 [])))) o) (W prog (sb f58 [1,1,1,1,0,1,0,0,1,1,1]) (Ir s a b A X t c d i k (ag j 0 38 (ad u e f::ab l::ab m::ae (m<l)::ag j 39 40 []))) (aZ g (aO 0 (aT f58 [1,1,1,1,1] R))) w)):=by kernel_rfl
theorem Vr (e:ar->aJ):W prog (sb f58 [1,1,1,1,0,1,0,0,1,1,1]) (Ir s a b A X t c d i k j) (aZ e (aO 0 (aT f58 [1,1,1,1,1] R))) w=(e (xZ s a b A X t c d i (i64.wrap (k+1)) (ag j 0 47 (ab (i64.wrap (k+1))::ag j 48 34 []))) w):=by kernel_rfl
theorem UI (C:ar->aJ):W prog (sb f58 [1,1,1,1,1,0,1,0,0]) (BE s a b X t c d i k j) (aZ C (aO 4 (aT f58 [1,1,1,1,1,1] R))) w=(cond (k<i) (bx t c k 2 λE=>pw w E λr=>aR w #[ab 0,a0] 131 λh K=>a8 K (af h 0) 0 r.cells λI=>∃ (m:Bool),∃ F,(Instr.lookup 155 X (ab k) false).run prog I=.ok (ae m) F/\dm 85 #[ad s a b,ae m] F λg u l M=>cF M λN A=>cY A (af h 0) λn=>eD A (af h 1) λo p q=>dm 55 #[ad g u l,ab n] N λe f v D=>A D/\dm 55 #[ad e f v,ab (p:Nat)] D λx y z B=>A B/\b_ B (af h 1) λH G L=>cz prog (cU f58 [1,1,1,1,1,0,1,0,0,1,1,0,0,1,1,1,1,0,0]) (Wi x y z X t c d i k H G L (G:Nat) 0 (ag j 0 8 (ab k::jp (af h 0)::ag j 10 43 (ae (k<i)::ab k::jp E::r.val::ad s a b::X::ab k::ae m::ad g u l::ad g u l::jp (af h 0)::ab n::ad e f v::jp (af h 1)::ad o p q::dA p::ad x y z::jp (af h 1)::ag j 74 9 [])))) (aO 6 (aO 5 (aZ (λa6 w=>W prog (sb f58 [1,1,1,1,1,0,1,0,0,1,1,1]) a6 (aZ C (aO 4 (aT f58 [1,1,1,1,1,1] R))) w) (aZ C (aO 4 (aT f58 [1,1,1,1,1,1] R)))))) B) (W prog (sb f58 [1,1,1,1,1,1]) (kw s a b (ag j 0 4 (X::ag j 4 49 (ad t c d::ab i::ab k::ae (k<i)::ag j 54 29 [])))) (bT f58 R) w)):=by kernel_rfl
theorem Vs:W prog (sb f58 [1,1,1,1,1,1]) (kw s a b j) (bT f58 R) w=(R (ad s a b) w):=by kernel_rfl
def x1 (e:aU)(i:ak)(a b:Nat)(c:ak)(d f:Nat)(g h:Int)(j:ar):ar:=.pointer (some e)::ag j 0 2 (ad i a b::ag j 2 33 (ad c d f::ab g::ab h::ag j 35 13 []))
def Is (a:aU)(d:ak)(b c:Nat)(j:ar):ar:=.pointer (some a)::ag j 0 2 (ad d b c::ag j 2 49 [])
theorem Xf:bd prog f59 [a' a] R w=(cF w λs j=>cY j (af a 0) λe=>cY j (af a 1) λb=>cY j (af a 2) λc=>cY j (af a 4) λd=>eD j (af a 3) λf g h=>aR s #[ah (u64.wrap e),ah (u64.wrap b),ah (u64.wrap c),ah (u64.wrap d),ah (u64.wrap (g:Nat))] 30 λr q=>j q/\dm 86 #[a0,ad (bk r) 5 5] q λi k l p=>j p/\b_ p (af a 3) λm n o=>cz prog (cU f59 [1,1,0,1,0,0]) (x1 (af a 0) i k l m n o (n:Nat) 0 (undef::a0::bm 2 (jp (af a 0)::jp (af a 0)::jp (af a 0)::ab e::ah (u64.wrap e)::jp (af a 0)::jp (af a 0)::jp (af a 1)::ab b::ah (u64.wrap b)::jp (af a 0)::jp (af a 0)::jp (af a 2)::ab c::ah (u64.wrap c)::jp (af a 0)::jp (af a 0)::jp (af a 4)::ab d::ah (u64.wrap d)::jp (af a 0)::jp (af a 0)::jp (af a 3)::ad f g h::dA g::ah (u64.wrap (g:Nat))::ad (bk r) 5 5::ad i k l::jp (af a 0)::jp (af a 0)::jp (af a 3)::bm 13 []))) (aO 0 (aT f59 [1,1,1] R)) p):=by kernel_rfl
theorem UJ (m:ar->aJ):W prog (sb f59 [1,1,0,1,0,0]) (x1 A s a b t c d i k j) (aZ m (aO 0 (aT f59 [1,1,1] R))) w=(cond (k<i) (bx t c k 9 λh=>lq w h λr=>aR w #[ab 0,ab 0,ab 0,ab 0,ah 0,ah 0,a0,ah 0,ab 0] 158 λg q=>a8 q (af g 0) 0 r.cells λn=>lq n (af g 0) λo=>dm 87 #[ad s a b,o.val] n λe f l p=>m (x1 A e f l t c d i (i64.wrap (k+1)) (aH j 0::aH j 1::aH j 2::jp (af g 0)::ag j 4 31 (ae (k<i)::jp h::r.val::ad s a b::o.val::ad e f l::ab (i64.wrap (k+1))::ag j 42 6 []))) p) (W prog (sb f59 [1,1,1]) (Is A s a b (ag j 0 35 (ad t c d::ab i::ab k::ae (k<i)::ag j 36 12 []))) (bT f59 R) w)):=by kernel_rfl
theorem Vt:W prog (sb f59 [1,1,1]) (Is A s a b j) (bT f59 R) w=(b_ w (b5 A 5) λd f g=>dm 86 #[ad s a b,ad d f g] w λh i k c=>R (ad h i k) c):=by kernel_rfl
def yp (c:ak)(a b:Nat)(s1 d:Int)(j:ar):ar:=ad c a b::ah s1::ag j 0 3 (ab d::ag j 3 10 [])
def IC (c:ak)(a b:Nat)(j:ar):ar:=ad c a b::ag j 0 15 []
theorem YJ:bd prog f81 [ad s a b,ah i] R w=(cz prog (cU f81 [1,0,1,0,0]) (yp s a b i 0 (bm 2 (a0::bm 10 []))) (aO 0 (aT f81 [1,1] R)) w):=by kernel_rfl
theorem Wb (f:ar->aJ):W prog (sb f81 [1,0,1,0,0]) (yp s a b i k j) (aZ f (aO 0 (aT f81 [1,1] R))) w=(cond (k<8) (aR w #[.int .u8 (IntKind.u8.wrap i)] 5 λg l=>de 77 (ad s a b) (ad (bk g) 1 1) l λe c d h=>f (yp e c d (c3 .u64 i 8) (i64.wrap (k+1)) [aH j 0,aH j 1,aH j 2,ae (k<8),ad s a b,ah i,.int .u8 (IntKind.u8.wrap i),ad (bk g) 1 1,ad e c d,ah i,ah (c3 .u64 i 8),ab (i64.wrap (k+1)),aH j 12]) h) (W prog (sb f81 [1,1]) (IC s a b (ah i::aH j 0::aH j 1::aH j 2::ab k::ae (k<8)::ag j 4 9 [])) (bT f81 R) w)):=by kernel_rfl
theorem W_:W prog (sb f81 [1,1]) (IC s a b j) (bT f81 R) w=(R (ad s a b) w):=by kernel_rfl
def yh (c:ak)(a b:Nat)(s1 d:Int)(j:ar):ar:=ad c a b::ah s1::ag j 0 3 (ab d::ag j 3 10 [])
def II (c:ak)(a b:Nat)(j:ar):ar:=ad c a b::ag j 0 15 []
theorem X':bd prog f83 [ad s a b,ah i] R w=(cz prog (cU f83 [1,0,1,0,0]) (yh s a b i 0 (bm 2 (a0::bm 10 []))) (aO 0 (aT f83 [1,1] R)) w):=by kernel_rfl
theorem Vu (f:ar->aJ):W prog (sb f83 [1,0,1,0,0]) (yh s a b i k j) (aZ f (aO 0 (aT f83 [1,1] R))) w=(cond (k<8) (aR w #[.int .u8 (IntKind.u8.wrap i)] 5 λg l=>de 77 (ad s a b) (ad (bk g) 1 1) l λe c d h=>f (yh e c d (c3 .u64 i 8) (i64.wrap (k+1)) [aH j 0,aH j 1,aH j 2,ae (k<8),ad s a b,ah i,.int .u8 (IntKind.u8.wrap i),ad (bk g) 1 1,ad e c d,ah i,ah (c3 .u64 i 8),ab (i64.wrap (k+1)),aH j 12]) h) (W prog (sb f83 [1,1]) (II s a b (ah i::aH j 0::aH j 1::aH j 2::ab k::ae (k<8)::ag j 4 9 [])) (bT f83 R) w)):=by kernel_rfl
theorem Wj:W prog (sb f83 [1,1]) (II s a b j) (bT f83 R) w=(R (ad s a b) w):=by kernel_rfl
theorem Yq:bd prog f85 [ad s a b,ae F] R w=(cond F (aR w #[.int .u8 1] 5 λk m=>de 77 (ad s a b) (ad (bk k) 1 1) m λe c d j=>R (ad e c d) j) (aR w #[.int .u8 0] 5 λl i=>de 77 (ad s a b) (ad (bk l) 1 1) i λf g h n=>R (ad f g h) n)):=by kernel_rfl
def x2 (e:ak)(a b:Nat)(c:ak)(d f:Nat)(g h:Int)(j:ar):ar:=ad e a b::ag j 0 11 (ad c d f::ab g::ab h::ag j 11 8 [])
def It (c:ak)(a b:Nat)(j:ar):ar:=ad c a b::ag j 0 22 []
theorem Xg:bd prog f86 [ad s a b,ad t c d] R w=(dm 114 #[ad s a b,ah (u64.wrap (c:Nat))] w λf g h e=>cz prog (cU f86 [1,1,0,1,0,0]) (x2 f g h t c d (c:Nat) 0 (ad t c d::bm 2 (a0::bm 2 (ad s a b::ad t c d::dA c::ah (u64.wrap (c:Nat))::ad f g h::bm 8 [])))) (aO 0 (aT f86 [1,1,1] R)) e):=by kernel_rfl
theorem UK (g:ar->aJ):W prog (sb f86 [1,1,0,1,0,0]) (x2 s a b t c d i k j) (aZ g (aO 0 (aT f86 [1,1,1] R))) w=(cond (k<i) (bx t c k 1 λh=>d' w h λx=>dm 114 #[ad s a b,ah x] w λe f l m=>g (x2 e f l t c d i (i64.wrap (k+1)) (ag j 0 5 (ah x::ag j 6 5 [ae (k<i),jp h,ah x,ad s a b,ah x,ad e f l,ab (i64.wrap (k+1)),aH j 18]))) m) (W prog (sb f86 [1,1,1]) (It s a b (ag j 0 11 (ad t c d::ab i::ab k::ae (k<i)::ag j 12 7 []))) (bT f86 R) w)):=by kernel_rfl
theorem Vv:W prog (sb f86 [1,1,1]) (It s a b j) (bT f86 R) w=(R (ad s a b) w):=by kernel_rfl
def yc (c:ak)(a b:Nat)(s1 d:Int)(j:ar):ar:=ad c a b::ah s1::ag j 0 3 (ab d::ag j 3 10 [])
def Ik (c:ak)(a b:Nat)(j:ar):ar:=ad c a b::ag j 0 15 []
theorem Xv:bd prog f114 [ad s a b,ah i] R w=(cz prog (cU f114 [1,0,1,0,0]) (yc s a b i 0 (bm 2 (a0::bm 10 []))) (aO 0 (aT f114 [1,1] R)) w):=by kernel_rfl
theorem U7 (f:ar->aJ):W prog (sb f114 [1,0,1,0,0]) (yc s a b i k j) (aZ f (aO 0 (aT f114 [1,1] R))) w=(cond (k<8) (aR w #[.int .u8 (IntKind.u8.wrap i)] 5 λg l=>de 77 (ad s a b) (ad (bk g) 1 1) l λe c d h=>f (yc e c d (c3 .u64 i 8) (i64.wrap (k+1)) [aH j 0,aH j 1,aH j 2,ae (k<8),ad s a b,ah i,.int .u8 (IntKind.u8.wrap i),ad (bk g) 1 1,ad e c d,ah i,ah (c3 .u64 i 8),ab (i64.wrap (k+1)),aH j 12]) h) (W prog (sb f114 [1,1]) (Ik s a b (ah i::aH j 0::aH j 1::aH j 2::ab k::ae (k<8)::ag j 4 9 [])) (bT f114 R) w)):=by kernel_rfl
theorem VN:W prog (sb f114 [1,1]) (Ik s a b j) (bT f114 R) w=(R (ad s a b) w):=by kernel_rfl
end
section
structure eT (M:a4)(u:an)(a:ak)(n c:Nat)(L:a7):Prop where
 own:aX u f8 1 a n c (dz L)
 off:∀ k,aP a k->¬ M k
 low:∀ k,M k->k<u.heap.size
section
variable {M:a4}{u z ch:an}{a:ak}{n c:Nat}{L:a7}
theorem eT.len (h:eT M u a n c L):n=L.length:=by
 have:=h.own.1
 grind[dz]
theorem eT.aA (h:eT M u a n c L){S:a4}(b:ao S u z)(e:∀ k,aP a k->¬ S k):eT M z a n c L:=⟨h.own.aA b e,h.off,λk d=>fE (h.low k d) b.size⟩
theorem eT.new (h:eT M u a n c L)(b:ai u z):eT M z a n c L:=h.aA b λ_ _=>id
theorem eT.nil (h:∀ k,M k->k<u.heap.size):eT M u none 0 0 []:=⟨aX.nil _ _ _,λk a=>(by obtain⟨o,e⟩:=a;cases e),h⟩
def mR (M:a4)(u:an)(L:a7)(v:bf)(z:an):Prop:=∃ a n c,v=.slice a n c/\eT M z a n c L/\ao (λk=>¬ M k) u z
theorem nj {y:an}(h:ao (λk=>¬ M k) u z)(a:ao (λk=>¬ M k) z y):ao (λk=>¬ M k) u y:=h.trans a λ_ _ h=>h
theorem rx (h:ai w u)(a:ao (λk=>¬ M k) u z)(b:∀ k,k<w.heap.size->M k):ai w z:=h.trans a λk c e=>e (b k c)
theorem D' (h:eT M u a n c L)(C:n<=1000000000)(hm:m=X.length)(A:bl u s (dz X))(B:m<=1000000000)
  (f:∀ ap i z,eT M z ap (n+m) i (L++X)->ao (λk=>¬ M k) u z->K ap (n+m) i z) :
  ∃ (ap:ak) (l c':Nat),∃ z,(Builtin.append_ #[77,77] 77 #[(.slice a n c),(.slice s m cs)]).run prog u=.ok (.slice ap l c') z/\K ap l c' z:=by
 obtain⟨inf,y,aq,d,w⟩:=fV (T:=f8) (z:=.int .u8 0) (n:=1) (m:=1) (by kernel_rfl);have g:=h.own;rw[<-d]at g;obtain⟨ap,i,z,p,b,j,r⟩:=aX.append (P:=prog) (t:=77) (ty:=77) Tryz.underlying77 y aq (by rw[d];rfl) (by omega) g (s:=s) (m:=m) (c:=cs) (news:=dz X) (by rw[d,wo,hm];simp[dz]) A (by intro v al;obtain⟨x,_,rfl⟩:=cW.1 al;rfl) (by omega) (by rw[w];omega);rw[d]at b;have e:dz L++dz X=dz (L++X):=by simp[dz]
 rw[e]at b;refine⟨ap,n+m,i,z,p,f ap i z ⟨b,λk f=>?_,λk q=>fE (h.low k q) j.size⟩ (j.mono λk _ f=>h.off k f)⟩;rcases r with e | e
 ·rw[e]at f;exact h.off k f
 ·obtain⟨o,g⟩:=f;rw[e]at g;have:k=u.heap.size:=by simp at g;exact g.1.symm
  intro q;have:=h.low k q;omega
theorem uD (h:eT M u a n c L)(r:n<=1000000000){K:Nat->ak->Nat->Nat->aJ}(s:∀ b ap f z,eT M z ap (n+1) f (L++[x])->ao (λk=>¬ M k) u z->K b ap (n+1) f z) :
  ∀ b1 o,b1=u.heap.size->o=u.alloc (.cells #[.int .u8 x] f8)->∃ (ap:ak) (l c':Nat),∃ z,(Builtin.append_ #[77,77] 77 #[(.slice a n c),(.slice (some ⟨b1,0,none⟩) 1 1)]).run prog o=.ok (.slice ap l c') z/\K b1 ap l c' z:=by
 rintro b1 o g i;obtain⟨j,d⟩:=bo g i;exact D' (h.new d) r (m:=1) (X:=[x]) rfl (fj j (by simp[dz])) (by omega) λap f z p q=>s b1 ap f z p ((d.mono λ_ _ e=>e.elim).trans q λ_ _ h=>h)
theorem zY {k:Nat}(h:k<8):(hn x).take k++[IntKind.u8.wrap (oA k x)]=(hn x).take (k+1):=by
 grind[List.take_add_one,hn,List.getElem?_range]
theorem Aj (x:Int):(hn x).take 8=hn x:=r' (by rw[ki];omega)
theorem RW (h:eT M u a n c L)(l:n<=100000000)(x:Int):a5 81 [.slice a n c,.int .u64 x] u (mR M u (L++hn x)):=by
 refine ba Tryz.func81 ?_;rw[YJ];refine cZ mix (λm env z=>∃ (k:Nat) (aW:ak) (pc:Nat) (aC:ax),m=8-k/\k<=8/\env=yp aW (n+k) pc (oA k x) k aC/\eT M z aW (n+k) pc (L++(hn x).take k)/\ao (λk=>¬ M k) u z) 8
  ⟨0,a,c,_,rfl,by omega,rfl,by simpa using h,ao.refl _ _⟩ ?_
 rintro m env z ⟨k,aW,pc,aC,rfl,o,rfl,aq,d⟩;rw[Wb];refine bb (λj=>?_) (λi=>?_)
 ·refine uD aq (by omega) λb ap f y e g=>?_
  rw[bI (x:=(k:Int)+1) (by omega) (by omega)];rw[ke,zY (by omega)]at e;exact⟨8-(k+1),by omega,k+1,ap,f,_,rfl,by omega,rfl,e,nj d g⟩
 ·rw[W_];have:k=8:=by omega
  subst this;rw[Aj]at aq;exact⟨_,_,_,rfl,aq,d⟩
theorem F9 (h:eT M u a n c L)(l:n<=100000000)(x:Int):a5 83 [.slice a n c,.int .u64 x] u (mR M u (L++hn x)):=by
 refine ba Tryz.func83 ?_;rw[X'];refine cZ mix (λm env z=>∃ (k:Nat) (aW:ak) (pc:Nat) (aC:ax),m=8-k/\k<=8/\env=yh aW (n+k) pc (oA k x) k aC/\eT M z aW (n+k) pc (L++(hn x).take k)/\ao (λk=>¬ M k) u z) 8
  ⟨0,a,c,_,rfl,by omega,rfl,by simpa using h,ao.refl _ _⟩ ?_
 rintro m env z ⟨k,aW,pc,aC,rfl,o,rfl,aq,d⟩;rw[Vu];refine bb (λj=>?_) (λi=>?_)
 ·refine uD aq (by omega) λb ap f y e g=>?_
  rw[bI (x:=(k:Int)+1) (by omega) (by omega)];rw[ke,zY (by omega)]at e;exact⟨8-(k+1),by omega,k+1,ap,f,_,rfl,by omega,rfl,e,nj d g⟩
 ·rw[Wj];have:k=8:=by omega
  subst this;rw[Aj]at aq;exact⟨_,_,_,rfl,aq,d⟩
theorem F_ (h:eT M u a n c L)(l:n<=100000000)(x:Int):a5 114 [.slice a n c,.int .u64 x] u (mR M u (L++hn x)):=by
 refine ba Tryz.func114 ?_;rw[Xv];refine cZ mix (λm env z=>∃ (k:Nat) (aW:ak) (pc:Nat) (aC:ax),m=8-k/\k<=8/\env=yc aW (n+k) pc (oA k x) k aC/\eT M z aW (n+k) pc (L++(hn x).take k)/\ao (λk=>¬ M k) u z) 8
  ⟨0,a,c,_,rfl,by omega,rfl,by simpa using h,ao.refl _ _⟩ ?_
 rintro m env z ⟨k,aW,pc,aC,rfl,o,rfl,aq,d⟩;rw[U7];refine bb (λj=>?_) (λi=>?_)
 ·refine uD aq (by omega) λb ap f y e g=>?_
  rw[bI (x:=(k:Int)+1) (by omega) (by omega)];rw[ke,zY (by omega)]at e;exact⟨8-(k+1),by omega,k+1,ap,f,_,rfl,by omega,rfl,e,nj d g⟩
 ·rw[VN];have:k=8:=by omega
  subst this;rw[Aj]at aq;exact⟨_,_,_,rfl,aq,d⟩
def fA (x:Int):a7:=hn (IntKind.u64.wrap x)
def nr (X:a7):a7:=fA (X.length:Int)++X
def h6 (b:Bool):a7:=[if b=true then 1 else 0]
theorem sY (h:eT M u a n c L)(e:n<=100000000)(x:Int):a5 55 [.slice a n c,.int .i64 x] u (mR M u (L++fA x)):=by refine ba Tryz.func55 ?_;rw[X5];refine aB (RW h e _) ?_;rintro v z ⟨f,n',c',rfl,b,d⟩;exact⟨_,_,_,rfl,_,_,_,rfl,b,d⟩
theorem Ho (h:eT M u a n c L)(g:n<=100000000)(b:Bool):a5 85 [.slice a n c,.bool b] u (mR M u (L++h6 b)):=by
 refine ba Tryz.func85 ?_;rw[Yq];cases b
 ·exact dG rfl (uD h (by omega) λb ap f z d e=>⟨_,_,_,rfl,d,e⟩)
 ·exact hc rfl (uD h (by omega) λb ap f z d e=>⟨_,_,_,rfl,d,e⟩)
theorem G6 (h:eT M u a n c L)(j:n<=100000000)(hm:m=X.length)(g:bl u s (dz X))(w:m<=100000000)(q:∀ k,aP s k->M k):a5 56 [.slice a n c,.slice s m cs] u (mR M u (L++nr X)):=by refine ba Tryz.func56 ?_;rw[Yo];refine aB (sY h j _) ?_;rintro v z ⟨r,n',c',rfl,d,f⟩;have o:=d.len;have p:=h.len;refine⟨_,_,_,rfl,D' d (by rw[o,fF,fA,ki];omega) hm (g.aA f (hv g λk l e=>e (q k l))) (by omega) λap t y b i=>⟨_,_,_,rfl,?_,nj f i⟩⟩;rw[ke]at b;rw[hm]at b;subst hm;exact b
end
end
section
def sy (ws:a7):a7:=hn (IntKind.u64.wrap (ws.length:Int))++ib ws
def q_ (p:cH):a7:=sy [IntKind.u64.wrap p.aL,IntKind.u64.wrap p.inc,IntKind.u64.wrap p.node,IntKind.u64.wrap (p.b4:Int),IntKind.u64.wrap (p.a1.length:Int)]++sy p.words
theorem CR (l:a7)(x:Int):ib (l++[x])=ib l++hn x:=by simp[ib]
def sZ (w:an)(X:a7)(v:bf)(u:an):Prop:=∃ a n c,v=.slice a n c/\aX u f8 1 a n c (dz X)/\n=X.length/\ai w u/\∀ k,aP a k->w.heap.size<=k
section
variable {M:a4}{u z:an}{a:ak}{n c:Nat}{L:a7}
theorem mR.Vb (h:mR (λk=>k<u.heap.size) u L v z)(e:ai w u):sZ w L v z:=by obtain⟨a,n,c,rfl,b,f⟩:=h;exact⟨a,n,c,rfl,b.own,b.len,rx e f λk d=>fE d e.size,λk d=>mK e.size (sd (b.off k d))⟩
theorem Hp (h:bl w s (us ws))(a:ws[i]?=some x){K:aU->Prop}(d:∀ b o,w.cell? ⟨b,o,none⟩=some (.int .u64 x)->K ⟨b,o,none⟩):bx s ws.length (i:Int) 1 K:=by
 have e:=cS a;rcases h with he | ⟨b,o,rfl,c⟩
 ·have:=ey List.length he
  grind[us]
 ·refine dW (by omega) (by omega) ?_;have:=d b (o+i) (c i _ (sB a));simpa using this
theorem EM (h:eT M u a n c L)(I:n<=10000000)(hm:m=ws.length)(w:bl u s (us ws))(H:m<=1000000)(F:∀ k,aP s k->M k):a5 86 [.slice a n c,.slice s m cs] u (mR M u (L++sy ws)):=by
 subst hm;have E:=h.len;refine ba Tryz.func86 ?_;rw[Xg];refine aB (F_ h (by omega) _) ?_;rintro v bQ ⟨A,G,B,rfl,q,g⟩;have j:=q.len;rw[fF,ki]at j;refine⟨_,_,_,rfl,?_⟩;refine cZ mix (λm env z=>∃ (k:Nat) (aW:ak) (p pc:Nat) (aC:ax),m=ws.length-k/\k<=ws.length/\env=x2 aW p pc s ws.length cs ws.length k aC/\eT M z aW p pc (L++hn (IntKind.u64.wrap (ws.length:Int))++ib (ws.take k))/\ao (λk=>¬ M k) u z) ws.length
  ⟨0,A,G,B,_,rfl,by omega,rfl,by simpa[ib]using q,g⟩ ?_
 rintro m env z ⟨k,aW,p,pc,aC,rfl,t,rfl,aq,d⟩;have l:=aq.len;rw[fF,fF,ki,tM,lE]at l;rw[UK];refine bb (λf=>?_) (λD=>?_)
 ·have f:k<ws.length:=by omega
  refine Hp (w.aA d (hv w λk t e=>e (F k t))) (b2 f) λb o C=>⟨_,C,?_⟩
  refine aB (F_ aq (by omega) _) ?_;rintro v y ⟨bW,fm,gj,rfl,r,i⟩;rw[bI (x:=(k:Int)+1) (by omega) (by omega)];have e:L++hn (IntKind.u64.wrap (ws.length:Int))++ib (ws.take k)++hn ws[k]=L++hn (IntKind.u64.wrap (ws.length:Int))++ib (ws.take (k+1)):=by rw[ke,<-CR,<-List.take_append_getElem f]
  rw[e]at r;exact⟨_,_,_,rfl,ws.length-(k+1),by omega,k+1,bW,fm,gj,_,rfl,by omega,rfl,r,nj d i⟩
 ·rw[Vv];have:k=ws.length:=by omega
  subst this;rw[ja,ke]at aq;exact⟨_,_,_,rfl,aq,d⟩
end
theorem RX {pb:Nat}{p:dC}(h:dN A w pb p)(al:p.a1=[])(hw:p.words.length<=100000):a5 59 [.pointer (some ⟨pb,0,none⟩)] w (sZ w (q_ p.pure)):=by
 have I:p.a1.length=0:=by rw[al];rfl
 refine ba Tryz.func59 ?_;rw[Xf];rintro w1 j;have b:ai w w1:=by rw[j];exact cR _
 clear j;have f:∀ z,ai w1 z->av z pb p.cells p2:=λz aq=>ai.aj (b.new aq) h.aj
 refine⟨λz=>ai w1 z,ao.refl _ _,_,λz aq=>(f z aq).cell (i:=0) rfl,_,λz aq=>(f z aq).cell (i:=1) rfl,_,λz aq=>(f z aq).cell (i:=2) rfl,_,λz aq=>(f z aq).cell (i:=4) rfl,_,_,_,λz aq=>(f z aq).cell (i:=3) rfl,?_⟩;rintro b1 q r l;obtain⟨n,a⟩:=bo r l;clear l;have d:∀ k,k<q.heap.size->k<q.heap.size:=λ_ h=>h
 refine⟨a,aB (EM (M:=λk=>k<q.heap.size) (eT.nil d) (by omega) (ws:=[IntKind.u64.wrap p.aL,IntKind.u64.wrap p.inc,IntKind.u64.wrap p.node,IntKind.u64.wrap (p.b4:Int),IntKind.u64.wrap (p.a1.length:Int)]) rfl (fj n (by simp[us])) (by omega) λk s=>?_) ?_⟩
 ·obtain⟨o,e⟩:=s;simp at e;have:=n.lt;omega
 rintro v C ⟨D,J,E,rfl,B,g⟩;have c:ai q C:=rx (ao.refl _ _) g d;have x:=B.len;refine⟨_,_,_,rfl,a.new c,_,_,_,(f _ (a.new c)).cell (i:=3) rfl,?_⟩;refine cZ mix (λm env z=>∃ aC:ax,env=x1 ⟨pb,0,none⟩ D J E p.dk p.a1.length p.gg p.a1.length 0 aC/\z=C) 0 ⟨_,rfl,rfl⟩ ?_;rintro m env z ⟨aC,rfl,rfl⟩;rw[UJ];refine bb (λG=>by omega) (λ_=>?_)
 rw[Vt];refine⟨_,_,_,(f _ (a.new c)).cell (i:=5) rfl,?_⟩;have y:ai w z:=b.new (a.new c);refine aB (EM B (by rw[x];simp[sy,ki,tM]) rfl ((h.kr.new y).rd) (by omega) λk s=>?_) ?_
 ·have:=h.kr.lt s;exact fE this (b.new a).size
 rintro v O H;obtain⟨K,N,L,rfl,F,t⟩:=H;refine⟨_,_,_,rfl,mR.Vb (u:=q) ⟨_,_,_,rfl,F,nj g t⟩ (b.new a)⟩
def l_ (n:aD):a7:=[77,69,77,49,IntKind.u8.wrap ((n.words.length / 8:Nat):Int),IntKind.u8.wrap (c3 .i64 ((n.words.length / 8:Nat):Int) 8),if n.down=true then 0 else 1]
def ph (n:aD):a7:=(l_ n++ib n.words)++hn (uR 0 (l_ n++ib n.words))
theorem EN (n:aD):(ph n).length=15+8*n.words.length:=by simp[ph,l_,tM,ki];omega
theorem RY {l:a7}(h:av w b (dz l) f8):(convert 77 77 (.slice (some ⟨b,0,none⟩) l.length l.length)).run prog w=.ok (.slice (some ⟨b,0,none⟩) l.length l.length) (w.freeze ⟨b,l.length,none⟩ 1):=by
 obtain⟨inf,f,aq,e,c⟩:=fV (T:=f8) (z:=.int .u8 0) (n:=1) (m:=1) (by kernel_rfl);have hu:prog.underlying 77=some (.slice f8):=Tryz.underlying77;have a:prog.underlying f8=some (.int .u8):=by kernel_rfl
 have d:w.shape? b=some (f8,l.length):=by unfold World.shape?;rw[show w.heap[b]?=_ from h];simp[dz]
 unfold convert;simp[run_underlying hu,run_underlying a,markStringish,shape,freeze,Sem.run,d]
theorem LQ {o:Nat}:ao (λk=>k=b) w (w.freeze ⟨b,o,none⟩ n):=by
 unfold World.freeze;split
 ·exact ao.refl _ _
 ·refine⟨rfl,rfl,rfl,by simp,λk _ a=>?_⟩;simp only;rw[zn,aQ λe=>a e.symm]
theorem LR {a q:aU}:(w.freeze a n).cell? q=w.cell? q:=by
 unfold World.freeze;split
 ·rfl
 ·unfold World.cell?;simp only;rw[zn];by_cases e:a.block=q.block
  ·rw[bh e];cases h:w.heap[q.block]? with
   |none=>rfl
   |some o=>cases o<;>rfl
  ·rw[aQ e]
theorem LS (q:∀ j v,(dz L)[j]?=some v->w.cell? ⟨g,j,none⟩=some v)(x:bl w s (dz X))(hm:m=X.length)(k:X≠[])(B:L.length+m<=1000000)
  (t:∀ b h z,aX z f8 1 (some ⟨b,0,none⟩) (L.length+m) h (dz (L++X))->b=w.heap.size->ai w z->K (some ⟨b,0,none⟩) (L.length+m) h z) :
  ∃ (ap:ak) (l c':Nat),∃ z,(Builtin.append_ #[77,77] 77 #[(.slice (some ⟨g,0,none⟩) L.length L.length),(.slice s m cs)]).run prog w=.ok (.slice ap l c') z/\K ap l c' z:=by
 obtain⟨i,r,aq,c,d⟩:=fV (T:=f8) (z:=.int .u8 0) (n:=1) (m:=1) (by kernel_rfl);subst hm;have C:0<X.length:=wz.2 k;rcases x with he | ⟨sb,so,rfl,a⟩
 ·have:=ey List.length he;simp[dz]at this;exact cp this k
 have u:=run_append_grow (P:=prog) w 77 77 f8 i _ Tryz.underlying77 r aq ⟨g,0,none⟩ L.length L.length (dz L) (by rw[c];simp[dz]) (λj v f=>by rw[kJ,iZ];exact q j v f) ⟨sb,so,none⟩ X.length cs (dz X) (by rw[c];simp[dz]) (λj v f=>by rw[kJ];exact a j v f) (by omega) (by omega) (growslice_fits (by omega) (by rw[d];omega));have e:=grownCap_ge w (L.length+X.length) L.length f8;refine⟨_,_,_,_,u,t _ _ _ ?_ rfl ((cR w).alloc _)⟩;refine⟨by simp[dz],.inr ⟨w.heap.size,dz (L++X)++(Builtin.zeroCells (Value.int .u8 0).cells (grownCap w (L.length+X.length) L.length f8-(L.length+X.length))).toList,rfl,?_,e,grownCap_le_maxLen w _ _ f8 (by simp only[maxLen];omega),?_,?_⟩⟩
 ·have o:=pn w.drew (dz (L++X)++(Builtin.zeroCells (Value.int .u8 0).cells (grownCap w (L.length+X.length) L.length f8-(L.length+X.length))).toList) f8;have p:(dz (L++X)++(Builtin.zeroCells (Value.int .u8 0).cells (grownCap w (L.length+X.length) L.length f8-(L.length+X.length))).toList).toArray=(dz L).toArray++(dz X).toArray++Builtin.zeroCells (Value.int .u8 0).cells (grownCap w (L.length+X.length) L.length f8-(L.length+X.length)):=by simp[dz]
  rw[p]at o;exact o
 ·have y:(dz (L++X)).length=L.length+X.length:=by simp[dz]
  have A:(Builtin.zeroCells (Value.int .u8 0).cells (grownCap w (L.length+X.length) L.length f8-(L.length+X.length))).toList.length=grownCap w (L.length+X.length) L.length f8-(L.length+X.length):=by rw[J_,size_zeroCells];exact wo _
  rw[fF];omega
 ·rw[List.take_append_of_le_length (by simp[dz])];exact r' (by simp[dz])
end
section
theorem RZ {e cap:Nat}{xs:ax}(h:aX w e 1 (some ⟨g,0,none⟩) n cap xs)(j:i<n){K:aJ}(c:∀ w',aX w' e 1 (some ⟨g,0,none⟩) n cap (xs.set i v)->ao (λk=>k=g) w w'->K w') :
  (∃ u,w.cell? ⟨g,i,none⟩=some u)/\w.frozen? ⟨g,i,none⟩=false/\∀ w',w'=w.setCell ⟨g,i,none⟩ v->K w':=by
 rcases h.2 with⟨b,_⟩ | ⟨d,cur,he,a,hle,f,l,o⟩
 ·cases b
 ·simp only[hM,Addr.mk.injEq,and_true]at he;subst he;refine⟨⟨_,a.cell (b2 (show i<cur.length by omega))⟩,a.frozen,λw' e=>?_⟩;subst e;exact c _ (aX.setCell h (by omega) v) (e4 _ _ _ _)
theorem EO {z:an}{i j:Nat}{n:aD}(h:dX w0 b aK n)(aq:ai w0 z)(F:aX z f8 1 (some ⟨i,0,none⟩) 7 j (dz (l_ n)))(I:w0.heap.size<=i)(aC:ax) :
  cz prog (.loop (sub (bu f57) [1,1,1,0,1,0,0])) (tc (some ⟨i,0,none⟩) 7 j (some ⟨aK,0,none⟩) n.words.length n.words.length n.words.length 0 aC) (aO 0 (aZ (λenv w=>W prog (sub (bu f57) [1,1,1,1]) env (dE prog f57 (sZ w0 (ph n))) w) (dE prog f57 (sZ w0 (ph n))))) z:=by
 have E:=h.len;have B:eT (λk=>k<w0.heap.size) z (some ⟨i,0,none⟩) 7 j (l_ n++ib (n.words.take 0)):=⟨by simpa[ib]using F,λk d a=>(by obtain⟨o,e⟩:=d;simp only[hM,Addr.mk.injEq,and_true]at e;omega),λk d=>fE d aq.size⟩;refine cZ mix (λm env y=>∃ (k:Nat) (aW:ak) (s pc:Nat) (aC:ax),m=n.words.length-k/\k<=n.words.length/\env=tc aW s pc (some ⟨aK,0,none⟩) n.words.length n.words.length n.words.length k aC/\eT (λk=>k<w0.heap.size) y aW s pc (l_ n++ib (n.words.take k))/\ai w0 y) n.words.length
  ⟨0,_,_,_,_,rfl,by omega,rfl,B,aq⟩ ?_
 rintro m env y ⟨k,aW,s,pc,aC,rfl,d,rfl,f,c⟩;have r:=f.len;rw[fF,tM,lE]at r;have H:(l_ n).length=7:=rfl;rw[Vp];refine bb (λa=>?_) (λD=>?_)
 ·have a:k<n.words.length:=by omega
  refine Hp (ws:=n.words) (fj (ai.aj c h.words) (by simp)) (b2 a) λb' o C=>⟨_,C,?_⟩
  refine aB (F9 f (by omega) _) ?_;rintro v x ⟨bW,fm,gj,rfl,t,p⟩;rw[bI (x:=(k:Int)+1) (by omega) (by omega)];have e:l_ n++ib (n.words.take k)++hn n.words[k]=l_ n++ib (n.words.take (k+1)):=by rw[ke,<-CR,<-List.take_append_getElem a]
  rw[e]at t;exact⟨_,_,_,rfl,n.words.length-(k+1),by omega,k+1,bW,fm,gj,_,rfl,by omega,rfl,t,rx c p λ_ h=>h⟩
 ·rw[Wh];have:k=n.words.length:=by omega
  subst this;rw[ja]at f;refine aB (C0 f.own.rd f.len (by omega)) ?_;rintro v x ⟨rfl,g⟩;refine⟨_,rfl,aB (F9 (f.new g) (by omega) _) ?_⟩;rintro v J ⟨u,G,A,rfl,l,q⟩;exact⟨_,_,_,rfl,u,G,A,rfl,l.own,l.len,rx (c.new g) q λ_ h=>h,λk d=>sd (l.off k d)⟩
theorem R0 {n:aD}(h:dX w b aK n):a5 57 [.pointer (some ⟨b,0,none⟩)] w (sZ w (ph n)):=by
 have O:=h.len;refine ba Tryz.func57 ?_;rw[Yp];rintro b1 w1 x s;obtain⟨c,D⟩:=bo x s;clear s;have c:av w1 b1 (dz [77,69,77,49]) f8:=c;have z:=RY c;have p:ao (λk=>k=b1) w1 (w1.freeze ⟨b1,4,none⟩ 1):=LQ;have g:ai w (w1.freeze ⟨b1,4,none⟩ 1):=D.trans p λk N e=>by omega
 have f:∀ j v,(dz [77,69,77,49])[j]?=some v->(w1.freeze ⟨b1,4,none⟩ 1).cell? ⟨b1,j,none⟩=some v:=λj v A=>by rw[LR];exact c.cell A
 refine⟨_,_,_,_,z,?_⟩;have C:b1<(w1.freeze ⟨b1,4,none⟩ 1).heap.size:=by have:=c.lt;have:=p.size;omega
 show(_:Prop);generalize w1.freeze ⟨b1,List.length [(77:Int),69,77,49],none⟩ 1=S at *;have F:=h.new g;refine aB (tC F) ?_;rintro v bQ ⟨rfl,rfl⟩;refine⟨_,rfl,aB (tC F) ?_⟩;rintro v cl ⟨rfl,rfl⟩;refine⟨_,rfl,?_⟩;rintro K J y t;obtain⟨o,l⟩:=bo y t;clear t;have o:av J K (dz [IntKind.u8.wrap ((n.words.length / 8:Nat):Int),IntKind.u8.wrap (c3 .i64 ((n.words.length / 8:Nat):Int) 8),1]) f8:=o;refine LS (L:=[77,69,77,49]) (X:=[IntKind.u8.wrap ((n.words.length / 8:Nat):Int),IntKind.u8.wrap (c3 .i64 ((n.words.length / 8:Nat):Int) 8),1]) (λj v A=>?_) (fj o (by simp[dz])) rfl (by simp) (by simp) ?_
 ·have:=f j v A;unfold World.cell? at this ⊢;rw[show J.heap[(⟨b1,j,none⟩:aU).block]?=_ from l.block b1 C id];exact this
 rintro u R P r M a;have a:ai w P:=g.new (l.new a);have G:=h.new a;have d:w.heap.size<=u:=by have:=(g.new l).size;omega
 have H:u≠b/\u≠aK:=by have:=h.node.lt;have:=h.words.lt;omega
 refine⟨_,G.node.cell (i:=1) rfl,?_⟩;cases I:n.down with
 |true=>
  refine hc rfl (dW (by omega) (by show(6:Int)<((7:Nat):Int);omega) ?_);refine RZ (i:=6) r (by show 6<7;omega) λQ E B=>?_
  have q:ai w Q:=a.trans B λk N e=>by omega
  refine⟨_,_,_,(h.new q).node.cell (i:=0) rfl,EO h q ?_ d _⟩;have e:dz (l_ n)=(dz ([77,69,77,49]++[IntKind.u8.wrap ((n.words.length / 8:Nat):Int),IntKind.u8.wrap (c3 .i64 ((n.words.length / 8:Nat):Int) 8),1])).set 6 (.int .u8 0):=by unfold l_;rw[I];rfl
  rw[e];exact E
 |false=>
  refine dG rfl ⟨_,_,_,G.node.cell (i:=0) rfl,EO h a ?_ d _⟩;have e:l_ n=[77,69,77,49]++[IntKind.u8.wrap ((n.words.length / 8:Nat):Int),IntKind.u8.wrap (c3 .i64 ((n.words.length / 8:Nat):Int) 8),1]:=by unfold l_;rw[I];rfl
  rw[e];exact r
theorem En (h:bl u a (dz X))(j:n=X.length):(convert 77 9 (.slice a n c)).run prog u=.ok (.string (strOfNums X)) u:=by
 have hu:prog.underlying 77=some (.slice f8):=Tryz.underlying77;have d:prog.underlying f8=some (.int .u8):=by kernel_rfl
 have e:prog.underlying 9=some .string:=by kernel_rfl
 subst j;rcases h with he | ⟨b,o,rfl,g⟩
 ·have:X=[]:=by simpa[dz]using he
  subst this;cases a with
  |none=>rw[run_convert_bytes_nil u _ _ hu d _ _ _ e];rfl
  |some a=>rw[run_convert_bytes_string u _ _ _ _ _ _ hu d e,run_bytesToString u a _ c [] (by simp[loadCells,loadCellsFrom])];rfl
 ·exact run_convert_bytes_arg u _ _ hu d b o X.length c X rfl (λi f=>g i _ (by rw[Fv (b2 f)];simp[f])) _ e
theorem R1 {d:ak}{n' c':Nat}(h:bl u a (dz X))(f:n=X.length)(e:bl u d (dz X))(b:n'=X.length):a5 32 [.slice a n c,.slice d n' c'] u λv z=>v=.bool true/\z=u:=by refine ba Tryz.func32 ?_;rw[Xu];refine⟨_,_,En h f,_,_,En e b,?_,rfl⟩;simp
end
section
def lp (ls:List ct):a7:=(ls.map λl=>nr (q_ l.pair)).flatten
def oP (C:a9):a7:=h6 C.alive++fA C.inc++h6 false++fA 0++lp C.az
theorem LU (ls:List ct)(l:ct):lp (ls++[l])=lp ls++nr (q_ l.pair):=by simp[lp]
structure Hq (c:b3):Prop where
 fS:c.fS=none
 lane:∀ l ∈ c.az,l.p.a1=[]/\l.p.words=[]/\l.bG=[]
 ei:c.az.length<=5
theorem Nm (ws:a7):(sy ws).length=8+8*ws.length:=by simp[sy,ki,tM]
theorem Ea (p:cH):(q_ p).length=56+8*p.words.length:=by simp[q_,Nm];omega
theorem H1 (X:a7):(nr X).length=8+X.length:=by simp[nr,fA,ki]
theorem Cm:∀ {ls:List ct},(∀ l ∈ ls,l.pair.words=[])->(lp ls).length=64*ls.length
 | [],_=>rfl
 |l::ls,h=>by
  have a:=h l fR;have b:=Cm (ls:=ls) λx c=>h x (fG _ c)
  have e:lp (l::ls)=nr (q_ l.pair)++lp ls:=rfl;rw[e,fF,b,H1,Ea,a,h3,Kd];omega
def r5 (c:b3):iP:=⟨c.alive,c.inc,c.la,c.az.length,c.lc,c.fS.map λb=>⟨b,0,none⟩,c.raw.length,c.raw.length,c.waiting,c.jo,c.kL⟩
theorem CS (c:b3):(r5 c).cells=c.cells:=rfl
theorem eT.sub {M M':a4}(h:eT M u a n c L)(d:∀ k,M' k->M k):eT M' u a n c L:=⟨h.own,λk b e=>h.off k b (d k e),λk b=>h.low k (d k b)⟩
theorem Sq {aw:bR}{aM:Nat}{X:bs}(b5:cj A aw w0 aM X){d:b3}(a':X.aF[i]?=some d)(f:Hq d)(N:ai w0 u)(h:eT (λk=>k<w0.heap.size) u a n c L)(di:n<=1000000) :
  a5 58 [(r5 d).val,.slice a n c] u (mR (λk=>k<w0.heap.size) u (L++oP d.pure)):=by
 have I:d.raw=[]:=((b5.aL i d a').none f.fS).1;have cA:=h.len;have cy:=f.ei;have br:∀ k,(lp ((d.az.take k).map c4.pure)).length<=320:=λk=>by
  rw[Cm]
  ·have:=f.ei;rw[gR,lE];omega
  ·intro l O;obtain⟨x,cG,rfl⟩:=cW.1 O;exact(f.lane x (qN cG)).2.1
 refine ba Tryz.func58 ?_;rw[Xe];rintro b1 w1 a0 Z;obtain⟨C,s⟩:=bo a0 Z;clear Z;have C:av w1 b1 d.cells im:=C;have b7:w0.heap.size<=b1:=by have:=N.size;omega
 have aZ:eT (λk=>k<w0.heap.size\/k=b1) w1 a n c L:=by refine⟨(h.new s).own,λk r e=>e.elim (h.off k r) λe=>?_,λk r=>r.elim (λe=>(h.new s).low k e) λe=>by have:=C.lt;omega⟩;have:=h.own.lt r;omega
 have aO:∀ {y z:an},ao (λk=>¬ (k<w0.heap.size\/k=b1)) y z->av y b1 d.cells im->av z b1 d.cells im:=λr aq=>r.aj aq λe=>e (.inr rfl)
 have aQ:∀ {y z:an},ao (λk=>¬ (k<w0.heap.size\/k=b1)) y z->ai w0 y->ai w0 z:=λr aq=>rx aq r λk r=>.inl r
 rintro cV ab;have t:ai w1 cV:=by rw[ab];exact cR _
 clear ab;refine⟨λz=>av z b1 d.cells im,ai.aj t C,_,λz aq=>aq.cell (i:=0) rfl,_,λz aq=>aq.cell (i:=1) rfl,aB (Ho (aZ.new t) (by omega) _) ?_⟩;rintro v cY ⟨c9,dn,dd,rfl,bP,bC⟩;have o:=aO bC (ai.aj t C);have cI:=bP.len;refine⟨_,_,_,rfl,o,aB (sY bP (by rw[cI];simp[h6];omega) _) ?_⟩;rintro v c2 ⟨da,dp,de,rfl,bT,bD⟩;have j:=aO bD o;have cP:=bT.len;refine⟨_,_,_,rfl,j,?_⟩;rintro c5 af;have B:ai c2 c5:=by rw[af];exact cR _
 clear af;refine⟨λz=>av z b1 d.cells im,ai.aj B j,_,_,_,λz aq=>aq.cell (i:=3) rfl,_,_,_,λz aq=>aq.cell (i:=3) rfl,aB (Ho (bT.new B) (by rw[cP];simp[h6,fA,ki];omega) _) ?_⟩;rintro v dr ⟨db,dq,dg,rfl,bV,bH⟩;have ag:=aO bH (ai.aj B j);have cQ:=bV.len;refine⟨_,_,_,rfl,ag,aB (sY bV (by rw[cQ];simp[h6,fA,ki];omega) _) ?_⟩;rintro v G ⟨cb,cU,cn,rfl,bX,bK⟩;have ah:=aO bK ag;have dm:=bX.len;have b8:ai w0 G:=aQ bK (aQ bH ((aQ bD (aQ bC (N.new (s.new t)))).new B));refine⟨_,_,_,rfl,ah,.map (some G.heap.size),G.alloc (.map #[] 0),rfl,?_⟩;have E:ai G (G.alloc (.map #[] 0)):=hF _ _;generalize G.alloc (.map #[] 0)=c7 at E;have aG:=ai.aj E ah;refine⟨_,_,_,aG.cell (i:=2) rfl,?_⟩;have ct:L++h6 d.alive++fA d.inc++h6 (!Option.isNone (d.fS.map λb=>(⟨b,0,none⟩:aU)))++fA (d.raw.length:Int)=L++(h6 d.alive++fA d.inc++h6 false++fA 0):=by rw[f.fS,I];simp
 have b0:=bX.new E;rw[ct]at b0;have bl:ao (λk=>¬ (k<w0.heap.size\/k=b1)) w1 c7:=((nj (nj (ao.cm t) bC) bD).new B)|> λq=>(nj (nj q bH) bK).new E
 have K:(L++(h6 d.alive++fA d.inc++h6 false++fA 0)).length=n+18:=by simp[h6,fA,ki];omega
 refine cZ mix (λm env z=>∃ (k:Nat) (aW:ak) (aV pc:Nat) (aC:ax),m=d.az.length-k/\k<=d.az.length/\env=xZ aW aV pc ⟨b1,0,none⟩ (.map (some G.heap.size)) d.la d.az.length d.lc d.az.length k aC/\eT (λk=>k<w0.heap.size\/k=b1) z aW aV pc (L++(h6 d.alive++fA d.inc++h6 false++fA 0)++lp ((d.az.take k).map c4.pure))/\ao (λk=>¬ (k<w0.heap.size\/k=b1)) w1 z/\av z b1 d.cells im) d.az.length
  ⟨0,cb,cU,cn,_,rfl,by omega,rfl,by simpa[lp]using b0,bl,aG⟩ ?_
 rintro m env z ⟨k,aW,aV,pc,aC,rfl,r,rfl,aq,J,U⟩;have cS:=aq.len;rw[fF,K]at cS;have cT:=br k;have bx:ai w0 z:=aQ J (N.new s);rw[UG];refine bb (λD=>?_) (λcz=>?_)
 ·have D:k<d.az.length:=by omega
  obtain⟨l,O⟩:∃ l,d.az[k]?=some l:=⟨_,b2 D⟩;obtain⟨bq,H,bm⟩:=f.lane l (b9 O);have S:=b5.new bx;have bh:=S.aL i d a';obtain⟨g,V,_,_,bk,_⟩:=aX.row bh.own (nk d.az) (by omega) (mr O);rw[V];refine dW (by omega) (by omega) ?_;rw[hD];refine⟨_,_,_,_,bk,?_⟩;rintro bO cY a8 ad;obtain⟨o,Y⟩:=bo a8 ad;refine⟨gq (vs:=l.cells) o (by simp[c4.cells]) (by simp[c4.cells,single]),?_⟩;intro c3 ae;obtain⟨j,M⟩:=nw (vs:=l.cells) o (by simp[c4.cells]) Y (by omega) ae;clear ad ae o Y;refine⟨_,j.cell (i:=0) rfl,?_⟩;have bz:=((S.new M).aL i d a').lane k l O |>.pair;refine aB (RX bz bq (by rw[H];simp)) ?_;rintro v bM ⟨cd,ne,ce,rfl,ca,le,w,bj⟩;refine⟨_,_,_,rfl,?_⟩;have F:ai z bM:=M.new w;have b_:=M.size;have cu:eT (λk=>(k<w0.heap.size\/k=b1)\/aP cd k\/k=bO) bM aW aV pc (L++(h6 d.alive++fA d.inc++h6 false++fA 0)++lp ((d.az.take k).map c4.pure)):=by
   refine⟨(aq.new F).own,λq f e=>?_,λq f=>?_⟩
   ·have:=aq.own.lt f;rcases e with e | e | e
    ·exact aq.off q f e
    ·have:=bj q e;omega
    ·omega
   ·rcases f with e | e | e
    ·exact(aq.new F).low q e
    ·exact ca.lt e
    ·have:=j.lt;have:=w.size;omega
  refine aB (G6 cu (by omega) le ca.rd (by rw[le,Ea];show 56+8*l.p.words.length<=_;rw[H];simp) λq f=>.inr (.inl f)) ?_;rintro v bN ⟨P,aR,Q,rfl,R,aH⟩;refine⟨_,_,_,rfl,?_⟩;have T:av bN bO l.cells lL:=aH.aj (ai.aj w j) λe=>e (.inr (.inr rfl))
  have W:ao (λk=>¬ (k<w0.heap.size\/k=b1)) bM bN:=aH.mono λq _ f e=>f (.inl e)
  refine⟨_,_,_,T.cell (i:=1) rfl,?_⟩;have cB:l.bG.length=0:=by rw[bm];rfl
  refine cZ mix (λm env x=>∃ aC:ax,env=x0 P aR Q ⟨b1,0,none⟩ (.map (some G.heap.size)) (some ⟨g,0,none⟩) d.az.length d.lc d.az.length k l.kK l.bG.length l.lj l.bG.length 0 aC/\x=bN) 0 ⟨_,rfl,rfl⟩ ?_;rintro m env x ⟨bA,rfl,rfl⟩;rw[UH];refine bb (λD=>by omega) (λ_=>?_)
  rw[Vr,<-V,bI (x:=(k:Int)+1) (by omega) (by omega)];have e:L++(h6 d.alive++fA d.inc++h6 false++fA 0)++lp ((d.az.take k).map c4.pure)++nr (q_ l.p.pure)=L++(h6 d.alive++fA d.inc++h6 false++fA 0)++lp ((d.az.take (k+1)).map c4.pure):=by
   have cp:d.az.take (k+1)=d.az.take k++[l]:=by rw[zB,O];rfl
   rw[cp,kY,iI,ur,LU,ke];rfl
  rw[e]at R;exact⟨d.az.length-(k+1),by omega,k+1,P,aR,Q,_,rfl,by omega,rfl,R.sub λq f=>.inl f,nj (J.new F) W,aO W (ai.aj F U)⟩
 ·rw[Vq];refine⟨_,_,_,U.cell (i:=3) rfl,?_⟩;have cF:d.raw.length=0:=by rw[I];rfl
  refine cZ mix (λm env x=>∃ aC:ax,env=BE aW aV pc (.map (some G.heap.size)) (d.fS.map λb=>⟨b,0,none⟩) d.raw.length d.raw.length d.raw.length 0 aC/\x=z) 0 ⟨_,rfl,rfl⟩ ?_;rintro m env x ⟨bA,rfl,rfl⟩;rw[UI];refine bb (λD=>by omega) (λ_=>?_)
  rw[Vs];have:k=d.az.length:=by omega
  subst this;rw[ja,ke]at aq;exact⟨_,_,_,rfl,aq.sub λq f=>.inl f,(ao.cm s).trans (J.mono λq f e cr=>e (.inl cr)) λ_ _ h=>h⟩
end
end Go.Proofs.YtmkljjbioomepaaGreat
