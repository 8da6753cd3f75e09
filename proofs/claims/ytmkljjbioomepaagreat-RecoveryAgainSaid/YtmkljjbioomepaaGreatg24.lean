import Derived.Test.YtmkljjbioomepaaGreatProg
import Derived.Test.YtmkljjbioomepaaGreatg02
import Derived.Test.YtmkljjbioomepaaGreatg10
import Derived.Test.YtmkljjbioomepaaGreatg09
import Derived.Test.YtmkljjbioomepaaGreatg15
import Derived.Test.YtmkljjbioomepaaGreatg23
import Derived.Test.YtmkljjbioomepaaGreatg21
set_option linter.all false
set_option maxHeartbeats 4000000
set_option maxRecDepth 100000
namespace Go.Proofs.YtmkljjbioomepaaGreat
open Go.Proofs.Tryz Go.bJ
section
open IntKind
variable (w:an)(R:cM){a b:Nat}{i k:Int}{A B:aU}{s:ak}{j:ar}
def yw (e:aU)(f:ak)(a b:Nat)(c:aU)(d:Int)(j:ar):ar:=ag j 0 6 (.pointer (some e)::ag j 6 2 (ad f a b::ag j 8 1 (.pointer (some c)::ab d::ag j 9 39 [])))
def I0 (a b:aU)(j:ar):ar:=ag j 0 6 (.pointer (some a)::ag j 6 4 (.pointer (some b)::ag j 10 40 []))
theorem Zt:bd prog f30 [a' a,ab i,ab k] R w=(aR w #[ab 0,ah 0,ah 0,ah 0,ah 0,ah 0,ah 0,ah 0,ah 0] 73 λl v=>ov 39 #[a' a,ab i] v λj r=>cond (Option.isNone j) (a8 r (af l 0) 0 [ab 0,ah 0,ah 0,ah 0,ah 0,ah 0,ah 0,ah 0,ah 0] λo=>iC o (af l 0) λh=>o=o/\R (.tuple #[h.val,ae false]) o) (cG 54 #[ab k] r λb y=>vR 40 #[.pointer j,ab b,ab 8] y λc d f g p=>cond (g != 0) (a8 p (af l 0) 0 [ab 0,ah 0,ah 0,ah 0,ah 0,ah 0,ah 0,ah 0,ah 0] λm=>iC m (af l 0) λe=>m=m/\R (.tuple #[e.val,ae false]) m) (cond ((d:Int) != 8) (a8 p (af l 0) 0 [ab 0,ah 0,ah 0,ah 0,ah 0,ah 0,ah 0,ah 0,ah 0] λn=>iC n (af l 0) λt=>n=n/\R (.tuple #[t.val,ae false]) n) (bx c d 0 1 λq=>d' p q λx=>aR p #[ab 0,ah 0,ah 0,ah 0,ah 0,ah 0,ah 0,ah 0,ah 0] 73 λs z=>a8 z (af s 0) 0 [ab k,ah x,ah 0,ah 0,ah 0,ah 0,ah 0,ah 0,ah 0] λu=>cz prog (cU f30 [1,1,1,1,1,1,0,1,0,0]) (yw (af l 0) c d f (af s 0) 0 (jp (af a 0)::ab i::ab k::bm 3 (ae false::.pointer j::ab g::jp (af a 0)::ab i::.pointer j::.pointer j::ae (Option.isNone j)::undef::.tuple #[ad c d f,ab g]::.pointer j::ab k::ab b::.tuple #[ad c d f,ab g]::ad c d f::ab g::ab g::ae ((g:Int) != 0)::ae false::ad c d f::dA d::ae ((d:Int) != 8)::ae ((d:Int) != 8)::undef::ab k::ad c d f::jp q::ah x::.agg #[ab k,ah x,ah 0,ah 0,ah 0,ah 0,ah 0,ah 0,ah 0]::bm 13 []))) (aO 0 (aT f30 [1,1,1,1,1,1,1] R)) u)))):=by kernel_rfl
theorem W9 (c:ar->aJ):W prog (sb f30 [1,1,1,1,1,1,0,1,0,0]) (yw A s a b B i j) (aZ c (aO 0 (aT f30 [1,1,1,1,1,1,1] R))) w=(cond (i<7) (bx s a (i64.wrap (1+i)) 1 λd=>d' w d λx=>qd (b5 B 2) 7 i 1 λf=>cV w f (ah x) λe=>c (yw A s a b B (i64.wrap (i+1)) (ag j 0 35 [ab i,ae (i<7),ab i,ab (i64.wrap (i+1)),ab i,ad s a b,ab i,ab (i64.wrap (1+i)),jp d,ah x,bM B 2,jp f,aH j 47])) e) (W prog (sb f30 [1,1,1,1,1,1,1]) (I0 A B (ag j 0 8 (ad s a b::aH j 8::ab i::ag j 9 26 (ab i::ae (i<7)::ag j 37 11 [])))) (bT f30 R) w)):=by kernel_rfl
theorem X3:W prog (sb f30 [1,1,1,1,1,1,1]) (I0 A B j) (bT f30 R) w=(iC w B λr=>a8 w A 0 r.cells λa=>iC a A λc=>a=a/\R (.tuple #[c.val,ae true]) a):=by kernel_rfl
theorem YG:bd prog f54 [ab i] R w=(cond (i<96) (R (ab (-1)) w) (cond (i>=256) (R (ab (-1)) w) (R (ab (i64.wrap (i*8))) w))):=by kernel_rfl
end
section
theorem Pk (w:an){l:Int}(a:96<=l)(b:l<256):a5 54 [.int .i64 l] w λv w'=>v=.int .i64 (l*8)/\w'=w:=by refine ba Tryz.func54 ?_;rw[YG];refine dG (by grind) (dG (by grind) ⟨?_,rfl⟩);rw[bI (by omega) (by omega)]
def aD.gP (n:aD)(l:Nat):aN:=⟨l,n.get (l*8),n.get (l*8+1),n.get (l*8+2),n.get (l*8+3),n.get (l*8+4),n.get (l*8+5),n.get (l*8+6),n.get (l*8+7)⟩
theorem Pl {n:aD}{at_ c q:Nat}(b:q<c)(a:at_+c<=n.words.length):(n.read at_ c)[q]?=some (n.get (at_+q)):=by
 grind[aD.read,aD.get_some,Int.toNat_natCast,List.getElem?_take_of_lt]
theorem Pm {n:aD}{l i:Nat}(a:i<7):((n.gP l).cells.take (2+i)++List.replicate (7-i) (Value.int .u64 0)).set (2+i) (Value.int .u64 (n.get (l*8+(1+i))))=(n.gP l).cells.take (2+(i+1))++List.replicate (7-(i+1)) (Value.int .u64 0):=by
 have h:i=0\/i=1\/i=2\/i=3\/i=4\/i=5\/i=6:=by omega
 rcases h with rfl | rfl | rfl | rfl | rfl | rfl | rfl<;>rfl
theorem AN {A:a4}{aw:bR}{w:an}{aM:Nat}{X:bs}(h:cj A aw w aM X){i:Nat}{x:g4}(P:X.nodes[i]?=some x){l:Nat}(aG:96<=l/\l<256)(hw:l * 8+8<=x.n.words.length)(af:x.n.down=false) :
  a5 30 [ptr aM,.int .i64 i,.int .i64 l] w λv w'=>v=.tuple #[(x.n.gP l).val,.bool true]/\ai w w':=by
 refine ba Tryz.func30 ?_;rw[ptr,Zt];rintro b1 w1 F C;obtain⟨f,p⟩:=bo F C;have f:av w1 b1 (aN.cells ⟨0,0,0,0,0,0,0,0,0⟩) fr:=f;clear C;have N:=h.new p;refine aB (Dc N P) ?_;rintro v bQ ⟨rfl,rfl⟩;refine⟨_,rfl,dG rfl ?_⟩;refine aB (Pk _ (l:=(l:Int)) (by omega) (by omega)) ?_;rintro v cl ⟨rfl,rfl⟩;refine⟨_,rfl,?_⟩;have u:x.n.fU ((l:Int)*8) 8=0:=by
  unfold aD.fU
  grind
 refine aB (AA (N.node i x P).node ((l:Int)*8) 8) ?_;rintro v bw (⟨ae,_⟩ | ⟨_,a,cap,rfl,r,W,ad⟩)
 ·grind
 have ag:∀ q,q<8->(x.n.read ((l:Int)*8) 8)[q]?=some (x.n.get (l*8+q)):=λq O=>by
  have:=Pl (n:=x.n) (at_:=l*8) (c:=8) O (by omega)
  grind
 have hlen:(x.n.read ((l:Int)*8) 8).length=8:=aD.yN u;have B:=W.rd;obtain⟨M,Q,rfl⟩:∃ b o,a=⟨b,o,none⟩:=by
  rcases B with J | ⟨b,o,he,_⟩
  ·have:=ey List.length J
   grind[us]
  grind
 have K:∀ z,ai bw z->∀ q,q<8->z.cell? ⟨M,Q+q,none⟩=some (.int .u64 (x.n.get (l*8+q))):=λz aq q O=>by
  rcases B.new aq with J | ⟨b,o,he,G⟩
  ·have:=ey List.length J
   grind[us]
  grind[us]
 have Y:=p.size;have Z:=r.size;have U:=f.lt;refine⟨_,_,_,_,rfl,dG rfl (dG rfl ?_)⟩;refine dW (by omega) (by decide) ⟨_,by simpa using K bw (ao.refl _ _) 0 (by omega),?_⟩;refine io (vs:=aN.cells ⟨l,x.n.get (l*8),0,0,0,0,0,0,0⟩) rfl (aN.single _) λE cq R L I=>?_
 refine cZ mix (λq env z=>∃ (i:Nat) (aC:ax),q=7-i/\i<=7/\env=yw ⟨b1,0,none⟩ (some ⟨M,Q,none⟩) 8 cap ⟨E,0,none⟩ i aC/\ai bw z/\av z E ((x.n.gP l).cells.take (2+i)++List.replicate (7-i) (.int .u64 0)) fr) 7
  ⟨0,_,rfl,by omega,rfl,I,L⟩ ?_
 rintro q env z ⟨i,aC,rfl,ah,rfl,s,d⟩;rw[W9];refine bb (λV=>?_) (λS=>?_)
 ·have y:i<7:=by omega
  rw[bI (x:=1+(i:Int)) (by omega) (by omega)];refine dW (by omega) (by omega) ⟨x.n.get (l*8+(1+i)),?_,?_⟩
  ·grind
  refine uA (by omega) (by omega) ?_;have e:0+2+(i:Int).toNat*1=2+i:=by omega
  rw[e];refine sC d (by grind[List.length_append,List.length_take,List.length_replicate,aN.len]) λab g j=>?_
  rw[bI (x:=(i:Int)+1) (by omega) (by omega)];rw[Pm y]at g;exact⟨7-(i+1),by omega,i+1,_,rfl,by omega,rfl,s.trans j λk T e=>by grind,g⟩
 ·have H:i=7:=by omega
  subst H;rw[X3];have d:av z E (x.n.gP l).cells fr:=d;have D:av z b1 (aN.cells ⟨0,0,0,0,0,0,0,0,0⟩) fr:=ai.aj (r.new s) f;refine aN.aV (x.n.gP l) ⟨bX d rfl,?_⟩;refine dY D rfl (aN.single _) λab t j=>?_
  refine aN.aV (x.n.gP l) ⟨bX t rfl,rfl,rfl,?_⟩;exact((p.new r).new s).trans j λk T e=>by omega
end
section
theorem LJ (l:List aN)(p:aN):(iw (l++[p])).flatten=(iw l).flatten++p.cells:=by simp[iw]
theorem QJ {u:an}{a:ak}{n cap:Nat}{L:List aN}(h:aX u fr 9 a n cap (iw L).flatten){p:aN}(j:n<=1000000){K:Nat->ak->Nat->Nat->aJ}
  (q:∀ b ap e g,b=u.heap.size->aX g fr 9 ap (n+1) e (iw (L++[p])).flatten->ao (aP a) u g->(∀ k,aP ap k->aP a k\/u.heap.size<=k)->K b ap (n+1) e g) :
  ∀ b1 i,b1=u.heap.size->i=u.alloc (.cells p.cells.toArray fr)->∃ (ap:ak) (d c:Nat),∃ g,(Builtin.append_ #[37,37] 37 #[(.slice a n cap),(.slice (some ⟨b1,0,none⟩) 1 1)]).run prog i=.ok (.slice ap d c) g/\K b1 ap d c g:=by
 obtain⟨inf,o,aq,f,l⟩:=fV (T:=fr) (z:=.agg #[.int .i64 0,.int .u64 0,.int .u64 0,.int .u64 0,.int .u64 0,.int .u64 0,.int .u64 0,.int .u64 0,.int .u64 0]) (n:=9) (m:=72) (by kernel_rfl);rw[<-f]at h;refine pv Tryz.underlying37 o aq (by rw[f];rfl) (by omega) h (by rw[f];rfl) (aN.single p) (by omega) (by omega) ?_
 grind[LJ]
end
section
open dF
def xr (x q:Nat):Bool:=(x+1) / 2 ^ q % 2 == 1
def ot (x i:Nat):c6:=((List.range i).filter (xr x)).map (96+·)
def hH (x:Nat):c6:=ot x 4
def ns (l:c6):a7:=l.map Int.ofNat
theorem J5 (x i:Nat):ot x (i+1)=ot x i++(if xr x i=true then[96+i]else[]):=by
 grind[ot,List.range_succ,xr]
theorem Nb:∀ x,x<14->∀ i,i<4->(hE .i64 (c3 .i64 (((x+1:Nat):Int)) ((i:Nat):Int)) 1 == 1)=xr x i:=by decide
theorem Cl {x l:Nat}(h:l ∈ hH x):96<=l/\l<100:=by
 grind[hH,ot]
theorem LK (x i:Nat):(ot x i).length<=i:=by
 grind[ot,List.length_map,Nat.le_trans,List.length_filter_le]
theorem Cd:∀ y,y<14->1<=(hH y).length/\(hH y).length<=3:=by decide
def lN (l:Nat):aN:=⟨l,256,1,0,0,0,0,0,0⟩
def v5 (n y:Nat):cJ:=⟨0,1,101,j' n,[],(hH y).map lN⟩
def fZ (n y:Nat):Env:=⟨n,101,A0,λ_=>0,[0],λ_=>v5 n y,false⟩
theorem Nc:∀ n,n<3->∀ y,y<14->(v5 (n+1) y).valid=0:=by decide +kernel
theorem Nd:∀ y,y<14->gk 1 ((hH y).map lN) 101=0:=by decide +kernel
theorem Sh:dK 256 0≠mO 256:=by decide
theorem uU {n y:Nat}{p:aN}:p ∈ bD (fZ n y)↔∃ l,l ∈ hH y/\p=lN l:=by
 show p ∈ (hH y).map lN↔_
 grind
theorem A1 {n y:Nat}(f:1<=n/\n<=3)(b:y<14):b8 (fZ n y):=by
 have al:(v5 n y).valid=0:=by
  have:=Nc (n-1) (by omega) y b
  grind
 have h:=Cd y b;have j:eB (fZ n y) 0 ((fZ n y).dV 0):=eB.VA al rfl (by omega) rfl rfl (λe=>by
  have e:(hH y).map lN=[]:=e
  simp_all) (λp a=>by obtain⟨l,_,rfl⟩:=uU.1 a;rfl) (λs g=>by cases g)
 refine⟨⟨⟨f.1,by show n<=5;omega⟩,⟨by show 98<=101;omega,by show 101<=256;omega⟩,by show([0]:c6).Nodup;simp,λi d=>?_⟩,rfl,rfl,λp a=>?_,Nd y b,λp a x c=>?_,λp a=>?_,⟨by show(0:Int)<=0;omega,by show(0:Int)<1;omega⟩,λl _ _=>rfl⟩
 ·have:i ∈ ([0]:c6):=d
  grind
 ·obtain⟨l,_,rfl⟩:=uU.1 a;exact Sh
 ·obtain⟨l,_,rfl⟩:=uU.1 a;simp[h7,lN]at c;rcases c with rfl | rfl<;>exact⟨by omega,by omega⟩
 ·obtain⟨l,_,rfl⟩:=uU.1 a;exact⟨by show(0:Int)<=256;omega,by show(256:Int)<_;omega⟩
def ma:bn:=⟨λ_ _=>0,λ_=>false,λ_=>false,λ_=>false,λ_=>false,0⟩
def Gh (n:Nat):Bool:=(fmt 101 n).getD 48 0 == 0 && (fmt 101 n).getD 49 0 == 0
theorem y8 {n:Nat}(a:1<=n/\n<=3):uF n 101=true/\Gh n=true:=by
 obtain rfl | rfl | rfl:n=1\/n=2\/n=3:=by omega
 all_goals exact⟨by kernel_rfl,by kernel_rfl⟩
theorem O5 {n y k:Nat}(B:1<=n/\n<=3)(K:y<14)(j:4<=k/\k<=6):gC (fZ n y) [] (ay.fresh n k 101) ma ⟨8,hJ⟩ λ_=>lO 12:=by
 obtain⟨h,hm⟩:=y8 B;simp only[uF,gL,jt,gS,beq_iff_eq]at h;obtain⟨u,w,A,g,s⟩:=h;simp only[Gh,gL,beq_iff_eq]at hm;have J:∀ (m:Nat) (x:aD),(ay.fresh n k 101).nodes[m]?=some x->x=⟨fmt 101 n,false⟩:=λm x e=>by have e:=b9 e;exact(List.mem_replicate.1 e).2
 have f:∀ (i:Nat) (C:a9),(ay.fresh n k 101).aF[i]?=some C->kb n C/\C.batch=none/\hx C:=λi C e=>by
  have e:=b9 e;obtain⟨q,I,rfl⟩:=cW.1 e;have o:∀ (k:Nat) (l:ct),(hd n q).az[k]?=some l->l.pair.a1=[]/\l.pair.words=[]:=λk l a=>by have a:=b9 a;unfold hd hU at a;simp only at a;obtain⟨z,aq,rfl⟩:=cW.1 a;exact⟨rfl,rfl⟩
  refine⟨⟨rfl,rfl,by simp[hd,hU],λk l a v e2 e _=>?_⟩,rfl,λk l a=>(o k l a).1⟩
  grind
 have r:(ay.fresh n k 101).aF[0]?=some (hd n 0):=by
  show((List.range k).map (hd n))[0]?=_
  grind
 have t:∀ m,Mem (fZ n y) ma m ⟨fmt 101 n,false⟩:=λm=>by
  refine⟨⟨rfl,u,w,A,(g 0 (by omega)).1,λc _ b=>(g c b).1⟩,λp D=>?_,λl E l2 _ k j=>?_,λc _ b=>(g c b).2,(g 0 (by omega)).2,hm.1,λ_=>hm.2,λe=>by cases e⟩
  ·obtain⟨l,a,rfl⟩:=uU.1 D;obtain⟨E,l2⟩:=Cl a;show∀ k,k<8->_;intro k j;have:=s (l-96) (by omega) k j;rw[show l-96+96=l by omega]at this;exact this
  ·have l2:l<101:=l2;have:=s (l-96) (by omega) k j;rw[show l-96+96=l by omega]at this;exact this
 obtain⟨F,G,H⟩:=f 0 _ r;refine⟨cr.fresh (by omega) (by omega) (by omega),rfl,rfl,by grind[ay.fresh],⟨by show(ay.fresh n k 101).nodes.length=n;simp[ay.fresh],λm x e=>by grind⟩,?_,.inl rfl,⟨_,r,F,λe=>by grind,λ_=>⟨G,H⟩⟩,trivial,(λq d e=>by cases e),λ_=>⟨λ_ _=>rfl,λ_ _=>rfl,λ_ _ _ _=>rfl⟩,λc b=>(by cases b),λc b=>(by cases b),λ⟨p,_,e⟩=>by have:(0:Nat)=1:=e;omega,λ_ _=>rfl,λc C _ _ e=>f c C e⟩;have no:∀ {P:Prop},false=true->P:=λh=>by cases h
 exact⟨λm _ p _=>⟨by show 0<=2;omega,λ_=>by show(0:Nat)≠1;omega⟩,λm _ e=>no e,λm _ p _ e=>(by have:(0:Nat)=2:=e;omega),λm _ e=>no e,λp _ e=>(by have:(0:Nat)=2:=e;omega),λe=>no e,λm _ _ e=>no e⟩
theorem gC.join {E:Env}{F:ay}{A:bn}{g:fp}{gr:Nat->c1}(h:gC E [] F A g gr){rs:c6}(f:∀ c ∈ rs,1<=c/\c<4):gC E rs F A g λ_=>lO 12:=by
 have b:∀ {P:Prop},(12:Nat)<=9->P:=λh=>by omega
 refine⟨h.ev,h.lines,h.fY,h.o_,h.rep,h.law,?_,h.cD,h.qp,h.tF,h.yH,λc a=>?_,λc a=>⟨trivial,⟨λe=>by have:12<=7:=e.2;omega,λe=>by have:12=8:=e;omega⟩,(λq d e=>by cases e),db _⟩,h.vK,(λ_=>h.op λc j=>by cases j),λc C k p l=>h.rest c C k (by simp) l⟩
 ·rcases h.r4 with e | ⟨c,j,_⟩
  ·exact .inl e
  grind
 ·have:=f c a;have r:=h.o_;obtain⟨C,i⟩:∃ C,F.aF[c]?=some C:=⟨_,b2 (by omega)⟩;obtain⟨r1,n,o⟩:=h.rest c C (by omega) (by simp) i;exact⟨C,i,r1,λe=>b e,λ_=>⟨n,o⟩⟩
theorem FT {n:Nat}:∀ {ls:List ct} {j:Nat},(∀ (i:Nat) (l:ct),ls[i]?=some l->l.pair.node=((j+i:Nat):Int))->((((ls.map ct.pair).filter λp=>decide (0<p.a1.length)).map λp=>p.node.toNat)).Pairwise (·<·)/\∀ q ∈ (((ls.map ct.pair).filter λp=>decide (0<p.a1.length)).map λp=>p.node.toNat),j<=q
 | [],j,h=>by simp
 |l::ls,j,h=>by
  obtain⟨a,b⟩:=FT (n:=n) (ls:=ls) (j:=j+1) λi l' c=>by
   have:=h (i+1) l' (by grind)
   grind
  grind[List.filter_cons_of_pos,List.pairwise_cons,List.filter_cons_of_neg]
theorem gC.die {E:Env}{rs:c6}{F:ay}{A:bn}{g:fp}{gr:Nat->c1}(h:gC E rs F A g gr):∃ bE,F.die ((0:Nat):Int)=(true,bE)/\kf bE F:=by
 obtain⟨C,b,q,_⟩:=h.cD;have a:=h.ev.cg.ok.aL 0 C b;have t:=cS b;refine⟨{F with bZ:=F.bZ++(C.az.map ct.pair).filter (λp=>decide (0<p.a1.length)),aF:=F.aF.set 0 {C with alive:=false,az:=[],batch:=none,waiting:=0} },?_,⟨rfl,rfl,λk s=>jN λe=>s e.symm,λC' o=>?_,λp f=>?_,?_⟩⟩
 ·unfold ay.die;rw[g1,b];simp only;rw[aQ (by rw[q.live];simp),hD]
 ·grind
 ·simp only[h.fY,qO]at f;obtain⟨d,u⟩:=List.mem_filter.1 f;obtain⟨l,c,rfl⟩:=cW.1 d;obtain⟨j,r⟩:=ez.1 c;have w:=(a.lane j l r).node
  grind
 ·simp only[h.fY,qO];exact((FT (n:=0) (ls:=C.az) (j:=0) λi l c=>by rw[(a.lane i l c).node];omega).1).imp λh=>by omega
end
namespace dI
abbrev fh:=cu
abbrev ho:bY:=45
abbrev HA:bY:=46
structure hb (A:a4)(w:an)(r:fh)(t:bK conv):Prop where
 kind:r.Kind=NG t.bp
 aL:r.Client=t.aL
 en:r.m1=t.en
 bad:r.sq=t.bad
 a2:ic A w r.An t.a2
 f9:r.sI=t.a2.length
 gc:r.sI<=r.Ap
 bp:xj A w r t.bp
 out:xD A w r t.out
 len:t.a2.length<=201
theorem hb.aA {A A':a4}{w w':an}{r:fh}{t:bK conv}(h:hb A w r t)(b:ao A w w')(a:∀ k,k<w.heap.size->A' k->A k):hb A' w' r t:=
 ⟨h.kind,h.aL,h.en,h.bad,h.a2.aA b a,h.f9,h.gc,h.bp.aA b a,h.out.aA b a,h.len⟩
theorem hb.fail {A:a4}{w:an}{r:fh}{t:bK conv}(h:hb A w r t):hb A w {r with m1:=true,sq:=true} t.fail:=
 ⟨h.kind,h.aL,rfl,rfl,h.a2,h.f9,h.gc,h.bp,h.out,h.len⟩
theorem sw {z:an}{b1 a:Nat}{r:fh}{cs:ax}{R:cM}(c:av z b1 r.cells ho)(d:av z a cs ho)(g:cs.length=36)(f:∀ w',ao (λk=>k=a) z w'->R r.val w') :
  cu.ex λx=>cn z ⟨b1,0,none⟩ 0 x.cells/\ej z ⟨a,0,none⟩ 0 x.cells/\∀ w',w'=cI z ⟨a,0,none⟩ 0 x.cells->cu.ex λy=>cn w' ⟨a,0,none⟩ 0 y.cells/\w'=w'/\R y.val w':=by
 refine cu.aV r ⟨bX c rfl,?_⟩;refine dY (vs:=r.cells) d (by rw[g];rfl) (cu.single r) λw' b e=>?_
 exact cu.aV r ⟨bX b rfl,rfl,f w' e⟩
def sW (A:a4)(aw:bR)(w:an)(aM:Nat)(x:ay×bK conv)(v:bf)(w':an):Prop:=
 d_ A aw w aM x.1 w' λB=>∃ r:fh,v=r.val/\hb B w' r x.2
theorem xt {A:a4}{aw:bR}{w z w':an}{aM b1 a:Nat}{B:a4}{f:bR}{X:bs}{r:fh}{t:bK conv}(h:gi A aw w aM (λk=>k=b1\/k=a) z B f X)(d:hb (λk=>B k\/k=b1\/k=a) z r t)(b:ao (λk=>k=a) z w') :
  sW A aw w aM (X.pure,t) r.val w':=
 (h.local b λ_ e=>.inr e).done ⟨r,rfl,d.aA (b.mono λ_ _ e=>.inr (.inr e)) λk _ c=>.inl c⟩
def jq (ts:List (fh×bK conv)):List ax:=ts.map λx=>x.1.cells
theorem tL (ts:List (fh×bK conv)):∀ r ∈ jq ts,r.length=36:=by intro r a;simp only[jq,cW]at a;obtain⟨x,_,rfl⟩:=a;rfl
theorem zR {ts:List (fh×bK conv)}{i:Nat}{x:fh×bK conv}(h:ts[i]?=some x):(jq ts)[i]?=some x.1.cells:=by simp[jq,h]
theorem LL (ts:List (fh×bK conv)):∀ u ∈ (jq ts).flatten,single u=true:=by
 intro u hu;obtain⟨r,a,b⟩:=qL.1 hu;simp only[jq,cW]at a
 grind[cu.single]
end dI
namespace dI
theorem Si {A:a4}{z:an}{r:fh}{t:bK conv}(h:hb A z r t)(bV:∀ k,A k->k<z.heap.size) :
  a5 65 [r.val] z λv bx=>ai z bx/\∃ (aa:ak) (ac:Nat) (f:List aG) (b0:fh),v=.tuple #[.slice aa f.length ac,b0.val]/\bl bx aa (dS f).flatten/\(∀ k,aP aa k->z.heap.size<=k)/\et (λk=>k<z.heap.size) bx f (conv.next t.bp t.a2).1/\hb A bx b0 t.told:=by
 refine ba Tryz.func65 ?_;rw[Y1];rintro b1 bQ bz bk;obtain⟨W,bj⟩:=bo bz bk;have W:av bQ b1 r.cells ho:=W;clear bk;rintro ae cl bC bm;obtain⟨P,aO⟩:=bo bC bm;obtain⟨bb,P,ab⟩:∃ cs,av cl ae cs ho/\cs.length=r.cells.length:=⟨_,P,rfl⟩;clear bm;have E:=bj.new aO;have b8:=bj.size;have b9:=aO.size;have b3:=W.lt;have b5:=P.lt;have b:=ai.aj aO W;cases F:t.bp with
 |inl c=>
  have ah:r.Kind=3:=by rw[h.kind,F];rfl
  have ag:dF.re A z r.jv c:=by have:=h.bp;rw[F]at this;exact this
  have l:t.told={t with en:=(ee c t.a2).2.2,out:=.inl (ee c t.a2).2.1}:=by unfold bK.told;rw[F];rfl
  have U:conv.next (.inl c) t.a2=((ee c t.a2).1,.inl (ee c t.a2).2.1,(ee c t.a2).2.2):=rfl;refine⟨_,b.cell (i:=0) rfl,dG (by grind) (dG (by grind) (hc (by grind) ?_))⟩;refine dj.aV r.jv ⟨bX b rfl,_,_,_,b.cell (i:=23) rfl,?_⟩;have p:ao A z cl:=ao.cm E;have bq:dF.re A cl r.jv c:=ag.aA (A':=A) p λ_ _ e=>e
  have bI:=h.a2.aA (A':=A) p λ_ _ e=>e
  have af:=Qq bq.at_ (λ_=>bq.mm) bI h.f9 h.gc;refine aB af ?_;rintro v bw ⟨aa,ac,f,rfl,I,K,bH,V⟩;refine⟨_,_,_,bA.aV ⟨(ee c t.a2).2.1.1,(ee c t.a2).2.1.2⟩ ⟨(ee c t.a2).2.2,rfl,?_⟩⟩;refine io (vs:=bA.cells ⟨(ee c t.a2).2.1.1,(ee c t.a2).2.1.2⟩) rfl (bA.single _) λa' cq bD S B=>?_
  rintro Y L;have j:ai cq Y:=by rw[L];exact cR _
  clear L;have bN:=I.size;have bO:=B.size;have bP:=j.size;have a:=ai.aj j S;have d:=(I.new B).new j;have O:=ai.aj d b;have Q:=ai.aj d P;refine⟨λy=>av y a' (bA.cells ⟨(ee c t.a2).2.1.1,(ee c t.a2).2.1.2⟩) e3,a,_,λy D=>D.cell (i:=0) rfl,_,λy D=>D.cell (i:=1) rfl,?_⟩;refine lA O (i:=24) rfl λb_ aR g=>⟨g.aj a (by omega),?_⟩
  refine lA aR (i:=26) rfl λca aX x=>⟨x.aj (g.aj a (by omega)) (by omega),?_⟩
  refine lA aX (i:=32) rfl λu8 T H=>?_
  rintro Z M;have C:ai u8 Z:=by rw[M];exact cR _
  clear M;have s:ao (λk=>k=b1) Y u8:=(g.trans x λ_ _ e=>e).trans H λ_ _ e=>e
  have T:av u8 b1 (cu.cells {r with m1:=(ee c t.a2).2.2,Code:=(ee c t.a2).2.1.1,q8:=(ee c t.a2).2.1.2}) ho:=T;have aZ:=ai.aj C T;have R:av Z ae bb ho:=ai.aj C (s.aj Q (by omega));have G:ao (λk=>k=b1) Y Z:=s.new C;refine⟨λy=>ai Z y,ao.refl _ _,cu.aV {r with m1:=(ee c t.a2).2.2,Code:=(ee c t.a2).2.1.1,q8:=(ee c t.a2).2.1.2} ⟨λy D=>bX (ai.aj D aZ) rfl,?_⟩⟩;refine dY R (by rw[ab];rfl) (cu.single _) λa8 a0 aH=>?_
  refine cu.aV {r with m1:=(ee c t.a2).2.2,Code:=(ee c t.a2).2.1.1,q8:=(ee c t.a2).2.1.2} ⟨bX a0 rfl,rfl,?_⟩;have w:ao (λk=>k=b1\/k=ae) Y a8:=(G.mono λk _ e=>.inl e).trans (aH.mono λk _ e=>.inr e) λ_ _ e=>e
  have J:ai z a8:=(E.new d).trans w λk bM e=>by omega
  have q:ao (λk=>k=b1\/k=ae) bw a8:=(ao.cm (B.new j)).trans w λ_ _ e=>e
  refine⟨J,aa,ac,f,_,rfl,K.aA q (hv K λk ah e=>by grind),λk ah=>by grind,?_,?_⟩
  ·rw[U];exact V.aA (q.mono λk _ e=>by grind) λk _ e=>by grind
  ·have n:=h.aA (A':=A) (ao.cm J) λ_ _ e=>e
   rw[l];exact⟨n.kind,n.aL,rfl,n.bad,n.a2,n.f9,n.gc,n.bp,⟨rfl,rfl⟩,n.len⟩
 |inr X=>
  have ah:r.Kind=4:=by rw[h.kind,F];rfl
  have ag:rf A z r.Recover X:=by have:=h.bp;rw[F]at this;exact this
  have l:t.told={t with en:=(fx X t.a2).2.2,out:=.inr (fx X t.a2).2.1}:=by unfold bK.told;rw[F];rfl
  have U:conv.next (.inr X) t.a2=((fx X t.a2).1,.inr (fx X t.a2).2.1,(fx X t.a2).2.2):=rfl;refine⟨_,b.cell (i:=0) rfl,dG (by grind) (dG (by grind) (dG (by grind) (hc (by grind) ?_)))⟩;refine c_.aV r.Recover ⟨bX b rfl,_,_,_,b.cell (i:=23) rfl,?_⟩;have p:ao A z cl:=ao.cm E;have bq:rf A cl r.Recover X:=ag.aA (A':=A) p λ_ _ e=>e
  have bI:=h.a2.aA (A':=A) p λ_ _ e=>e
  refine aB (Rh bq.at_ bI h.f9 h.gc) ?_;rintro v bw ⟨aa,ac,f,rfl,I,K,bH,V⟩;generalize b7:fx X t.a2=N at V l U;obtain⟨cb,o,br⟩:=N;refine⟨_,_,_,dB.aV o ⟨br,rfl,?_⟩⟩;refine io (vs:=o.cells) rfl (dB.single _) λa' cq bD S B=>?_
  rintro Y L;have j:ai cq Y:=by rw[L];exact cR _
  clear L;have bN:=I.size;have bO:=B.size;have bP:=j.size;have S:av cq a' o.cells p3:=S;have a:=ai.aj j S;have d:=(I.new B).new j;have O:=ai.aj d b;have Q:=ai.aj d P;refine⟨λy=>av y a' o.cells p3,a,_,λy D=>D.cell (i:=0) rfl,_,λy D=>D.cell (i:=1) rfl,_,λy D=>D.cell (i:=2) rfl,_,λy D=>D.cell (i:=3) rfl,?_⟩;have off:∀ {u bB:an},ao (λk=>k=b1) u bB->av u a' o.cells p3->av bB a' o.cells p3:=λah b2=>ah.aj b2 (by omega)
  refine lA O (i:=24) rfl λb_ aR g=>⟨off g a,?_⟩
  refine lA aR (i:=26) rfl λca aX x=>⟨off x (off g a),?_⟩
  refine lA aX (i:=33) rfl λu8 T H=>⟨off H (off x (off g a)),?_⟩
  refine lA T (i:=34) rfl λv1 bT ad=>⟨off ad (off H (off x (off g a))),?_⟩
  refine lA bT (i:=35) rfl λv2 aQ bh=>?_
  rintro Z M;have C:ai v2 Z:=by rw[M];exact cR _
  clear M;have s:ao (λk=>k=b1) Y v2:=(((g.trans x λ_ _ e=>e).trans H λ_ _ e=>e).trans ad λ_ _ e=>e).trans bh λ_ _ e=>e
  have aQ:av v2 b1 (cu.cells {r with m1:=br,Code:=o.Code,kx:=o.kx,Seq:=o.Seq,ku:=o.ku}) ho:=aQ;have aZ:=ai.aj C aQ;have R:av Z ae bb ho:=ai.aj C (s.aj Q (by omega));have G:ao (λk=>k=b1) Y Z:=s.new C;refine⟨λy=>ai Z y,ao.refl _ _,cu.aV {r with m1:=br,Code:=o.Code,kx:=o.kx,Seq:=o.Seq,ku:=o.ku} ⟨λy D=>bX (ai.aj D aZ) rfl,?_⟩⟩;refine dY R (by rw[ab];rfl) (cu.single _) λa8 a0 aH=>?_
  refine cu.aV {r with m1:=br,Code:=o.Code,kx:=o.kx,Seq:=o.Seq,ku:=o.ku} ⟨bX a0 rfl,rfl,?_⟩;have w:ao (λk=>k=b1\/k=ae) Y a8:=(G.mono λk _ e=>.inl e).trans (aH.mono λk _ e=>.inr e) λ_ _ e=>e
  have J:ai z a8:=(E.new d).trans w λk bM e=>by omega
  have q:ao (λk=>k=b1\/k=ae) bw a8:=(ao.cm (B.new j)).trans w λ_ _ e=>e
  refine⟨J,aa,ac,f,_,rfl,K.aA q (hv K λk ah e=>by grind),λk ah=>by grind,?_,?_⟩
  ·rw[U];exact V.aA (q.mono λk _ e=>by grind) λk _ e=>by grind
  ·have n:=h.aA (A':=A) (ao.cm J) λ_ _ e=>e
   rw[l];exact⟨n.kind,n.aL,rfl,n.bad,n.a2,n.f9,n.gc,n.bp,⟨rfl,rfl,rfl,rfl⟩,n.len⟩
end dI
namespace dI
def EC (p b1 b:Nat)(z:an)(R:cM):Prop:=
 ∃ (g:ak) (f9 gc:Nat),z.cell? ⟨b1,23,none⟩=some (.slice g f9 gc)/\(bif (decide ((f9:Int)>200))then
  ((∃ u,z.cell? ⟨b1,24,none⟩=some u)/\z.frozen? ⟨b1,24,none⟩=false/\∀ f,f=z.setCell ⟨b1,24,none⟩ (.bool true)->(∃ u,f.cell? ⟨b1,25,none⟩=some u)/\f.frozen? ⟨b1,25,none⟩=false/\∀ h,h=f.setCell ⟨b1,25,none⟩ (.bool true)->
   cu.ex λx=>cn h ⟨b1,0,none⟩ 0 x.cells/\ej h ⟨b,0,none⟩ 0 x.cells/\∀ w',w'=cI h ⟨b,0,none⟩ 0 x.cells->cu.ex λy=>cn w' ⟨b,0,none⟩ 0 y.cells/\w'=w'/\R y.val w')
  else(cu.ex λr=>cn z ⟨b1,0,none⟩ 0 r.cells/\Calls prog 65 #[r.val] z λe o=>∃ (a:ak) (e_ ac:Nat),cu.ex λk=>e=.returned (.tuple #[.slice a e_ ac,k.val])/\ej o ⟨b1,0,none⟩ 0 k.cells/\∀ c,c=cI o ⟨b1,0,none⟩ 0 k.cells->
   ∃ n:Bool,c.cell? ⟨b1,24,none⟩=some (.bool n)/\(bif (!n) then (∃ cC:Int,c.cell? ⟨b1,1,none⟩=some (.int .i64 cC)/\Calls prog 66 #[.pointer (some ⟨p,0,none⟩),.int .i64 cC,.slice a e_ ac] c λe d=>∃ l:Int,e=.returned (.int .i64 l)/\(bif (l != 0) then
     ((∃ u,d.cell? ⟨b1,24,none⟩=some u)/\d.frozen? ⟨b1,24,none⟩=false/\∀ i,i=d.setCell ⟨b1,24,none⟩ (.bool true)->(∃ u,i.cell? ⟨b1,25,none⟩=some u)/\i.frozen? ⟨b1,25,none⟩=false/\∀ j,j=i.setCell ⟨b1,25,none⟩ (.bool true)->
      cu.ex λx=>cn j ⟨b1,0,none⟩ 0 x.cells/\ej j ⟨b,0,none⟩ 0 x.cells/\∀ w',w'=cI j ⟨b,0,none⟩ 0 x.cells->cu.ex λy=>cn w' ⟨b,0,none⟩ 0 y.cells/\w'=w'/\R y.val w')
     else(cu.ex λx=>cn d ⟨b1,0,none⟩ 0 x.cells/\ej d ⟨b,0,none⟩ 0 x.cells/\∀ w',w'=cI d ⟨b,0,none⟩ 0 x.cells->cu.ex λy=>cn w' ⟨b,0,none⟩ 0 y.cells/\w'=w'/\R y.val w')))
    else(cu.ex λx=>cn c ⟨b1,0,none⟩ 0 x.cells/\ej c ⟨b,0,none⟩ 0 x.cells/\∀ w',w'=cI c ⟨b,0,none⟩ 0 x.cells->cu.ex λy=>cn w' ⟨b,0,none⟩ 0 y.cells/\w'=w'/\R y.val w'))))
theorem Gi {A:a4}{aw:bR}{w z:an}{aM b1 c:Nat}{B:a4}{F:bR}{X:bs}{r:fh}{t:bK conv}(h:gi A aw w aM (λk=>k=b1\/k=c) z B F X)(C:b1≠c)(d:av z b1 r.cells ho){cs:ax}(o:av z c cs ho)(p:cs.length=36)(E:hb (λk=>B k\/k=b1\/k=c) z r t) :
  (∃ u,z.cell? ⟨b1,24,none⟩=some u)/\z.frozen? ⟨b1,24,none⟩=false/\∀ n,n=z.setCell ⟨b1,24,none⟩ (.bool true)->(∃ u,n.cell? ⟨b1,25,none⟩=some u)/\n.frozen? ⟨b1,25,none⟩=false/\∀ l,l=n.setCell ⟨b1,25,none⟩ (.bool true)->
   cu.ex λx=>cn l ⟨b1,0,none⟩ 0 x.cells/\ej l ⟨c,0,none⟩ 0 x.cells/\∀ w',w'=cI l ⟨c,0,none⟩ 0 x.cells->cu.ex λy=>cn w' ⟨c,0,none⟩ 0 y.cells/\w'=w'/\sW A aw w aM (X.pure,t.fail) y.val w':=by
 refine⟨⟨_,d.cell rfl⟩,d.frozen,?_⟩;rintro n g;have s:ao (λk=>k=b1) z n:=by rw[g];exact e4 _ _ _ _
 have a:=d.setCell (i:=24) (.bool true);rw[<-g]at a;clear g;refine⟨⟨_,a.cell rfl⟩,a.frozen,?_⟩;rintro l j;have f:ao (λk=>k=b1) z l:=by rw[j];exact s.setCell (.inl rfl) _
 have b:=a.setCell (i:=25) (.bool true);rw[<-j]at b;clear j;have b:av l b1 ({r with m1:=true,sq:=true}:fh).cells ho:=b;refine sw b (f.aj o λe=>C e.symm) p λw' q=>?_
 exact xt (h.local f λ_ e=>.inl e) ((E.aA (f.mono λ_ _ e=>.inr (.inl e)) λ_ _ D=>D).fail) q
theorem GW {A:a4}{aw:bR}{w z:an}{aM b1 b:Nat}{B:a4}{ah:bR}{X:bs}{r:fh}{t:bK conv}(h:gi A aw w aM (λk=>k=b1\/k=b) z B ah X)(V:Good X.pure)(x:b1≠b)
  (c:av z b1 r.cells ho) {cs:ax} (p:av z b cs ho) (g:cs.length=36) (W:hb (λk=>B k\/k=b1\/k=b) z r t) :
  EC aM b1 b z (sW A aw w aM (gG X.pure t)):=by
 unfold EC gG;have af:=W.f9;refine⟨_,_,_,c.cell rfl,bb (λae=>?_) (λae=>?_)⟩
 ·rw[bh (by omega)];exact Gi h x c p g W
 ·rw[aQ (by omega)];refine cu.aV r ⟨bX c rfl,?_⟩;refine aB (Si W (λk L=>h.cw.low k L)) ?_;rintro v aO ⟨u,aa,ac,f,K,rfl,G,S,Y,i⟩;refine⟨_,_,_,cu.aV K ⟨rfl,?_⟩⟩;have Z:=c.lt;have ab:=p.lt;refine dY (vs:=K.cells) (ai.aj u c) rfl (cu.single K) λM a d=>?_
  have D:ao (λk=>k=b1) z M:=(ao.cm u).trans d λ_ _ e=>e
  have N:=(h.new u).local d λ_ e=>.inl e
  have H:=i.aA (A':=λk=>B k\/k=b1\/k=b) (d.mono λ_ _ e=>.inr (.inl e)) λ_ _ Q=>Q
  have n:av M b cs ho:=D.aj p λe=>x e.symm
  have o:bl M aa (dS f).flatten:=G.aA d (hv G λk L e=>by grind);refine⟨_,a.cell rfl,eF (λU=>?_) (λU=>?_)⟩
  ·have E:(conv.next t.bp t.a2).2.2=false:=by rw[<-U];exact i.en.symm
   rw[aQ (by grind)];refine⟨_,a.cell rfl,?_⟩;have F:((dS f).flatten=[])\/gU (λk=>B k\/k=b1\/k=b) aa:=hv o λk L e=>by have O:=S k L;have aH:=h.cw.low k e;omega
   have J:et (λk=>B k\/k=b1\/k=b) M f (conv.next t.bp t.a2).1:=Y.aA (d.mono λk _ e=>by grind) λk _ Q=>h.cw.low k Q
   have R:K.Client=t.aL:=i.aL;rw[R];refine aB (RA N.cw V.ok t.aL (lcap:=ac) o F J) ?_;rintro v ad ⟨rfl,ag⟩;obtain⟨B',aP,aG,O,C,_,T,P,y⟩:=N.op ag;have j:av ad b1 K.cells ho:=(y b1 (.inl rfl)).trans a;have l:av ad b cs ho:=(y b (.inr rfl)).trans n;have I:=H.aA (A':=λk=>B' k\/k=b1\/k=b) T P;refine⟨_,rfl,d8 (λq=>?_) (λq=>?_)⟩
   ·rw[bh q,<-C];exact Gi O x j l g I
   ·rw[aQ (λe=>e q)];refine sw j l g λw' s=>?_
    rw[<-C];exact xt O I s
  ·have E:(conv.next t.bp t.a2).2.2=true:=by rw[<-U];exact i.en.symm
   rw[bh E];refine sw a n g λw' s=>?_
   exact xt N H s
theorem GX {A:a4}{aw:bR}{w:an}{aM:Nat}{X:bs}(h:cj A aw w aM X)(N:Good X.pure){r:fh}{t:bK conv}(aO:hb A w r t)(aH:nW t) :
  a5 34 [ptr aM,r.val] w (sW A aw w aM (br X.pure t)):=by
 refine ba Tryz.func34 ?_;rw[ptr,Y0];rintro b1 w1 W Q u S Y R;obtain⟨F,M⟩:=bo W Q;obtain⟨p,D⟩:=bo Y R;have a:av S b1 r.cells ho:=ai.aj D F;have bj:=F.lt;have aR:=M.size;have bk:=p.lt;have aV:=D.size;clear Q R F;have y:=M.new D;have E:b1≠u:=by omega
 have I:gi A aw w aM (λk=>k=b1\/k=u) S A aw X:=gi.start h y λk bx=>by omega
 have O:hb (λk=>A k\/k=b1\/k=u) S r t:=aO.aA (ao.cm y) λk a8 bq=>by
  grind
 have c:∀ w',ao (λk=>k=u) S w'->sW A aw w aM (X.pure,t) r.val w':=λw' ae=>xt I O ae
 unfold br;have C:r.Client=t.aL:=aO.aL;refine⟨_,a.cell rfl,?_⟩;rw[aO.en];cases aG:t.en with
 |true=>refine hc rfl ?_;rw[bh (.inl rfl)];exact sw a p rfl c
 |false=>
  refine dG rfl ?_;refine⟨_,a.cell rfl,?_⟩;rw[C];refine aB (Fj I.cw _) ?_;rintro v bz ⟨rfl,rfl⟩;refine⟨_,rfl,eF (λaP=>?_) (λaP=>?_)⟩
  ·rw[bh (.inr (.inl aP))];exact sw a p rfl c
  refine⟨_,a.cell rfl,?_⟩;rw[C];refine aB (Na I.cw _) ?_;rintro v bA ⟨rfl,rfl⟩;refine⟨_,rfl,bb (λhw=>?_) (λhw=>?_)⟩
  ·rw[bh (.inr (.inr (by omega)))];exact sw a p rfl c
  rw[aQ (by grind)];refine⟨_,a.cell rfl,?_⟩;rw[C];refine aB (Ry I.cw _) ?_;rintro v aX a';obtain⟨B',bC,aZ,T,J,j,af,U,H⟩:=I.op a';have l:av aX b1 r.cells ho:=(H b1 (.inl rfl)).trans a;have x:=(H u (.inr rfl)).trans p;have s:=O.aA (A':=λk=>B' k\/k=b1\/k=u) af U;have B:Good aZ.pure:=by rw[J];exact N.take _
  have P:∀ ds,(X.pure.take t.aL).1=some ds->ds.length<=1024:=λds=>Oo N
  have hlen:=aH aG;rw[<-J];generalize (X.pure.take t.aL).1=bl at j P ⊢;cases bl with
  |none=>have j:v=.tuple #[.slice none 0 0,.bool false]:=j;subst j;refine⟨_,_,_,_,rfl,dG rfl ?_⟩;exact GW T B E l x rfl s
  |some ds=>
   obtain⟨b,raw,rfl,Z,L,ah⟩:=j;refine⟨_,_,_,_,rfl,hc rfl ?_⟩;refine⟨_,_,_,l.cell rfl,?_⟩;rw[s.f9];refine Oq s.a2 (by omega) Z L ah (P ds rfl) T.cw.low (by rw[L.1]) ?_;intro bm ap cap z a0 ad K q;have n:=ai.aj q l;refine⟨⟨_,n.cell rfl⟩,n.frozen,?_⟩;rintro G o;have f:ao (λk=>k=b1) z G:=by rw[o];exact e4 _ _ _ _
   have d:=n.setCell (i:=23) (.slice ap (t.a2.length+1) cap);rw[<-o]at d;clear o;have d:av G b1 ({r with An:=ap,sI:=t.a2.length+1,Ap:=cap}:fh).cells ho:=d;refine GW ((T.new q).local f λ_ e=>.inl e) B E d (f.aj (ai.aj q x) λe=>E e.symm) rfl ?_;have ag:ao (λk=>B' k\/k=b1\/k=u) aX G:=(ao.cm q).trans f λ_ _ e=>.inr (.inl e)
   have g:=s.aA (A':=λk=>B' k\/k=b1\/k=u) ag λ_ _ V=>V
   have ab:(t.a2++[ds]).length=t.a2.length+1:=by simp
   exact⟨g.kind,g.aL,g.en,g.bad,ad.aA (f.mono λ_ _ e=>.inr (.inl e)) λ_ _ V=>V,ab.symm,K,g.bp,g.out,by show(t.a2++[ds]).length<=201;omega⟩
end dI
namespace dI
structure jw (A:a4)(aw:bR)(w:an)(aM:Nat)(la:ak)(lc:Nat)(ds:List (ak×ax))(u:an)(B:a4)(wA:bR)(X:bs)(ts:List (fh×bK conv)):Prop where
 oC:gi A aw w aM (aP la) u B wA X
 own:aX u ho 36 la ts.length lc (jq ts).flatten
 nC:∀ x ∈ ts,hb (λk=>B k\/aP la k) u x.1 x.2/\nW x.2
 mm:∀ d ∈ ds,pR (λk=>B k\/aP la k) u d.1 d.2
 ev:cr X.pure
theorem jw.new {A:a4}{aw:bR}{w u bB:an}{aM:Nat}{la:ak}{lc:Nat}{ds:List (ak×ax)}{B:a4}{c:bR}{X:bs}{ts:List (fh×bK conv)}(h:jw A aw w aM la lc ds u B c X ts)(a:ai u bB):jw A aw w aM la lc ds bB B c X ts:=
 ⟨h.oC.new a,aX.new a h.own,λx b=>⟨(h.nC x b).1.aA (ao.cm a) λ_ _ e=>e,(h.nC x b).2⟩,λd dR=>(h.mm d dR).aA (ao.cm a) λ_ _ e=>e,h.ev⟩
theorem jw.op {A:a4}{aw:bR}{w u bB:an}{aM:Nat}{la:ak}{lc:Nat}{ds:List (ak×ax)}{B:a4}{o:bR}{X:bs}{ts:List (fh×bK conv)}(h:jw A aw w aM la lc ds u B o X ts){F:ay}{K:(a4)->Prop}(p:d_ (λk=>B k\/aP la k) o u aM F bB K)(s:cr F) :
  ∃ B' j c,jw A aw w aM la lc ds bB B' j c ts/\c.pure=F/\K (λk=>B' k\/aP la k):=by
 obtain⟨B',j,c,q,i,e,b,a,f⟩:=h.oC.op p;refine⟨B',j,c,⟨q,?_,λx n=>⟨(h.nC x n).1.aA b a,(h.nC x n).2⟩,λd dR=>(h.mm d dR).aA b a,by grind⟩,i,e⟩;refine⟨h.own.1,?_⟩;rcases h.own.2 with t | ⟨g,cur,l,r,rest⟩
 ·grind
 ·exact .inr ⟨g,cur,l,(f g ⟨0,l⟩).trans r,rest⟩
theorem jw.JC {A:a4}{aw:bR}{w u w1:an}{aM lb:Nat}{lc:Nat}{ds:List (ak×ax)}{B:a4}{s:bR}{X:bs}{ts:List (fh×bK conv)}(h:jw A aw w aM (some ⟨lb,0,none⟩) lc ds u B s X ts){i:Nat}{x:fh×bK conv}(r:ts[i]?=some x){v:bf}
  (t:sW (λk=>B k\/aP (some ⟨lb,0,none⟩) k) s u aM (br X.pure x.2) v w1) :
  ∃ B' n f a,v=a.val/\ej w1 ⟨lb,i*36,none⟩ 0 a.cells/\
   jw A aw w aM (some ⟨lb,0,none⟩) lc ds (cI w1 ⟨lb,i*36,none⟩ 0 a.cells) B' n f (ts.set i (a,(br X.pure x.2).2))/\f.pure=(br X.pure x.2).1:=by
 obtain⟨B',n,f,c,g,a,al,l⟩:=h.op t (h.ev.br _);have j:=(sh.1 r).1;obtain⟨hw,C⟩:=aX.V8 c.own (tL ts) (by simp[jq]) j (vs:=a.cells) rfl (cu.single a);have q:ao (λk=>k=lb) w1 (cI w1 ⟨lb,i*36,none⟩ 0 a.cells):=ir _ _ _ _ _;have p:∀ k,k=lb->aP (some ⟨lb,0,none⟩) k:=λk e=>⟨0,by rw[e]⟩
 have b:ao (λk=>B' k\/aP (some ⟨lb,0,none⟩) k) w1 (cI w1 ⟨lb,i*36,none⟩ 0 a.cells):=q.mono λk _ e=>.inr (p k e)
 refine⟨B',n,f,a,al,hw,⟨c.oC.local q p,?_,λy z=>?_,λd dR=>(c.mm d dR).aA b λ_ _ e=>e,c.ev⟩,g⟩
 ·rw[pN];have e:jq (ts.set i (a,(br X.pure x.2).2))=(jq ts).set i a.cells:=by simp[jq,mM]
  grind
 ·rcases nP z with o | rfl
  ·exact⟨(c.nC y o).1.aA b λ_ _ e=>e,(c.nC y o).2⟩
  ·exact⟨l.aA b λ_ _ e=>e,Mm (h.nC x (b9 r)).2⟩
theorem jw.la {A:a4}{aw:bR}{w u:an}{aM:Nat}{la:ak}{lc:Nat}{ds:List (ak×ax)}{B:a4}{a:bR}{X:bs}{ts:List (fh×bK conv)}(h:jw A aw w aM la lc ds u B a X ts)(c:0<ts.length):∃ lb,la=some ⟨lb,0,none⟩:=by
 rcases h.own.2 with⟨_,d,_⟩ | ⟨g,cur,b,_⟩
 ·omega
 grind
def D6 (A:a4)(aw:bR)(w:an)(aM:Nat)(r:ay×List (bK conv))(v:bf)(w':an):Prop:=
 d_ A aw w aM r.1 w' λB=>∃ la lc a,v=.slice la r.2.length lc/\a.map Prod.snd=r.2/\aX w' ho 36 la r.2.length lc (jq a).flatten/\(∀ k,aP la k->¬ B k)/\∀ x ∈ a,hb B w' x.1 x.2
theorem FU (ts:List (fh×bK conv))(i:Nat)(r:fh)(t:bK conv):(ts.set i (r,t)).map Prod.snd=(ts.map Prod.snd).set i t:=by simp_all
theorem FV {A:a4}{aw:bR}{w:an}{aM:Nat}{X:bs}(h:cj A aw w aM X)(ct:cr X.pure){ts:List (fh×bK conv)}{aW:ak}{pc:Nat}(bA:bl w aW (jq ts).flatten)(O:∀ x ∈ ts,hb A w x.1 x.2/\nW x.2)(cR:ts.length<=1000)
  {sch:a7} {sa:ak} {sc:Nat} (bz:pR A w sa (is sch)) (b5:∀ x ∈ sch,dU x) {most:Nat} (hm:most<=1000000) :
  a5 15 [ptr aM,.slice aW ts.length pc,.slice sa sch.length sc,.slice none 0 0,.int .i64 most] w (D6 A aw w aM (dP X.pure (ts.map Prod.snd) sch [] most)):=by
 refine ba Tryz.func15 ?_;rw[ptr,YE];obtain⟨inf,bM,aq,r,bj⟩:=fV (T:=ho) (z:=.agg #[(.int .i64 0),(.int .i64 0),(.int .i64 0),(.int .i64 0),(.int .i64 0),(.int .i64 0),(.int .i64 0),(.int .u64 0),(.int .i64 0),(.int .i64 0),(.int .i64 0),(.int .i64 0),(.slice none 0 0),(.slice none 0 0),(.slice none 0 0),(.int .i64 0),(.int .i64 0),(.int .i64 0),(.int .i64 0),(.slice none 0 0),(.int .i64 0),(.int .i64 0),(.int .u64 0),(.slice none 0 0),(.bool false),(.bool false),(.int .i64 0),(.int .i64 0),(.slice none 0 0),(.int .i64 0),(.slice none 0 0),(.int .u64 0),(.int .i64 0),(.int .i64 0),(.int .i64 0),(.int .i64 0)]) (n:=36) (m:=392) (by kernel_rfl);have br:aX w ho inf.size none 0 0 []:=aX.nil _ _ _;obtain⟨ap,dD,w1,J,f,bo,a8⟩:=aX.append (P:=prog) (t:=HA) (ty:=HA) Tryz.underlying46 bM aq (by rw[r];rfl) (by omega) br (s:=aW) (m:=ts.length) (c:=pc) (news:=(jq ts).flatten) (by rw[r,nh (tL ts)];simp[jq]) bA (LL ts) (by omega) (by grind);rw[iZ,qO,r]at f;rw[iZ]at J;have M:ai w w1:=bo.mono λk _ U=>by obtain⟨o,av⟩:=U;cases av
 have bm:∀ k,aP ap k->w.heap.size<=k:=λk p=>by
  rcases a8 with e | e
  ·rw[e]at p;obtain⟨o,av⟩:=p;cases av
  ·rw[e]at p;obtain⟨o,av⟩:=p;grind
 have G:∀ k,k<w.heap.size->A k\/aP ap k->A k:=λk q bP=>bP.elim id λU=>by grind
 have cb:gi A aw w aM (aP ap) w1 A aw X:=gi.start h M λk p=>⟨bm k p,f.lt p⟩
 have aO:jw A aw w aM ap dD [(sa,is sch)] w1 A aw X ts:=by refine⟨cb,f,λx K=>⟨(O x K).1.aA (ao.cm M) G,(O x K).2⟩,λd dR=>?_,ct⟩;simp at dR;subst dR;exact bz.aA (ao.cm M) G
 refine⟨ap,ts.length,dD,w1,J,?_⟩;clear J bo cb br aq bj r bM inf a8;obtain⟨inf,bM,aq,r,bj⟩:=fV (T:=m4) (z:=.int .i64 0) (n:=1) (m:=8) (by kernel_rfl);generalize cP:(ts.map Prod.snd).map bK.aL=cs;refine cZ mix (λm env u=>∃ (i:Nat) (y:ak) (cc:Nat) (aC:ax),m=ts.length-i/\i<=ts.length/\env=yl ⟨aM,0,none⟩ ap ts.length dD sa sch.length sc none 0 0 most y i cc i aC/\ai w1 u/\aX u m4 1 y i cc (is (cs.take i))/\(∀ k,aP y k->w1.heap.size<=k)) ts.length
  ⟨0,none,0,_,rfl,by omega,rfl,ao.refl _ _,aX.nil _ _ _,λk p=>by obtain⟨o,av⟩:=p;cases av⟩ ?_
 rintro m env u ⟨i,y,cc,aC,rfl,F,rfl,H,N,ad⟩;rw[V2];refine bb (λaG=>?_) (λaG=>?_)
 ·have q:i<ts.length:=by omega
  have L:ts[i]?=some ts[i]:=b2 q;obtain⟨b_,gy,b,bk,j⟩:=(aX.new H f).rd.row (tL ts) (by omega) (zR L);have cn:cs[i]?=some ts[i].2.aL:=by grind
  rw[b];refine dW (by omega) (by omega) ⟨ts[i].2.aL,by rw[<-(O _ (sj q)).1.aL];simpa using j 1 _ rfl,?_⟩;have bq:aX u m4 inf.size y i cc (is (cs.take i)):=by grind
  refine pv Tryz.underlying22 bM aq (by rw[r];rfl) (by omega) bq (vs:=[.int .i64 ts[i].2.aL]) (by grind) (by intro v al;simp at al;subst al;rfl) (by omega) (by omega) ?_;intro cT bO aH cl cG b3 bV a';rw[r]at b3;rw[bI (by omega) (by omega),<-b];refine⟨ts.length-(i+1),by omega,i+1,bO,aH,_,rfl,by omega,rfl,tB H bV ad,?_,?_⟩
  ·grind[is,List.take_add_one]
  ·intro k p;rcases a' k p with ca | ca
   ·grind
   ·have:=H.size;omega
 have ae:i=ts.length:=by omega
 subst ae;have cI:cs.length=ts.length:=by grind
 rw[r' (by omega)]at N;rw[W5];clear aG F;have aQ:jw A aw w aM ap dD [(y,is cs),(sa,is sch)] u A aw X ts:=by
  have dR:=aO.new H;refine⟨dR.oC,dR.own,dR.nC,λd ab=>?_,ct⟩;rcases f0.1 ab with rfl | ab
  ·refine⟨N.rd,hv N.rd λk p e=>?_⟩;have ca:=ad k p;rcases e with e | e
   ·have:=h.low k e;have:=M.size;omega
   ·have:=f.lt e;omega
  ·exact dR.mm d ab
 have C:dP X.pure (ts.map Prod.snd) sch [] most=turns (eG cs sch [] most 0 X.pure (ts.map Prod.snd)).1 (eG cs sch [] most 0 X.pure (ts.map Prod.snd)).2:=by grind[dP]
 rw[C];generalize R:eG cs sch [] most 0 X.pure (ts.map Prod.snd)=bH;have aZ:=R;clear C aO N ad H bA O bz;have cd:cs.length<=1000:=by omega
 have bX:∀ (z:an) (B:a4) (g:bR) (Y:bs) (ys:List (fh×bK conv)) (aC:ax),jw A aw w aM ap dD [(y,is cs),(sa,is sch)] z B g Y ys->ys.length=ts.length->(Y.pure,ys.map Prod.snd)=bH->
   W prog (sub (bu f15) [1,1,1,1,1]) (ym ⟨aM,0,none⟩ ap ts.length dD aC) (dE prog f15 (D6 A aw w aM (turns bH.1 bH.2))) z:=by
  intro z B g Y ys aC a ag a0;rw[rg];rw[<-a0];dsimp only;refine cZ mix (λm env z=>∃ (i:Nat) (B:a4) (g:bR) (Z:bs) (zs:List (fh×bK conv)) (aC:ax),m=ts.length-i/\i<=ts.length/\env=yn ⟨aM,0,none⟩ ap ts.length dD i aC/\jw A aw w aM ap dD [(y,is cs),(sa,is sch)] z B g Z zs/\zs.length=ts.length/\m5 Y.pure (ys.map Prod.snd) i Z.pure (zs.map Prod.snd)) ts.length
   ⟨0,B,g,Y,ys,_,rfl,by omega,rfl,a,ag,m5.start _ _⟩ ?_
  clear a a0;rintro m env z ⟨i,B,g,Z,zs,aC,rfl,F,rfl,a,bC,E⟩;rw[pp];refine bb (λaG=>?_) (λaG=>?_)
  ·have q:i<zs.length:=by omega
   have L:zs[i]?=some zs[i]:=b2 q;obtain⟨lb,af⟩:=a.la (by omega);rw[af]at a ⊢;obtain⟨b_,gy,b,bk,j⟩:=a.own.rd.row (tL zs) (by omega) (zR L);simp at b;obtain⟨rfl,rfl⟩:=b;have K:=a.nC _ (b9 L);refine dW (by omega) (by omega) ?_;refine cu.aV zs[i].1 ⟨by grind,?_⟩;refine aB (GX a.oC.cw a.ev.cg K.1 K.2) ?_;rintro v cz I;obtain⟨B',bD,bN,b8,rfl,hw,D,S⟩:=a.JC L I;refine cu.aV b8 ⟨rfl,?_⟩;refine dW (by omega) (by omega) ?_;have Q:0+Int.toNat (i:Int)*36=i*36:=by omega
   rw[Q];refine⟨hw,?_⟩;rintro cS ah;rw[bI (by omega) (by omega)];refine⟨ts.length-(i+1),by omega,i+1,B',bD,bN,_,_,rfl,by omega,rfl,by rw[ah];exact D,by grind,?_⟩;rw[FU,S];exact E.step (by grind)
  ·have ae:i=ts.length:=by omega
   rw[W7];have l:=E.done (by grind);rw[l];refine a.oC.done ⟨ap,dD,zs,by grind,rfl,by simpa using a.own,λk p U=>?_,λx K=>(a.nC x K).1.aA (ao.refl _ _) λ_ _ e=>.inl e⟩;obtain⟨hI,l2,lf⟩:=a.oC.loc k p;rcases(a.oC.next.iff k).1 U with bP | bP
   ·grind
   ·omega
 refine cZ mix (λm env z=>∃ (n:Nat) (B:a4) (g:bR) (Y:bs) (ys:List (fh×bK conv)) (aC:ax),m=most-n/\n<=most/\env=ii ⟨aM,0,none⟩ ap ts.length dD sa sch.length sc none 0 0 most y ts.length cc n aC/\jw A aw w aM ap dD [(y,is cs),(sa,is sch)] z B g Y ys/\ys.length=ts.length/\eG cs sch [] (most-n) n Y.pure (ys.map Prod.snd)=bH) most
  ⟨0,A,aw,X,ts,_,rfl,by omega,rfl,aQ,rfl,R⟩ ?_
 clear aQ R aZ;rintro m env z ⟨n,B,g,Y,ys,aC,rfl,cQ,rfl,a,ag,aR⟩;rw[pm];refine bb (λaG=>?_) (λaG=>?_)
 ·have b0:most-n=(most-(n+1))+1:=by omega
  rw[b0,eG]at aR;refine cZ mix (λm env z=>∃ (B:a4) (g:bR) (Z:bs) (aC:ax),m=0/\env=vy ⟨aM,0,none⟩ ap ts.length dD sa sch.length sc none 0 0 most y ts.length cc n (0:Nat) aC/\jw A aw w aM ap dD [(y,is cs),(sa,is sch)] z B g Z ys/\Z.pure=Y.pure) 0
   ⟨B,g,Y,_,rfl,rfl,a,rfl⟩ ?_
  clear a;rintro m env z ⟨B,g,Z,aC,rfl,rfl,a,cF⟩;rw[V5];refine bb (λbx=>cp bx (by omega)) (λbx=>?_)
  have bT:je Y.pure cs n []=Y.pure:=rfl;rw[bT]at aR;rw[W6];rw[<-cF]at aR;refine cZ mix (λm env z=>∃ (i:Nat) (B:a4) (g:bR) (V:bs) (zs:List (fh×bK conv)) (aC:ax),m=ts.length-i/\i<=ts.length/\env=yo ⟨aM,0,none⟩ ap ts.length dD sa sch.length sc none 0 0 most y ts.length cc n i aC/\jw A aw w aM ap dD [(y,is cs),(sa,is sch)] z B g V zs/\zs.length=ts.length/\m5 Z.pure (ys.map Prod.snd) i V.pure (zs.map Prod.snd)) ts.length
   ⟨0,B,g,Z,ys,_,rfl,by omega,rfl,a,ag,m5.start _ _⟩ ?_
  clear a bx;rintro m env z ⟨i,B,g,V,zs,aC,rfl,F,rfl,a,bC,E⟩;rw[V6];refine bb (λbx=>?_) (λbx=>?_)
  ·have q:i<zs.length:=by omega
   have L:zs[i]?=some zs[i]:=b2 q;obtain⟨lb,af⟩:=a.la (by omega);rw[af]at a ⊢;obtain⟨b_,gy,b,bk,j⟩:=a.own.rd.row (tL zs) (by omega) (zR L);simp at b;obtain⟨rfl,rfl⟩:=b;have K:=a.nC _ (b9 L);refine dW (by omega) (by omega) ?_;refine cu.aV zs[i].1 ⟨by grind,?_⟩;refine aB (GX a.oC.cw a.ev.cg K.1 K.2) ?_;rintro v cz I;obtain⟨B',bD,bN,b8,rfl,hw,D,S⟩:=a.JC L I;refine cu.aV b8 ⟨rfl,?_⟩;refine dW (by omega) (by omega) ?_;have Q:0+Int.toNat (i:Int)*36=i*36:=by omega
   rw[Q];refine⟨hw,?_⟩;rintro cS ah;rw[bI (by omega) (by omega)];refine⟨ts.length-(i+1),by omega,i+1,B',bD,bN,_,_,rfl,by omega,rfl,by rw[ah];exact D,by grind,?_⟩;rw[FU,S];exact E.step (by grind)
  ·have ae:i=ts.length:=by omega
   have l:=E.done (by grind);rw[l]at aR;rw[ro];have b7:=(a.mm (sa,is sch) (by simp)).1;refine aB (Qr a.oC.cw a.ev b7 b5 n) ?_;rintro v cz ⟨rfl,I⟩;obtain⟨B',bD,cA,D,cB,_⟩:=a.op I (a.ev.e6 _ _);refine⟨_,rfl,eF (λU=>?_) (λU=>?_)⟩
   ·grind
   ·rw[bh U]at aR;rw[bI (by omega) (by omega)];exact⟨most-(n+1),by omega,n+1,B',bD,cA,zs,_,rfl,by omega,rfl,D,bC,by grind⟩
 ·have cy:most-n=0:=by omega
  grind[eG]
theorem wS {l:List (fh×bK conv)}{t:bK conv}(h:l.map Prod.snd=[t]):∃ r,l=[(r,t)]:=by
 simp_all
theorem N6 (F:ay)(r:fh)(t:bK conv):dP F ([(r,t)].map Prod.snd) [] [] 20000=mI F t:=rfl
section
attribute [local irreducible] dP mI
theorem FW {A:a4}{aw:bR}{w:an}{aM:Nat}{X:bs}(h:cj A aw w aM X)(aO:cr X.pure){r:fh}{t:bK conv}(ab:hb A w r t)(Y:nW t) :
  a5 26 [ptr aM,r.val] w λv w'=>d_ A aw w aM (mI X.pure t).1 w' λB=>∃ n b,(mI X.pure t).2=[n]/\v=b.val/\hb B w' b n:=by
 refine ba Tryz.func26 ?_;rw[ptr,YF];rintro b1 w1 O z I a' P C;obtain⟨F,s⟩:=bo O z;obtain⟨H,u⟩:=bo P C;have G:av a' b1 r.cells ho:=ai.aj u F;have af:=s.size;have aZ:=H.lt;clear z C F;refine cu.aV r ⟨bX G rfl,?_⟩;rintro ad J Q D;obtain⟨l,j⟩:=bo Q D;have l:av J ad r.cells ho:=l;clear D;have d:=(s.new u).new j;have a0:=j.size;have ae:gi A aw w aM (λk=>k=I) J A aw X:=gi.start h d λk bk=>by omega
 have f:∀ k,k<w.heap.size->A k\/k=I->A k:=λk aQ aG=>aG.elim id λe=>by omega
 have T:pR (λk=>A k\/k=I) J none ([]:ax):=⟨.inl rfl,.inl rfl⟩;have W:bl J (some ⟨ad,0,none⟩) (jq [(r,t)]).flatten:=fj l (by simp[jq,cu.cells]);have U:=FV ae.cw aO (ts:=[(r,t)]) (pc:=1) W (λx E=>by simp at E;rw[E];exact⟨ab.aA (ao.cm d) f,Y⟩) (by simp) (sch:=[]) (sa:=none) (sc:=0) T (λx ab=>by cases ab) (most:=20000) (by omega);refine aB U ?_;rintro v bm aX;obtain⟨B',br,bb,ag,o,K,aP,ah,L⟩:=ae.op aX;obtain⟨la,lc,a8,rfl,a,c,aR,y⟩:=K;have N:=N6 X.pure r t;rw[N]at o a c ⊢;obtain⟨n,Z⟩:=NB X.pure t;rw[Z]at a c ⊢;obtain⟨b,rfl⟩:=wS a;refine⟨_,_,_,rfl,?_⟩;obtain⟨bh,gy,M,aH,S⟩:=c.rd.row (tL [(b,n)]) (by omega) (i:=0) rfl;have V:gy=0:=by
  rcases c.2 with⟨he,_⟩ | ⟨g,cur,bj,_⟩
  ·grind
  grind
 subst V;rw[M];refine dW (by omega) (by simp) ?_;have p:=(L I rfl).trans (ai.aj j H);refine cu.aV b ⟨by grind,?_⟩;refine dY (vs:=b.cells) p rfl (cu.single b) λbq R q=>?_
 refine cu.aV b ⟨bX R rfl,rfl,?_⟩;rw[<-o];refine(ag.local q λ_ e=>e).done ⟨n,b,rfl,rfl,?_⟩;exact(y (b,n) (by simp)).aA (q.mono λ_ _ e=>.inr e) λk _ e=>.inl e
end
end dI
section
open IntKind
variable (w:an)(R:cM){i k l:Int}{s:ak}{a b c:Nat}{A B C:aU}{j:ar}
theorem Y2:bd prog f13 [ab i,ab k,ab l,ad s a b] R w=(I_ 23 #[ab i,ab 4,ab 101] w λc d P=>cond (!d) (R (.tuple #[.pointer none,ae false,ae false]) P) (dm 19 #[ab k] P λf g h av=>Calls prog 24 #[.pointer c,ab i,ab 0,ab 1,ad f g h] av λe aO=>cu.ex λT=>∃ (j:Bool),e=.returned (.tuple #[T.val,ae j])/\aR aO #[ab 0,ab 0,ab 0,ab 0,ab 0,ab 0,ab 0,ah 0,ab 0,ab 0,ab 0,ab 0,a0,a0,a0,ab 0,ab 0,ab 0,ab 0,a0,ab 0,ab 0,ah 0,a0,ae false,ae false,ab 0,ab 0,a0,ab 0,a0,ah 0,ab 0,ab 0,ab 0,ab 0] 45 λD aB=>a8 aB (af D 0) 0 T.cells λN=>cond (!j) (R (.tuple #[.pointer none,ae false,ae false]) N) (cF N λI B=>tx B (af D 0) λr=>(aR I r.cells.toArray 45 λW L=>B L/\cG 12 #[ab l,ab 70] L λE Q=>B Q/\dm 15 #[.pointer c,ad (bk W) 1 1,ad s a b,a0,ab E] Q λu m n K=>bx u m 0 36 λJ=>e0 K J λaQ=>a8 K (af D 0) 0 aQ.cells λag=>cF ag λZ G=>eD G (af D 23) λo p q=>dx 22 #[.pointer c,ab 0] Z λA F=>G F/\cond A (BZ G (af D 25) λt=>R (.tuple #[.pointer c,ae ((p:Int)>=3),ae (!t)]) F) (R (.tuple #[.pointer c,ae ((p:Int)>=3),ae false]) F))/\cG 12 #[ab l,ab 70] I λv S=>B S/\aR S r.cells.toArray 45 λY C=>dm 15 #[.pointer c,ad (bk Y) 1 1,ad s a b,a0,ab v] C λx y z M=>bx x y 0 36 λaP=>e0 M aP λV=>a8 M (af D 0) 0 V.cells λX=>cF X λU a6=>eD a6 (af D 23) λg7 O ao=>dx 22 #[.pointer c,ab 0] U λaG H=>a6 H/\cond aG (BZ a6 (af D 25) λaH=>R (.tuple #[.pointer c,ae ((O:Int)>=3),ae (!aH)]) H) (R (.tuple #[.pointer c,ae ((O:Int)>=3),ae false]) H)))):=by kernel_rfl
theorem YH  : bd prog f14 [] R w=(I_ 23 #[ab 1,ab 2,ab 101] w λa b w1=>cond (!b) (R (ae false) w1) (aR w1 #[ab 96] 3 λb1 H=>Calls prog 24 #[.pointer a,ab 1,ab 0,ab 1,ad (bk b1) 1 1] H λe I=>cu.ex λs=>∃ (c:Bool),e=.returned (.tuple #[s.val,ae c])/\aR I #[ab 0,ab 0,ab 0,ab 0,ab 0,ab 0,ab 0,ah 0,ab 0,ab 0,ab 0,ab 0,a0,a0,a0,ab 0,ab 0,ab 0,ab 0,a0,ab 0,ab 0,ah 0,a0,ae false,ae false,ab 0,ab 0,a0,ab 0,a0,ah 0,ab 0,ab 0,ab 0,ab 0] 45 λu J=>a8 J (af u 0) 0 s.cells λA=>cond (!c) (R (ae false) A) (e0 A (af u 0) λr=>aR A r.cells.toArray 45 λG K=>dm 15 #[.pointer a,ad (bk G) 1 1,a0,a0,ab 3] K λd f g L=>Calls prog 30 #[.pointer a,ab 0,ab 96] L λe M=>aN.ex λt=>∃ (h:Bool),e=.returned (.tuple #[t.val,ae h])/\aR M #[ab 0,ah 0,ah 0,ah 0,ah 0,ah 0,ah 0,ah 0,ah 0] 73 λC N=>a8 N (af C 0) 0 t.cells λv=>cond (!h) (R (ae false) v) (d' v (af C 1) λi=>cond (i != 257) (R (ae false) v) (dx 22 #[.pointer a,ab 0] v λk x=>cond (!k) (R (ae false) x) (qu 16 #[ab 1,ab 1,ah 0] x λz y=>qu 26 #[.pointer a,z.val] y λE aa=>a8 aa (af u 0) 0 E.cells λac=>Calls prog 30 #[.pointer a,ab 0,ab 96] ac λe bF=>aN.ex λB=>∃ (l:Bool),e=.returned (.tuple #[B.val,ae l])/\aR bF #[ab 0,ah 0,ah 0,ah 0,ah 0,ah 0,ah 0,ah 0,ah 0] 73 λD F=>a8 F (af D 0) 0 B.cells λj=>j5 j (af u 24) λm=>cond m (b0 j (af u 26) λn=>cond (n == 0) (b0 j (af u 33) λo=>cond (o == 3) (b0 j (af u 35) λp=>cond (p == 2) (cond l (d' j (af D 1) λq=>R (ae ((q:Int) == 256)) j) (R (ae false) j)) (R (ae false) j)) (R (ae false) j)) (R (ae false) j)) (R (ae false) j))))))):=by kernel_rfl
theorem Y3:bd prog f16 [ab i,ab k,ah l] R w=(aR w #[ab 0,ab 0,ab 0,ab 0,ab 0,ab 0,ab 0,ah 0,ab 0,ab 0,ab 0,ab 0,a0,a0,a0,ab 0,ab 0,ab 0,ab 0,a0,ab 0,ab 0,ah 0,a0,ae false,ae false,ab 0,ab 0,a0,ab 0,a0,ah 0,ab 0,ab 0,ab 0,ab 0] 45 λd f=>I' 28 #[ab i] f λa e=>a8 e (af d 0) 0 [ab 4,ab k,ab 0,ab 0,ab 0,ab 0,ab 0,ah 0,ab 0,ab 0,ab 0,ab 0,a0,a0,a0,ab k,ab 1,ab 101,ab a.Number,ad a.f7 a.fq a.gB,ab 0,ab 2,ah l,a0,ae false,ae false,ab 0,ab 0,a0,ab 0,a0,ah 0,ab 0,ab 0,ab 0,ab 0] λc=>e0 c (af d 0) λb=>c=c/\R b.val c):=by kernel_rfl
def vz (c:aU)(s1:ak)(a b:Nat)(d:Int)(j:ar):ar:=.pointer (some c)::ad s1 a b::ag j 0 3 (ab d::ag j 3 32 [])
def IB  (j:ar):ar:=ag j 0 38 []
theorem YI:bd prog f17 [a' a,ad s b c] R w=(cz prog (cU f17 [1,0,1,0,0]) (vz (af a 0) s b c 0 (bm 2 (ae false::bm 32 []))) (aO 0 (aT f17 [1,1] R)) w):=by kernel_rfl
theorem V7 (q:ar->aJ):W prog (sb f17 [1,0,1,0,0]) (vz A s a b i j) (aZ q (aO 0 (aT f17 [1,1] R))) w=(dm 36 #[.pointer (some A)] w λc d f v=>cond ((d:Int)>0) (dm 36 #[.pointer (some A)] v λg h e p=>cond (i<(a:Nat)) (bx s a i 1 λu=>b0 p u λx=>cG 12 #[ab x,ab (h:Nat)] p λk t=>cond (i>5000) (R (ae false) t) (bx g h k 3 λn=>Ja t n λr=>dx 37 #[.pointer (some A),r.val] t λl y=>cond (!l) (R (ae false) y) (q (vz A s a b (i64.wrap (i+1)) [aH j 0,aH j 1,aH j 2,ad g h e,ab k,jp A,ad c d f,dA d,ae ((d:Int)>0),ab i,ab (i64.wrap (i+1)),jp A,ad g h e,ab i,ad s a b,dA a,ae (i<(a:Nat)),ad s a b,ab i,jp u,ab x,ad g h e,dA h,ab k,ab i,ae (i>5000),ae false,jp A,ad g h e,ab k,jp n,r.val,ae l,ae (!l),ae (!l)]) y))) (cond (i>5000) (R (ae false) p) (bx g h 0 3 λo=>Ja p o λB=>dx 37 #[.pointer (some A),B.val] p λm z=>cond (!m) (R (ae false) z) (q (vz A s a b (i64.wrap (i+1)) (aH j 0::aH j 1::aH j 2::ad g h e::ab 0::jp A::ad c d f::dA d::ae ((d:Int)>0)::ab i::ab (i64.wrap (i+1))::jp A::ad g h e::ab i::ad s a b::dA a::ae (i<(a:Nat))::ag j 17 7 [ab i,ae (i>5000),ae false,jp A,ad g h e,ab 0,jp o,B.val,ae m,ae (!m),ae (!m)])) z)))) (W prog (sb f17 [1,1]) (IB  (jp A::ad s a b::aH j 0::aH j 1::aH j 2::ab i::aH j 3::aH j 4::jp A::ad c d f::dA d::ae ((d:Int)>0)::ag j 9 26 [])) (bT f17 R) v)):=by kernel_rfl
theorem rt:W prog (sb f17 [1,1]) (IB  j) (bT f17 R) w=(R (ae true) w):=by kernel_rfl
def vw (c:Int)(d:ak)(a b:Nat)(e:Int)(j:ar):ar:=ab c::ag j 0 2 (ad d a b::ab e::ag j 2 18 [])
def mt (c:ak)(a b:Nat)(j:ar):ar:=ag j 0 3 (ad c a b::ag j 3 19 [])
theorem Yn:bd prog f19 [ab i] R w=(cz prog (cU f19 [1,1,0,1,0,0]) (vw i none 0 0 0 (undef::a0::bm 18 [])) (aO 0 (aT f19 [1,1,1] R)) w):=by kernel_rfl
theorem Vo (g:ar->aJ):W prog (sb f19 [1,1,0,1,0,0]) (vw i s a b k j) (aZ g (aO 0 (aT f19 [1,1,1] R))) w=(cond (k<4) (cG 12 #[ab i,ab 14] w λc l=>0<=(u64.wrap k)/\cond (((hE .i64 (c3 .i64 (i64.wrap (c+1)) (u64.wrap k)) 1):Int) == 1) (aR l #[ab (i64.wrap (96+k))] 3 λh n=>de 22 (ad s a b) (ad (bk h) 1 1) n λe d f m=>g (vw i e d f (i64.wrap (k+1)) [aH j 0,aH j 1,ab k,ae (k<4),ab k,ab (i64.wrap (k+1)),ab i,ab c,ab (i64.wrap (c+1)),ab k,ah (u64.wrap k),ab (c3 .i64 (i64.wrap (c+1)) (u64.wrap k)),ab (hE .i64 (c3 .i64 (i64.wrap (c+1)) (u64.wrap k)) 1),ae (((hE .i64 (c3 .i64 (i64.wrap (c+1)) (u64.wrap k)) 1):Int) == 1),ad s a b,ab k,ab (i64.wrap (96+k)),ad (bk h) 1 1,ad e d f,aH j 19]) m) (g (vw i s a b (i64.wrap (k+1)) (aH j 0::aH j 1::ab k::ae (k<4)::ab k::ab (i64.wrap (k+1))::ab i::ab c::ab (i64.wrap (c+1))::ab k::ah (u64.wrap k)::ab (c3 .i64 (i64.wrap (c+1)) (u64.wrap k))::ab (hE .i64 (c3 .i64 (i64.wrap (c+1)) (u64.wrap k)) 1)::ae (((hE .i64 (c3 .i64 (i64.wrap (c+1)) (u64.wrap k)) 1):Int) == 1)::ag j 14 6 [])) l)) (W prog (sb f19 [1,1,1]) (mt s a b (ab i::aH j 0::aH j 1::ab k::ab k::ae (k<4)::ag j 4 16 [])) (bT f19 R) w)):=by kernel_rfl
theorem Wg:W prog (sb f19 [1,1,1]) (mt s a b j) (bT f19 R) w=(R (ad s a b) w):=by kernel_rfl
def ye (e:aU)(s2:Int)(g:ak)(a b:Nat)(c d:aU)(f:Int)(j:ar):ar:=.pointer (some e)::ag j 0 1 (ab s2::ag j 1 1 (ad g a b::ag j 2 5 (.pointer (some c)::ag j 7 1 (.pointer (some d)::ab f::ag j 8 44 []))))
def Iv (s2:Int)(a b:aU)(j:ar):ar:=ag j 0 2 (ab s2::ag j 2 7 (.pointer (some a)::ag j 9 1 (.pointer (some b)::ag j 10 45 [])))
theorem X4:bd prog f24 [a' a,ab i,ab k,ab l,ad s b c] R w=(aR w #[ab 0,ab 0,ab 0,ab 0,ab 0,ab 0,ab 0,ah 0,ab 0,ab 0,ab 0,ab 0,a0,a0,a0,ab 0,ab 0,ab 0,ab 0,a0,ab 0,ab 0,ah 0,a0,ae false,ae false,ab 0,ab 0,a0,ab 0,a0,ah 0,ab 0,ab 0,ab 0,ab 0] 45 λh j=>I' 28 #[ab i] j λd f=>aR f #[ab 0,ab 0,ab 0,ab 0,a0,a0,a0] 39 λe m=>a8 m (af e 0) 0 [ab k,ab l,ab 101,ab d.Number,ad d.f7 d.fq d.gB,a0,a0] λg=>cz prog (cU f24 [1,1,0,1,0,0]) (ye (af a 0) k s b c (af h 0) (af e 0) 0 (ab i::ab l::bm 5 (ae false::bm 2 (ab k::ab l::ab i::d.val::.agg #[ab k,ab l,ab 101,ab d.Number,ad d.f7 d.fq d.gB,a0,a0]::bm 37 [])))) (aO 0 (aT f24 [1,1,1] R)) g):=by kernel_rfl
theorem UZ (F:ar->aJ):W prog (sb f24 [1,1,0,1,0,0]) (ye A i s a b B C k j) (aZ F (aO 0 (aT f24 [1,1,1] R))) w=(cond (k<(a:Nat)) (bx s a k 1 λE=>b0 w E λx=>Calls prog 30 #[.pointer (some A),ab 0,ab x] w λe L=>aN.ex λo=>∃ (g:Bool),e=.returned (.tuple #[o.val,ae g])/\aR L #[ab 0,ah 0,ah 0,ah 0,ah 0,ah 0,ah 0,ah 0,ah 0] 73 λf I=>a8 I (af f 0) 0 o.cells λz=>cond (!g) (a8 z B 0 [ab 0,ab 0,ab 0,ab 0,ab 0,ab 0,ab 0,ah 0,ab 0,ab 0,ab 0,ab 0,a0,a0,a0,ab 0,ab 0,ab 0,ab 0,a0,ab 0,ab 0,ah 0,a0,ae false,ae false,ab 0,ab 0,a0,ab 0,a0,ah 0,ab 0,ab 0,ab 0,ab 0] λu=>e0 u B λp=>u=u/\R (.tuple #[p.val,ae false]) u) (d' z (af f 1) λh=>cV z (af f 1) (ah (uX .u64 h 255)) λH=>qd (af f 2) 7 0 1 λq=>d' H q λD=>qd (af f 2) 7 0 1 λd=>cV H d (ah (u64.wrap (D+1))) λv=>b_ v (b5 C 6) λc y l=>iC v (af f 0) λr=>aR v r.cells.toArray 73 λG K=>de 37 (ad c y l) (ad (bk G) 1 1) K λt m n M=>cV M (b5 C 6) (ad t m n) λa6=>F (ye A i s a b B C (i64.wrap (k+1)) (ag j 0 8 (jp (af f 0)::ae g::ag j 10 5 [ab k,ad s a b,dA a,ae (k<(a:Nat)),ab k,ab (i64.wrap (k+1)),.tuple #[o.val,ae g],jp A,ad s a b,ab k,jp E,ab x,.tuple #[o.val,ae g],o.val,ae g,ae g,ae (!g),aH j 32,jp (af f 1),ah h,ah (uX .u64 h 255),jp (af f 1),jp (af f 2),jp q,ah D,ah (u64.wrap (D+1)),jp (af f 2),jp d,bM C 6,ad c y l,r.val,ad (bk G) 1 1,ad t m n,bM C 6,aH j 49,aH j 50,aH j 51]))) a6)) (W prog (sb f24 [1,1,1]) (Iv i B C (jp A::aH j 0::aH j 1::ad s a b::ag j 2 6 (ab k::ag j 8 7 (ab k::ad s a b::dA a::ae (k<(a:Nat))::ag j 19 33 [])))) (bT f24 R) w)):=by kernel_rfl
theorem Ws:W prog (sb f24 [1,1,1]) (Iv i A B j) (bT f24 R) w=(BW w B λr=>a8 w A 0 [ab 3,ab i,ab 0,ab 0,ab 0,ab 0,ab 0,ah 0,ab r.Client,ab r.Seq,ab r.hP,ab r.View.Number,ad r.View.f7 r.View.fq r.View.gB,ad r.Reads r.lJ r.p1,ad r.eN r.dZ r.hR,ab 0,ab 0,ab 0,ab 0,a0,ab 0,ab 0,ah 0,a0,ae false,ae false,ab 0,ab 0,a0,ab 0,a0,ah 0,ab 0,ab 0,ab 0,ab 0] λa=>e0 a A λc=>a=a/\R (.tuple #[c.val,ae true]) a):=by kernel_rfl
end
end Go.Proofs.YtmkljjbioomepaaGreat
