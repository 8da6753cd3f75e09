import Derived.Test.YtmkljjbioomepaaGreatProg
import Derived.Test.YtmkljjbioomepaaGreata03
import Derived.Test.YtmkljjbioomepaaGreata02
import Derived.Test.YtmkljjbioomepaaGreata14
set_option linter.all false
set_option maxHeartbeats 4000000
set_option maxRecDepth 100000
namespace Go.Proofs.YtmkljjbioomepaaGreat
open Go.Proofs.Tryz Go.b8
variable {A M:bB} {G:List (List a_)} {X:cF} {b a3 i n tb:Nat} {d:cL} {ds:List a_} {l ws:bR} {dD:List a0} {u w w' w0:av} {v:a0} {vs:List bn} {x:Int} {aG:Nat->Tag}
section
open IntKind
variable (w:av) (R:dW) {s t:ax} {a b c d:Nat} {i k l m:Int} {A:bh} {j:aB}
theorem ahl:bS prog f84 [ad s a b] R w=(p5 113 #[ah 0,ad s a b] w λc d=>R (ah c) d):=by kernel_rfl
theorem ag':bS prog f113 [ah i,ad s a b] R w=(axw 147 #[] w λd j=>bb j ((List.replicate 256 (ah 0)).toArray) 239 λe f=>bJ f (ae e 0) 0 d.cells λg=>p5 148 #[ah (nH .u64 18446744073709551615 i),bM e,ad s a b] g λc h=>R (ah (nH .u64 18446744073709551615 c)) h):=by kernel_rfl
def P1 (cJ:bh) (dm:Int) (j:aB):aB:=.pointer (some cJ)::ag j 0 2 (I dm::ag j 2 20 [])
def afT (a:bh) (j:aB):aB:=.pointer (some a)::ag j 0 23 []
def Lc (cJ:bh) (s1 s2 dm s8:Int) (j:aB):aB:=.pointer (some cJ)::I s1::ah s2::I dm::ag j 0 4 (I s8::ag j 4 15 [])
def ul (a:bh) (s1 s2 dm:Int) (j:aB):aB:=.pointer (some a)::I s1::ah s2::I dm::ag j 0 20 []
theorem ahm  : bS prog f147 [] R w=(bb w ((List.replicate 256 (ah 0)).toArray) 239 λb1 w1=>dT prog (e0 f147 [1,0,1,0,0]) (P1 (ae b1 0) 0 (bQ 22 [])) (a8 0 (ba f147 [1,1] R)) w1):=by kernel_rfl
theorem ayM (b:aB->aV):W prog (sb f147 [1,0,1,0,0]) (P1 A i j) (bk b (a8 0 (ba f147 [1,1] R))) w=(cond (i<256) (dT prog (e0 f147 [1,0,1,0,0,1,1,0,0,1,1,0,1,0,0]) (Lc A i (u64.wrap i) i 0 (U (i<256)::I i::I i::ah (u64.wrap i)::ag j 7 15 [])) (a8 2 (bk (λa w=>W prog (sb f147 [1,0,1,0,0,1,1,0,0,1,1,1]) a (a8 1 (bk (λa w=>W prog (sb f147 [1,0,1,0,0,1,1,1]) a (bk b (a8 0 (ba f147 [1,1] R))) w) (bk b (a8 0 (ba f147 [1,1] R))))) w) (a8 1 (bk (λa w=>W prog (sb f147 [1,0,1,0,0,1,1,1]) a (bk b (a8 0 (ba f147 [1,1] R))) w) (bk b (a8 0 (ba f147 [1,1] R))))))) w) (W prog (sb f147 [1,1]) (afT A (aW j 0::aW j 1::I i::U (i<256)::ag j 3 19 [])) (c3 f147 R) w)):=by kernel_rfl
theorem azu:W prog (sb f147 [1,1]) (afT A j) (c3 f147 R) w=(afa w A λr=>bJ w A 0 r.cells λa=>afa a A λb=>a=a/\R b.val a):=by kernel_rfl
theorem ayN (b:aB->aV) (c:aB->aV):W prog (sb f147 [1,0,1,0,0,1,1,0,0,1,1,0,1,0,0]) (Lc A i k l m j) (bk c (a8 2 (bk (λa w=>W prog (sb f147 [1,0,1,0,0,1,1,0,0,1,1,1]) a (a8 1 (bk (λa w=>W prog (sb f147 [1,0,1,0,0,1,1,1]) a (bk b (a8 0 (ba f147 [1,1] R))) w) (bk b (a8 0 (ba f147 [1,1] R))))) w) (a8 1 (bk (λa w=>W prog (sb f147 [1,0,1,0,0,1,1,1]) a (bk b (a8 0 (ba f147 [1,1] R))) w) (bk b (a8 0 (ba f147 [1,1] R)))))))) w=(cond (m<8) (cond (((jC .u64 k 1):Int) == 1) (c (Lc A i (nH .u64 (fr .u64 k 1) 14514072000185962306) l (i64.wrap (m+1)) (ag j 0 4 (U (m<8)::ah k::ah (jC .u64 k 1)::U (((jC .u64 k 1):Int) == 1)::ah k::ah (fr .u64 k 1)::ah (nH .u64 (fr .u64 k 1) 14514072000185962306)::aW j 11::aW j 12::I (i64.wrap (m+1))::ag j 14 5 []))) w) (c (Lc A i (fr .u64 k 1) l (i64.wrap (m+1)) (ag j 0 4 (U (m<8)::ah k::ah (jC .u64 k 1)::U (((jC .u64 k 1):Int) == 1)::aW j 8::aW j 9::aW j 10::ah k::ah (fr .u64 k 1)::I (i64.wrap (m+1))::ag j 14 5 []))) w)) (W prog (sb f147 [1,0,1,0,0,1,1,0,0,1,1,1]) (ul A i k l (ag j 0 4 (I m::U (m<8)::ag j 5 14 []))) (a8 1 (bk (λa w=>W prog (sb f147 [1,0,1,0,0,1,1,1]) a (bk b (a8 0 (ba f147 [1,1] R))) w) (bk b (a8 0 (ba f147 [1,1] R))))) w)):=by kernel_rfl
theorem azv (a:aB->aV):W prog (sb f147 [1,0,1,0,0,1,1,0,0,1,1,1]) (ul A i k l j) (a8 1 (bk (λc w=>W prog (sb f147 [1,0,1,0,0,1,1,1]) c (bk a (a8 0 (ba f147 [1,1] R))) w) (bk a (a8 0 (ba f147 [1,1] R))))) w=(tE A 256 i 1 λb=>ev w b (ah k) λd=>a (P1 A (i64.wrap (l+1)) (I i::ah k::ag j 0 15 [I i,ah k,jp b,I (i64.wrap (l+1)),aW j 19])) d):=by kernel_rfl
def pm (cJ:Int) (s1:bh) (rz:ax) (a b:Nat) (c d:Int) (j:aB):aB:=ah cJ::.pointer (some s1)::ag j 0 7 (ad rz a b::I c::I d::ag j 7 16 [])
def ags (cJ:Int) (j:aB):aB:=ah cJ::ag j 0 27 []
theorem ah8:bS prog f148 [ah i,bM a,ad s b c] R w=(dT prog (e0 f148 [1,0,1,0,0]) (pm i (ae a 0) s b c (b:Nat) 0 (ad s b c::bQ 3 (ah 0::bQ 18 []))) (a8 0 (ba f148 [1,1] R)) w):=by kernel_rfl
theorem azb (d:aB->aV):W prog (sb f148 [1,0,1,0,0]) (pm i A s a b k l j) (bk d (a8 0 (ba f148 [1,1] R))) w=(cond (l<k) (cb s a l 1 λe=>axx w e λx=>tE A 256 (nH .u8 (IntKind.u8.wrap i) x) 1 λf=>fR w f λc=>d (pm (nH .u64 (fr .u64 i 8) c) A s a b k (i64.wrap (l+1)) (ag j 0 6 [.int .u8 x,U (l<k),jp e,.int .u8 x,ah i,ah (fr .u64 i 8),jp A,ah i,.int .u8 (IntKind.u8.wrap i),.int .u8 x,.int .u8 (nH .u8 (IntKind.u8.wrap i) x),jp A,jp f,ah c,ah (nH .u64 (fr .u64 i 8) c),I (i64.wrap (l+1)),aW j 22])) w) (W prog (sb f148 [1,1]) (ags i (jp A::ag j 0 7 (ad s a b::I k::I l::U (l<k)::ag j 8 15 []))) (c3 f148 R) w)):=by kernel_rfl
theorem aCu:W prog (sb f148 [1,1]) (ags i j) (c3 f148 R) w=(R (ah i) w):=by kernel_rfl
def P2 (dm:ax) (a b:Nat) (c:ax) (d f:Nat) (g h:Int) (j:aB):aB:=ag j 0 3 (ad dm a b::ag j 3 6 (ad c d f::I g::I h::ag j 9 16 []))
def afU (dm:ax) (a b:Nat) (j:aB):aB:=ag j 0 3 (ad dm a b::ag j 3 25 [])
def P3 (dm:ax) (a b:Nat) (eV:Int) (c:ax) (d f:Nat) (g h i:Int) (j:aB):aB:=ag j 0 3 (ad dm a b::ag j 3 1 (ah eV::ag j 4 4 (ad c d f::I g::I h::ag j 8 3 (I i::ag j 11 12 []))))
def afV (dm:ax) (a b:Nat) (c:ax) (d f:Nat) (g h:Int) (j:aB):aB:=ag j 0 3 (ad dm a b::ag j 3 6 (ad c d f::I g::I h::ag j 9 16 []))
theorem ahn:bS prog f239 [ad s a b] R w=(EI 0 (i64.wrap (8 * (a:Nat))) 1 (.cells (p8 (Int.toNat (i64.wrap (8 * (a:Nat)))) [.int .u8 0]).toArray 5) w λc d=>dT prog (e0 f239 [1,1,0,1,0,0]) (P2 (b7 c) (Int.toNat 0) (Int.toNat (i64.wrap (8 * (a:Nat)))) s a b (a:Nat) 0 (ad s a b::undef::ah 0::bQ 2 (ad s a b::eZ a::I (i64.wrap (8 * (a:Nat)))::ad (b7 c) (Int.toNat 0) (Int.toNat (i64.wrap (8 * (a:Nat))))::bQ 16 []))) (a8 0 (ba f239 [1,1,1] R)) d):=by kernel_rfl
theorem ayO (e:aB->aV):W prog (sb f239 [1,1,0,1,0,0]) (P2 s a b t c d i k j) (bk e (a8 0 (ba f239 [1,1,1] R))) w=(cond (k<i) (cb t c k 1 λf=>fR w f λx=>dT prog (e0 f239 [1,1,0,1,0,0,1,1,0,0,1,1,0,0]) (P3 s a b x t c d i k 0 (ag j 0 4 (ag j 5 4 (U (k<i)::jp f::ah x::ag j 13 12 [])))) (a8 2 (a8 1 (bk (λg w=>W prog (sb f239 [1,1,0,1,0,0,1,1,1]) g (bk e (a8 0 (ba f239 [1,1,1] R))) w) (bk e (a8 0 (ba f239 [1,1,1] R)))))) w) (W prog (sb f239 [1,1,1]) (afU s a b (ag j 0 9 (ad t c d::I i::I k::U (k<i)::ag j 10 15 []))) (c3 f239 R) w)):=by kernel_rfl
theorem azw:W prog (sb f239 [1,1,1]) (afU s a b j) (c3 f239 R) w=(p5 84 #[ad s a b] w λc d=>R (ah c) d):=by kernel_rfl
theorem ayP (h:aB->aV) (n:aB->aV):W prog (sb f239 [1,1,0,1,0,0,1,1,0,0,1,1,0,0]) (P3 s a b i t c d k l m j) (bk n (a8 2 (a8 1 (bk (λp w=>W prog (sb f239 [1,1,0,1,0,0,1,1,1]) p (bk h (a8 0 (ba f239 [1,1,1] R))) w) (bk h (a8 0 (ba f239 [1,1,1] R))))))) w=(cond (m<8) (bb w #[.int .u8 (IntKind.u8.wrap i)] 5 λo q=>fk 77 (ad s a b) (ad (b7 o) 1 1) q λf g e r=>n (P3 f g e (fr .u64 i 8) t c d k l (i64.wrap (m+1)) (ag j 0 11 [U (m<8),ad s a b,ah i,.int .u8 (IntKind.u8.wrap i),ad (b7 o) 1 1,ad f g e,ah i,ah (fr .u64 i 8),I (i64.wrap (m+1)),aW j 20,aW j 21,aW j 22])) r) (W prog (sb f239 [1,1,0,1,0,0,1,1,1]) (afV s a b t c d k l (ag j 0 4 (ah i::ag j 4 7 (I m::U (m<8)::ag j 12 11 [])))) (bk h (a8 0 (ba f239 [1,1,1] R))) w)):=by kernel_rfl
theorem azx (e:aB->aV):W prog (sb f239 [1,1,0,1,0,0,1,1,1]) (afV s a b t c d i k j) (bk e (a8 0 (ba f239 [1,1,1] R))) w=(e (P2 s a b t c d i (i64.wrap (k+1)) (ag j 0 22 [I (i64.wrap (k+1)),aW j 23,aW j 24])) w):=by kernel_rfl
end
section
def alH (r:Int):Int:=if jC .u64 r 1=1 then nH .u64 (fr .u64 r 1) 14514072000185962306 else fr .u64 r 1
def Ba:Nat->Int->Int
 | 0,r=>r
 |n+1,r=>alH (Ba n r)
def MS (i:Nat):Int:=Ba 8 i
def pe:bR:=(List.range 256).map MS
def yY (i:Nat):bR:=(List.range i).map MS++List.replicate (256 - i) 0
theorem akH (h:i<=256):(yY i).length=256:=by simp [yY];omega
theorem akI (h:i<256):(yY i).set i (MS i)=yY (i+1):=by
 unfold yY;rw [rK,pB,List.set_append];simp only [jS,ui,Nat.lt_irrefl,if_false,xL];obtain ⟨m,hm⟩:∃ m,256 - i=m+1:=⟨255 - i,by omega⟩;have e:256 - (i+1)=m:=by omega
 rw [hm,e,Fw,Q0];simp
theorem akJ:yY 256=pe:=by simp [yY,pe]
theorem alI (n:Nat):us (List.replicate n 0)=List.replicate n (.int .u64 0):=by simp [us]
theorem alJ (l:bR) (i:Nat) (x:Int):(us l).set i (.int .u64 x)=us (l.set i x):=by simp [us]
theorem XO (l:bR):oG.cells ⟨l⟩=us l:=rfl
abbrev Sr:TypeId:=239
theorem ah9 (w:av):bK 147 [] w λv w'=>v=oG.val ⟨pe⟩/\ai w w':=by
 refine bO Tryz.func147 ?_;rw [ahm];rintro b1 w1 bA br;obtain ⟨bm,a1⟩:=b4 bA br;have bm:aF w1 b1 (us (yY 0)) Sr:=by have e:us (yY 0)=List.replicate 256 (.int .u64 0):=alI 256;rw [e];exact bm
 clear br;refine e2 mix (λm env u=>∃ (i:Nat) (aT:aH),m=256 - i/\i<=256/\env=P1 ⟨b1,0,none⟩ i aT/\ai w u/\aF u b1 (us (yY i)) Sr) 256 ⟨0,_,rfl,by omega,rfl,a1,bm⟩ ?_;rintro m env u ⟨i,aT,rfl,aD,rfl,dN,tD⟩;rw [ayM];refine bL (λaK=>?_) (λhQ=>?_)
 ·rw [rJ (x:=(i:Int)) (by omega) (by omega)];refine e2 mix (λnb Jt y=>∃ (k:Nat) (aT:aH),nb=8 - k/\k<=8/\Jt=Lc ⟨b1,0,none⟩ i (Ba k i) i k aT/\y=u) 8 ⟨0,_,rfl,by omega,rfl,rfl⟩ ?_;rintro nb Jt y ⟨k,PM,rfl,J,rfl,rfl⟩;rw [ayN,cn (x:=(k:Int)+1) (by omega) (by omega)];refine bL (λfe=>?_) (λfe=>?_)
  ·refine gX (λaf=>?_) (λaf=>?_)
   ·have e:Ba (k+1) i=nH .u64 (fr .u64 (Ba k i) 1) 14514072000185962306:=if_pos af;rw [<-e];exact ⟨8 - (k+1),by omega,k+1,_,rfl,by omega,rfl,rfl⟩
   ·have e:Ba (k+1) i=fr .u64 (Ba k i) 1:=if_neg af;rw [<-e];exact ⟨8 - (k+1),by omega,k+1,_,rfl,by omega,rfl,rfl⟩
  ·have fe:k=8:=by omega
   subst fe;rw [azv,cn (x:=(i:Int)+1) (by omega) (by omega)];refine yR (by omega) (by omega) ?_;have bg:0+(i:Int).toNat * 1=i:=by omega
   rw [bg];refine FU tD (o:=i) (by rw [m9,akH aD];omega) λaS bP eN=>?_
   rw [alJ,show Ba 8 (i:Int)=MS i from rfl,akI (by omega)] at bP;have aX:=a1.size;exact ⟨256 - (i+1),by omega,i+1,_,rfl,by omega,rfl,dN.trans eN λk aK e=>by omega,bP⟩
 ·have si:i=256:=by omega
  subst si;rw [azu];rw [akJ] at tD;have au:pe.length=256:=by simp [pe]
  refine oG.bd ⟨pe⟩ au ⟨cD tD (by rw [XO];exact ny (eJ _)),?_⟩;refine gL (vs:=us pe) tD rfl (Cl _) λaS bP eN=>?_
  exact oG.bd ⟨pe⟩ au ⟨cD bP (by rw [XO];exact ny (eJ _)),rfl,rfl,dN.trans eN λk aK e=>by have:=a1.size;omega⟩
def y1 (r x:Int):Int:=nH .u64 (fr .u64 r 8) (pe.getD (nH .u8 (IntKind.u8.wrap r) x).toNat 0)
theorem aoF (x:Int):0<=IntKind.u8.wrap x/\IntKind.u8.wrap x<256:=by simp only [IntKind.wrap,IntKind.bits,IntKind.signed];simp;omega
def rX (l:bR):aH:=l.map (Value.int .u8)
theorem alK (h:l[i]?=some x):(rX l)[i]?=some (.int .u8 x):=by simp [rX,h]
theorem ah_ {f:Int->Int->Int} {r:Int} (h:l[i]?=some x):(l.take (i+1)).foldl f r=f ((l.take i).foldl f r) x:=by rw [iW,h,Q8];rfl
theorem akK (r:Int) (aZ:aF w tb (us pe) Sr) {a:ax} {n c:Nat} (aA:bW w a (rX l)) (aj:n=l.length) (aJ:n<=1000000) :
  bK 148 [.int .u64 r,.pointer (some ⟨tb,0,none⟩),.slice a n c] w λv w'=>v=.int .u64 (l.foldl y1 r)/\w'=w:=by
 subst aj;refine bO Tryz.func148 ?_;rw [ah8];refine e2 mix (λm env u=>∃ (i:Nat) (aT:aH),m=l.length - i/\i<=l.length/\env=pm ((l.take i).foldl y1 r) ⟨tb,0,none⟩ a l.length c l.length i aT/\u=w) l.length ⟨0,_,rfl,by omega,rfl,rfl⟩ ?_;rintro m env u ⟨i,aT,rfl,aD,rfl,rfl⟩;rw [azb];refine bL (λaK=>?_) (λhQ=>?_)
 ·obtain ⟨x,ao⟩:∃ x,l[i]?=some x:=⟨_,cp (by omega)⟩;rcases aA with he | ⟨b,o,rfl,ab⟩
  ·have aN:l.length=0:=by have:=congrArg List.length he;rwa [rX,jS] at this
   omega
  refine hc (by omega) (by omega) ⟨x,by simpa using ab i _ (alK ao),?_⟩;have gE:0<=nH .u8 (IntKind.u8.wrap ((l.take i).foldl y1 r)) x/\nH .u8 (IntKind.u8.wrap ((l.take i).foldl y1 r)) x<256:=aoF _;have au:pe.length=256:=by simp [pe]
  refine yR gE.1 gE.2 ?_;generalize aM:nH .u8 (IntKind.u8.wrap ((l.take i).foldl y1 r)) x=q at gE ⊢;obtain ⟨y,az⟩:∃ y,pe[q.toNat]?=some y:=⟨_,cp (by omega)⟩;refine ⟨y,by rw [Nat.mul_one];exact aF.cell aZ (by simpa using It az),?_⟩;rw [cn (x:=(i:Int)+1) (by omega) (by omega)];have e:(l.take (i+1)).foldl y1 r=nH .u64 (fr .u64 ((l.take i).foldl y1 r) 8) y:=by rw [ah_ ao];generalize (l.take i).foldl y1 r=z at aM;show nH .u64 (fr .u64 z 8) (pe.getD (nH .u8 (IntKind.u8.wrap z) x).toNat 0)=_;rw [aM,gd,az];rfl
  dsimp only;rw [<-e];exact ⟨l.length - (i+1),by omega,i+1,_,rfl,by omega,rfl,rfl⟩
 ·have g2:i=l.length:=by omega
  subst g2;rw [aCu,nx];exact ⟨rfl,rfl⟩
def MT (r:Int) (l:bR):Int:=nH .u64 18446744073709551615 (l.foldl y1 (nH .u64 18446744073709551615 r))
theorem ahz (r:Int) {a:ax} {n c:Nat} (aA:bW w a (rX l)) (aj:n=l.length) (aJ:n<=1000000) :
  bK 113 [.int .u64 r,.slice a n c] w λv w'=>v=.int .u64 (MT r l)/\ai w w':=by
 refine bO Tryz.func113 ?_;rw [ag'];refine aR (ah9 w) ?_;rintro v w1 ⟨rfl,a1⟩;have au:pe.length=256:=by simp [pe]
 refine oG.bd ⟨pe⟩ au ⟨rfl,?_⟩;refine g0 (zs:=List.replicate 256 (.int .u64 0)) (vs:=us pe) (by rw [m9,Q'];exact au) (Cl _) λb aY ak aE bf=>?_
 refine aR (akK _ aE (aA.new (a1.new bf)) aj aJ) ?_;rintro v bZ ⟨rfl,rfl⟩;exact ⟨_,rfl,rfl,a1.new bf⟩
theorem ah' {a:ax} {n c:Nat} (aA:bW w a (rX l)) (aj:n=l.length) (aJ:n<=1000000) :
  bK 84 [.slice a n c] w λv w'=>v=.int .u64 (MT 0 l)/\ai w w':=by
 refine bO Tryz.func84 ?_;rw [ahl];refine aR (ahz 0 aA aj aJ) ?_;rintro v w1 ⟨rfl,a1⟩;exact ⟨_,rfl,rfl,a1⟩
def HL:Nat->Int->Int
 | 0,x=>x
 |k+1,x=>fr .u64 (HL k x) 8
def CM (x:Int):bR:=(List.range 8).map λk=>IntKind.u8.wrap (HL k x)
theorem alL (x:Int):(CM x).length=8:=by unfold CM;rw [jS,ui]
def Bb (ws:bR):bR:=(ws.map CM).flatten
def Gq (ws:bR):Int:=MT 0 (Bb ws)
theorem ajk (ws:bR):(Bb ws).length=8 * ws.length:=by
 induction ws with
 |nil=>rfl
 |cons x ws c5=>have:Bb (x::ws)=CM x++Bb ws:=rfl;rw [this,gp,c5];simp [CM];omega
theorem akL (ws:bR):dp (Gq ws):=by unfold Gq MT dp;generalize (List.foldl y1 _ _)=z;simp only [nH,IntKind.wrap,IntKind.bits,IntKind.signed];simp;omega
abbrev I3:TypeId:=5
def CI (ws:bR) (i k:Nat):bR:=Bb (ws.take i)++((CM (ws.getD i 0)).take k)
theorem aia {a:ax} {n c:Nat} (aA:bW w a (us ws)) (aj:n=ws.length) (aJ:n<=10000) :
  bK 239 [.slice a n c] w λv w'=>v=.int .u64 (Gq ws)/\ai w w':=by
 subst aj;refine bO Tryz.func239 ?_;rw [ahn,cn (x:=8 * (ws.length:Int)) (by omega) (by omega)];refine ⟨by omega,by omega,by omega,by omega,?_⟩;rintro b1 w1 bA br;obtain ⟨bm,a1⟩:=b4 bA br;clear br;obtain ⟨inf,kf,pv,cr,gm⟩:=j5 (T:=I3) (z:=.int .u8 0) (n:=1) (m:=1) (by kernel_rfl);have rZ:Int.toNat (8 * (ws.length:Int))=8 * ws.length:=by omega
 have cV:bu w1 I3 1 (some ⟨b1,0,none⟩) 0 (8 * ws.length) (rX []):=by refine ⟨rfl,.inr ⟨b1,_,rfl,bm,by omega,by unfold maxLen;omega,?_,by simp [rX]⟩⟩;rw [rZ];simp [p8]
 refine e2 mix (λm env u=>∃ (i:Nat) (pa:ax) (pc:Nat) (aT:aH),m=ws.length - i/\i<=ws.length/\env=P2 pa (8 * i) pc a ws.length c ws.length i aT/\ai w u/\bu u I3 1 pa (8 * i) pc (rX (Bb (ws.take i)))/\∀ k,a7 pa k->w.heap.size<=k) ws.length
  ⟨0,some ⟨b1,0,none⟩,8 * ws.length,_,rfl,by omega,by rw [rZ];rfl,a1,cV,λk J=>?_⟩ ?_
 ·obtain ⟨o,aq⟩:=J;simp at aq <;> omega
 rintro m env u ⟨i,pa,pc,aT,rfl,aD,rfl,dN,aq,iQ⟩;rw [ayO];refine bL (λaK=>?_) (λhQ=>?_)
 ·obtain ⟨x,ao⟩:∃ x,ws[i]?=some x:=⟨_,cp (by omega)⟩;have adN:ws.getD i 0=x:=by rw [gd,ao];rfl
  have UO:=aA.new dN;rcases UO with he | ⟨b,o,rfl,ab⟩
  ·have aN:ws.length=0:=by have:=congrArg List.length he;rwa [us,jS] at this
   omega
  refine hc (by omega) (by omega) ⟨x,by simpa using ab i _ (It ao),?_⟩;refine e2 mix (λnb Jt y=>∃ (k:Nat) (pa:ax) (pc:Nat) (aT:aH),nb=8 - k/\k<=8/\Jt=P3 pa (8 * i+k) pc (HL k x) (some ⟨b,o,none⟩) ws.length c ws.length i k aT/\ai w y/\bu y I3 1 pa (8 * i+k) pc (rX (CI ws i k))/\∀ k,a7 pa k->w.heap.size<=k) 8
   ⟨0,pa,pc,_,rfl,by omega,rfl,dN,by simpa [CI] using aq,iQ⟩ ?_
  rintro nb Jt y ⟨k,lH,mr,PM,rfl,J,rfl,kG,Ux,UJ⟩;rw [ayP];refine bL (λfe=>?_) (λfe=>?_)
  ·have asy:bu y I3 inf.size lH (8 * i+k) mr (rX (CI ws i k)):=by rw [cr];exact Ux
   refine As (vs:=[.int .u8 (IntKind.u8.wrap (HL k x))]) Tryz.underlying77 kf pv (by rw [cr];rfl) (by omega) asy (by rw [cr];rfl) (by intro v aw;simp at aw;subst aw;rfl) (by omega) (by omega) ?_;intro bT ap bU aY ej af ek fC;rw [cr] at af;rw [cn (x:=(k:Int)+1) (by omega) (by omega)];refine ⟨8 - (k+1),by omega,k+1,ap,bU,_,rfl,by omega,rfl,Hr kG ek UJ,?_,?_⟩
   ·have e:rX (CI ws i k)++[Value.int .u8 (IntKind.u8.wrap (HL k x))]=rX (CI ws i (k+1)):=by unfold CI;rw [adN,iW,show (CM x)[k]?=some (IntKind.u8.wrap (HL k x)) by simp [CM,rM (show k<8 by omega)]];simp [rX]
    rw [<-e];exact af
   ·intro q aM;rcases fC q aM with e | e
    ·exact UJ q e
    ·have:=kG.size;omega
  ·have fe:k=8:=by omega
   subst fe;rw [azx,cn (x:=(i:Int)+1) (by omega) (by omega)];refine ⟨ws.length - (i+1),by omega,i+1,lH,mr,_,rfl,by omega,rfl,kG,?_,UJ⟩;have e:CI ws i 8=Bb (ws.take (i+1)):=by
    have bY:ws.take (i+1)=ws.take i++[x]:=by rw [iW,ao];rfl
    unfold CI Bb;rw [adN,bY,pB,WU,ny (i:=8) (by rw [alL];omega)];simp
   rw [e] at Ux;exact Ux
 ·have g2:i=ws.length:=by omega
  subst g2;rw [azw];rw [nx] at aq;refine aR (ah' aq.rd (ajk ws).symm (by omega)) ?_;rintro v cK ⟨rfl,bH⟩;exact ⟨_,rfl,rfl,dN.new bH⟩
end
section
def DM (lines n:Nat):bR:=(((List.replicate (lines * 8) 0).set 0 1).set 1 1).set 8 (zJ 1 1 (yJ n))
def Cz:Nat->Nat->bR->bR
 | 0,_,ws=>ws
 |k+1,c,ws=>Cz k (c+1) (ws.set (24+c) 1)
def CA:Nat->Nat->bR->bR
 | 0,_,ws=>ws
 |k+1,l,ws=>CA k (l+1) (ws.set (l * 8) 256)
def fmt (lines n:Nat):bR:=CA (lines - 96) 96 (Cz 6 0 (DM lines n))
theorem amQ (n:Nat) (x:Int):List.replicate n (Value.int .u64 x)=us (List.replicate n x):=by simp [us]
theorem amR (h:n<=5):0<=zJ 1 1 (yJ n)/\zJ 1 1 (yJ n)<18446744073709551616:=by have:=aai h;unfold zJ;omega
def CB (ws:bR):Prop:=∀ x ∈ ws,0<=x/\x<18446744073709551616
theorem CB.set {ws:bR} (h:CB ws) {x:Int} (ao:0<=x/\x<18446744073709551616) (i:Nat):CB (ws.set i x):=λy az=>by
 rcases zi az with af | rfl
 ·exact h y af
 ·exact ao
abbrev I4:TypeId:=30
theorem L3 {len:Nat} {i:Int} {K:bh->aV} (aE:aF u b (us ws) I4) (aj:ai w0 u) (ak:w0.heap.size<=b) (aN:0<=i) (af:i<ws.length) (hlen:len=ws.length)
  (J:∀ ch b_,aF b_ b (us (ws.set i.toNat x)) I4->ai w0 b_->K ch b_):cb (some ⟨b,0,none⟩) len i 1 λch=>(∃ b_,u.cell? ch=some b_)/\u.frozen? ch=false/\∀ w',w'=u.setCell ch (.int .u64 x)->K ch w':=by
 refine hc aN (by omega) ?_;have e:0+i.toNat * 1=i.toNat:=by omega
 rw [e];have ab:∃ y,ws[i.toNat]?=some y:=⟨_,cp (by omega)⟩;obtain ⟨y,az⟩:=ab;refine ⟨⟨_,aE.cell (It az)⟩,aE.frozen,?_⟩;rintro w' rfl;refine J _ _ ?_ (ay.setCell aj (.inr ak) _);have:=aE.setCell (i:=i.toNat) (.int .u64 x);rwa [show (us ws).set i.toNat (.int .u64 x)=us (ws.set i.toNat x) by simp [us,oz]] at this
theorem akM {a4:Nat} {s:bt} (h:gY w b a4 s) {lines:Nat} (au:s.words.length=lines * 8) (apN:98<=lines) (aDm:lines<=256) (aC:s.down=false) (af:1<=n) (c9:n<=5) :
  bK 75 [ptr b,.int .i64 n] w λv w'=>v=.int .i64 0/\gY w' b a4 ⟨fmt lines n,false⟩/\ay (λk=>k=a4) w w':=by
 have hdiv:s.words.length / 8=lines:=by omega
 have arH:=aai c9;refine bO Tryz.func75 ?_;rw [ptr,aBa];refine aR (ajC _ af c9) ?_;rintro v w1 ⟨rfl,rfl⟩;refine ⟨_,_,rfl,eX rfl ?_⟩;refine aR (Qq h) ?_;rintro v w1 ⟨rfl,rfl⟩;refine ⟨_,rfl,bL (λab=>by omega) λ_=>?_⟩
 refine aR (aaH h) ?_;rintro v w1 ⟨rfl,rfl⟩;refine ⟨_,rfl,eX (by simp [aC]) ?_⟩;refine aR (Qq h) ?_;rintro v w1 ⟨rfl,rfl⟩;refine ⟨_,rfl,?_⟩;rw [hdiv];refine aR (alD _ (by omega) (by omega)) ?_;rintro v w1 ⟨rfl,rfl⟩;refine ⟨_,rfl,by omega,by omega,by omega,by omega,?_⟩;have rZ:Int.toNat ((lines:Int) * 8)=lines * 8:=by omega
 rw [rZ,Yl,amQ];rintro b1 aS bA cG;obtain ⟨bP,a5⟩:=b4 bA cG;replace bP:aF aS b1 (us (List.replicate (lines * 8) 0)) I4:=bP;clear cG;have mg:w1.heap.size<=b1:=by omega
 refine aR (amO _) ?_;rintro v aY ⟨rfl,rfl⟩;refine ⟨_,_,rfl,?_⟩;refine L3 (len:=lines * 8) (i:=0) (x:=1) bP a5 mg (by omega) (by simp;omega) (by simp) ?_;intro ch bZ dk bz;refine L3 dk bz mg (by omega) (by simp;omega) (by simp) ?_;intro ch cK dL bH;refine aR (ahy _ _) ?_;rintro v dh ⟨rfl,cg⟩;refine ⟨_,rfl,?_⟩;refine aR (ahj _ (by omega) (by omega) arH.1) ?_;rintro v cR ⟨e,rfl,rfl⟩;refine ⟨_,_,rfl,?_⟩;have TA:NF 1 1 (yJ n)=zJ 1 1 (yJ n):=by unfold NF;rw [if_pos (by omega)]
 rw [TA];refine L3 (ai.an cg dL) (bH.new cg) mg (by decide) (by simp [za];omega) (by simp) ?_;intro ch e6 gN eT;have uK:(((List.replicate (lines * 8) 0).set (Int.toNat 0) 1).set (Int.toNat 1) 1).set (za 1 16 0).toNat (zJ 1 1 (yJ n))=DM lines n:=rfl;rw [uK] at gN;have ar1:(DM lines n).length=lines * 8:=by simp [DM]
 have mJ:CB (DM lines n):=((CB.set (CB.set (λx ao=>by simp at ao <;> omega) (by omega) _) (by omega) _).set (amR c9) _);clear uK bP dk dL a5 bz bH cg;refine e2 mix (λm env u=>∃ (c:Nat) (ws:bR) (aT:aH),m=6 - c/\c<=6/\env=PD ⟨b,0,none⟩ (some ⟨b1,0,none⟩) (lines * 8) (lines * 8) c aT/\aF u b1 (us ws) I4/\ai w1 u/\ws.length=lines * 8/\CB ws/\Cz (6 - c) c ws=Cz 6 0 (DM lines n)) 6
  ⟨0,_,_,rfl,by omega,rfl,gN,eT,ar1,mJ,rfl⟩ ?_
 rintro m env u ⟨c,ws,aT,rfl,ab,rfl,aE,aj,hlen,hw,dX⟩;rw [awL];refine bL (λar=>?_) (λar=>?_)
 ·refine aR (amP _ _) ?_;rintro v ct ⟨rfl,dN⟩;have as':za 3 6 (c:Int)=24+c:=by unfold za;rw [if_neg (by omega)];omega
  refine ⟨_,rfl,?_⟩;rw [as'];refine L3 (ai.an dN aE) (aj.new dN) mg (by omega) (by omega) (by omega) ?_;intro ch cS bP a5;rw [cn (by omega) (by omega)];refine ⟨6 - (c+1),by omega,c+1,_,_,rfl,by omega,rfl,bP,a5,by simpa using hlen,hw.set (by omega) _,?_⟩;rw [show 6 - c=6 - (c+1)+1 by omega,Cz] at dX;rw [show Int.toNat (24+(c:Int))=24+c by omega];exact dX
 ·have oc:c=6:=by omega
  subst oc;rw [aye];rw [xL,Cz] at dX;have aJ:CA (lines - 96) 96 ws=fmt lines n:=by rw [fmt,<-dX]
  clear dX;refine e2 mix (λm env u=>∃ (c:Nat) (ws:bR) (aT:aH),m=lines - c/\96<=c/\c<=lines/\env=PE ⟨b,0,none⟩ (some ⟨b1,0,none⟩) (lines * 8) (lines * 8) c aT/\aF u b1 (us ws) I4/\ai w1 u/\ws.length=lines * 8/\CB ws/\CA (lines - c) c ws=fmt lines n) (lines - 96)
   ⟨96,_,_,rfl,by omega,by omega,rfl,aE,aj,hlen,hw,aJ⟩ ?_
  clear aJ aE aj hlen hw gN eT ar ab;rintro m env u ⟨c,ws,aT,rfl,ab,c7,rfl,aE,aj,hlen,hw,dX⟩;rw [awN];refine aR (Qq (h.new aj)) ?_;rintro v ct ⟨rfl,rfl⟩;refine ⟨_,rfl,?_⟩;rw [hdiv];refine bL (λar=>?_) (λar=>?_)
  ·refine aR (Fo _ (by omega) (by omega)) ?_;rintro v cS ⟨rfl,rfl⟩;refine ⟨_,rfl,?_⟩;refine aR (aji _) ?_;rintro v cS ⟨rfl,rfl⟩;refine ⟨_,_,rfl,?_⟩;refine L3 aE aj mg (by omega) (by omega) (by omega) ?_;intro ch cS bP a5;rw [cn (by omega) (by omega)];refine ⟨lines - (c+1),by omega,c+1,_,_,rfl,by omega,by omega,rfl,bP,a5,by simpa using hlen,hw.set (by omega) _,?_⟩;rw [show lines - c=lines - (c+1)+1 by omega,CA] at dX;rw [show Int.toNat ((c:Int) * 8)=c * 8 by omega];exact dX
  ·have oc:c=lines:=by omega
   subst oc;rw [ayf];rw [xL,CA] at dX;rw [<-hlen];refine aR (YX (h.new aj) 0 (jk aE (by rw [Mg];exact ny (eJ _))) hw (λh=>by cases h)) ?_;rintro v b2 ⟨rfl,jb,J⟩;have GF:s.iM 0 ws.length=0:=by unfold bt.iM;rw [if_neg (by omega),if_neg (by simp [aC])]
   rw [GF] at jb ⊢;rw [if_pos rfl] at jb;refine ⟨_,rfl,rfl,?_,(ay.db aj).trans J (λ_ _ h=>h)⟩;have:s.write (Int.toNat 0) ws=⟨fmt c n,false⟩:=by unfold bt.write;rw [<-dX];simp [aC,au,hlen]
   rw [<-this];exact jb
theorem XP:∀ (k c:Nat) (ws:bR),(Cz k c ws).length=ws.length
 | 0,_,_=>rfl
 |k+1,c,ws=>by rw [Cz,XP];simp
theorem XQ:∀ (k c:Nat) (ws:bR),(CA k c ws).length=ws.length
 | 0,_,_=>rfl
 |k+1,c,ws=>by rw [CA,XQ];simp
theorem Zi (lines n:Nat):(fmt lines n).length=lines * 8:=by rw [fmt,XQ,XP];simp [DM]
def a9.fmt (F:a9):a9:={ F with nodes:=F.nodes.map λ_=>⟨Go.Proofs.YtmkljjbioomepaaGreat.fmt F.lines F.nodes.length,false⟩ }
def Yp (F:a9):Prop:=98<=F.lines/\F.lines<=256/\1<=F.nodes.length/\F.nodes.length<=5/\∀ n ∈ F.nodes,n.words.length=F.lines * 8/\n.down=false
theorem VB (X:cF):X.pure.nodes.length=X.nodes.length:=by simp [cF.pure]
theorem ahA (h:c4 A aG w a3 X) (aJ:Yp X.pure) :
  bK 47 [ptr a3] w λv w'=>v=.int .i64 0/\gQ A aG w a3 X.pure.fmt w' λ_=>True:=by
 obtain ⟨f1,f2,f3,f4,f5⟩:=aJ;rw [VB] at f3 f4;refine bO Tryz.func47 ?_;rw [ptr,ayV];refine aR (Ru h) ?_;rintro v w1 ⟨rfl,rfl⟩;refine ⟨_,rfl,?_⟩;let pE:Nat:=X.nodes.length;refine e2 mix (λm env u=>∃ (i:Nat) (A':bB) (χ':Nat->Tag) (eR:cF) (aT:aH),m=pE - i/\i<=pE/\env=Oa ⟨a3,0,none⟩ pE i aT/\Next A A' aG χ' w1 u/\c4 A' χ' u a3 eR/\eR.nodes.length=pE/\eR.lines=X.lines/\(∀ x ∈ eR.nodes,x.n.words.length=X.lines * 8/\x.n.down=false)/\
   eR.pure={ X.pure with nodes:=List.replicate i ⟨fmt X.lines pE,false⟩++X.pure.nodes.drop i }) pE
  ⟨0,A,aG,X,_,rfl,by omega,rfl,h.refl (ay.refl _ _),h,rfl,rfl,λx ao=>f5 x.n (eQ.2 ⟨x,ao,rfl⟩),by simp⟩ ?_
 rintro m env u ⟨i,A',χ',eR,aT,rfl,aD,rfl,hS,cM,abG,aqh,abH,S'⟩;rw [av7];refine bL (λar=>?_) (λar=>?_)
 ·have aK:i<eR.nodes.length:=by omega
  obtain ⟨x,ao⟩:∃ x,eR.nodes[i]?=some x:=⟨_,cp aK⟩;refine aR (WA cM ao) ?_;rintro v ct ⟨rfl,rfl⟩;refine ⟨_,rfl,?_⟩;refine aR (Ru cM) ?_;rintro v ct ⟨rfl,rfl⟩;refine ⟨_,rfl,?_⟩;obtain ⟨br,cG⟩:=abH x (dn ao);rw [abG];refine aR (akM (cM.node i x ao).node br f1 f2 cG (by show 1<=pE;omega) (by show pE<=5;omega)) ?_;rintro v cS ⟨rfl,jb,J⟩;refine ⟨_,rfl,eX rfl ?_⟩;obtain ⟨mz,asl,S3⟩:=cM.setNode ao (J.mono λk _ e=>.inr e) jb;rw [cn (by omega) (by omega)];refine ⟨pE - (i+1),by omega,i+1,mz,χ',_,_,rfl,by omega,rfl,hS.trans asl,S3,by simpa using abG,aqh,?_,?_⟩
  ·intro y az;rcases zi az with az | rfl
   ·exact abH y az
   ·refine ⟨?_,rfl⟩;have:=jb.len;show (fmt X.lines pE).length=_;rw [Zi]
  ·have hlen:X.pure.nodes.length=pE:=VB X;have bY:eR.pure.nodes=List.replicate i ⟨fmt X.lines pE,false⟩++X.pure.nodes.drop i:=by rw [S']
   have bg:eR.nodes.map mm.n=List.replicate i ⟨fmt X.lines pE,false⟩++X.pure.nodes.drop i:=bY;have dF:({ eR with nodes:=eR.nodes.set i { x with n:=⟨fmt X.lines pE,false⟩ } }:cF).pure={ eR.pure with nodes:=(eR.nodes.map mm.n).set i ⟨fmt X.lines pE,false⟩ }:=by simp [cF.pure,oz]
   rw [dF,bg,S'];congr 1;rw [WO _ _ (by simp)];simp only [Q',xL];rw [List.replicate_succ',ue];congr 1;rw [A2 (by omega)];rfl
 ·have arE:i=pE:=by omega
  subst arE;rw [aw4];refine ⟨rfl,A',χ',eR,hS,cM,?_,trivial⟩;rw [S'];unfold a9.fmt;have hlen:X.pure.nodes.length=pE:=VB X;congr 1;rw [List.drop_of_length_le (by omega),qd,hlen,<-hlen];rw [List.map_const'];rfl
theorem aib {n c lines:Nat} (aj:1<=n/\n<=5) (au:98<=lines/\lines<=256):Yp (a9.init n c lines):=by refine ⟨au.1,au.2,by simp [a9.init];omega,by simp [a9.init];omega,?_⟩;intro x ao;simp [a9.init] at ao;rw [ao.2];simp [HO,a9.init];omega
def a9.fresh (n c lines:Nat):a9:=⟨lines,List.replicate n ⟨Go.Proofs.YtmkljjbioomepaaGreat.fmt lines n,false⟩,(List.range c).map (ng n),[]⟩
theorem aj3 (n c lines:Nat):(a9.init n c lines).fmt=a9.fresh n c lines:=by simp [a9.fmt,a9.init,a9.fresh]
theorem Zj {n c lines:Nat} (aj:1<=n/\n<=5) (ab:1<=c/\c<=6) (au:98<=lines/\lines<=256):bK 23 [.int .i64 n,.int .i64 c,.int .i64 lines] w λv w'=>
  ∃ a3 A aG X,v=.tuple #[ptr a3,.bool true]/\c4 A aG w' a3 X/\ai w w'/\(∀ k,A k->w.heap.size<=k)/\X.pure=a9.fresh n c lines:=by
 refine bO Tryz.func23 ?_;rw [azi];refine aR (amN aj ab ⟨by omega,au.2⟩) ?_;rintro v w1 ⟨a3,A,aG,X,rfl,cM,a1,fB,q5⟩;refine ⟨_,_,rfl,eX rfl (eX rfl ?_)⟩;refine aR (ahA cM (by rw [q5];exact aib aj au)) ?_;rintro v aS ⟨rfl,A',χ',eR,hS,qp,JF,_⟩;refine ⟨_,rfl,eX rfl ⟨a3,A',χ',eR,rfl,qp,?_,?_,?_⟩⟩
 ·refine a1.trans hS.aO (λk J apO=>?_);have:=fB k (cM.iL k apO);omega
 ·intro k J;by_cases aK:k<w1.heap.size
  ·rcases (hS.iff k).1 J with ab | ab
   ·exact fB k (cM.iL k (hS.grow k aK ab))
   ·exact fB k ab.2.1
  ·have:=a1.size;omega
 ·rw [JF,q5,aj3]
theorem MU (h:c4 A aG w a3 X) {x:mm} (ao:X.nodes[i]?=some x) {at_:Nat} (ez:at_<x.n.words.length) (aC:x.n.down=false) :
  bK 20 [ptr a3,.int .i64 i,.int .i64 at_] w λv w'=>v=.tuple #[.int .u64 (x.n.get at_),.bool true]/\ai w w':=by
 refine bO Tryz.func20 ?_;rw [ptr,azm];refine aR (WA h ao) ?_;rintro v ct ⟨rfl,rfl⟩;refine ⟨_,rfl,eX rfl ?_⟩;refine aR (MR (h.node i x ao).node at_ 1) ?_;have GF:x.n.iM at_ 1=0:=by unfold bt.iM;rw [if_neg (by omega),if_neg (by simp [aC])]
 rintro v cS (⟨ab,_⟩ | ⟨_,a,cap,rfl,aj,aq,_⟩)
 ·exact absurd GF ab
 have aA:=aq.rd;have a':x.n.read at_ 1=[x.n.get at_]:=by
  unfold bt.read;have aX:x.n.words[at_]?=some (x.n.get at_):=bt.get_some ez
  simp only [j_];rw [A2 ez];have:x.n.words[at_]=x.n.get at_:=by rw [cp ez] at aX;exact zf aX
  rw [this];rfl
 rw [a'] at aA;rcases aA with aA | ⟨b,o,he,jl⟩
 ·cases aA
 simp at he;subst he;refine ⟨_,_,_,_,rfl,eX rfl (eX rfl (hc (by omega) (by decide) ?_))⟩;have:=jl 0 _ rfl;refine ⟨_,this,rfl,aj⟩
end
section
def gZ (d:a_):Int:=d.words.headD 0
def Gx (v:bn) (d:a_):Bool:=if d.code=0 then decide ((d.words.length:Int)=v.v.ow) else if d.code=4\/d.code=5 then decide (d.words.length=0) else false
def r3 (vs:List bn) (ds:List a_):Bool:=decide (vs.length=ds.length) && (vs.zip ds).all λp=>Gx p.1 p.2
structure agX where
 done:List a_
 ok:Bool
 bD:List (List a_)
 ask:Option (List bn)
 gb:Bool
def batch (G:List (List a_)) (vs:List bn):agX:=
 if vs.length=0 then ⟨[],true,G,none,false⟩ else match G with
 | []=>⟨[],false,[],some vs,false⟩
 |d::gg=>if r3 vs d then ⟨d,true,gg,none,false⟩ else ⟨[],false,d::gg,none,true⟩
abbrev Bm:TypeId:=244
theorem E6 {x:a_} (h:tT M w d x):bK 196 [d.val] w λv w'=>v=.int .u64 (gZ x)/\ai w w':=by
 refine bO Tryz.func196 ?_;refine Eq.mpr (ag0 d.Code d.Words d.ey d.eg w _) ?_;rintro b1 w1 bA br;obtain ⟨aE,aj⟩:=b4 bA br;have au:=h.len;refine ⟨_,_,_,aE.cell rfl,gX (λaN=>?_) (λaN=>⟨_,_,_,aE.cell rfl,?_⟩)⟩
 ·have:x.words=[]:=jR (by omega);refine ⟨by simp [gZ,this],aj⟩
 ·cases ao:x.words with
  |nil=>rw [ao] at au;simp at au <;> omega
  |cons y ys=>
   have aA:=h.rd.new aj;rw [ao] at aA;rcases aA with aA | ⟨b,o,he,ab⟩
   ·cases aA
   rw [he];refine hc (by omega) (by omega) ⟨y,?_,by simp [gZ,ao],aj⟩;exact ab 0 _ rfl
structure kb where
 lv:ax
 gB:Nat
 gc:Nat
 aa:ax
 fi:Nat
 ac:Nat
 gb:Bool
def kb.cells (T:kb):aH:=[.slice T.lv T.gB T.gc,.slice T.aa T.fi T.ac,.bool T.gb]
structure Row where
 a:ax
 c:Nat
 raw:List cL
def sP (rows:List Row):aH:=rows.map λr=>.slice r.a r.raw.length r.c
def nh (A:bB) (w:av) (a:ax) (G:List (List a_)):Prop:=
 ∃ rows:List Row,rows.length=G.length/\bW w a (sP rows)/\(sP rows=[]\/kR A a)/\
  ∀ (i:Nat) (r:Row) (ds:List a_),rows[i]?=some r->G[i]?=some ds->bW w r.a (j6 r.raw).flatten/\((j6 r.raw).flatten=[]\/kR A r.a)/\lN A w r.raw ds/\ds.length<=1024
theorem nh.nil (A:bB) (w:av) (a:ax):nh A w a []:=⟨[],rfl,.inl rfl,.inl rfl,λi r ds h=>by simp at h⟩
theorem nh.head {a:ax} {d:List a_} (h:nh A w a (d::G)) :
  ∃ (b o:Nat) (r:Row),a=some ⟨b,o,none⟩/\w.cell? ⟨b,o,none⟩=some (.slice r.a r.raw.length r.c)/\bW w r.a (j6 r.raw).flatten/\lN A w r.raw d/\d.length<=1024/\nh A w (some ⟨b,o+1,none⟩) G:=by
 obtain ⟨rows,au,aA,aq,aC⟩:=h;cases rows with
 |nil=>simp at au
 |cons r rows=>
  rcases aA with aA | ⟨b,o,rfl,ab⟩
  ·simp [sP] at aA
  ·obtain ⟨af,al,aL,ca⟩:=aC 0 r d rfl rfl;refine ⟨b,o,r,rfl,ab 0 _ rfl,af,aL,ca,rows,by simpa using au,?_,?_,λi e1 ds c9 e8=>aC (i+1) e1 ds (by simpa using c9) (by simpa using e8)⟩
   ·refine .inr ⟨b,o+1,rfl,λj u hu=>?_⟩;rw [Ma,Nat.add_comm 1 j];exact ab (j+1) u (by simpa [sP] using hu)
   ·rcases aq with aq | aq
    ·simp [sP] at aq
    ·exact .inr aq
theorem alM {x:bn} {y:a_} (aw:ei M w v x) (h:tT A w' d y):fits v d=Gx x y:=by unfold fits Gx;rw [h.code,h.len,aw.eq];rfl
theorem ajl {raw:List cL} (aw:hp M w dD vs) (h:lN A w' raw ds):Fm dD raw=r3 vs ds:=by
 unfold Fm r3;rw [h.1,aw.1];congr 1;obtain ⟨af,al⟩:=h;obtain ⟨eK,fj⟩:=aw;induction vs generalizing raw ds dD with
 |nil=>
  cases dD with
  |nil=>simp
  |cons=>simp at eK
 |cons v vs c5=>
  cases dD with
  |nil=>simp at eK
  |cons fg dD=>
   cases raw with
   |nil=>cases ds with
    |nil=>simp
    |cons=>simp at af
   |cons r raw=>cases ds with
    |nil=>simp at af
    |cons d ds=>simp only [List.zip_cons_cons,List.all_cons];rw [alM (fj 0 fg v rfl rfl) (al 0 r d rfl rfl),c5 (by simpa using af) (λi v x aw ao=>al (i+1) v x (by simpa using aw) (by simpa using ao)) (by simpa using eK) λi v x aw ao=>fj (i+1) v x (by simpa using aw) (by simpa using ao)]
theorem QO (h:r3 vs ds=true):vs.length=ds.length:=by unfold r3 at h;simp at h;exact h.1
theorem EK {G:List (List a_)} {vs:List bn}:(batch G vs).done.length<=vs.length:=by
 unfold batch;split
 ·simp
 ·cases G with
  |nil=>simp
  |cons d G=>
   simp only;split
   ·rename_i h;rw [QO h];exact eJ _
   ·simp
theorem Zk {T:kb} (aj:ai w0 u) (au:w0.heap.size<=tb) (ak:aF u tb T.cells Bm) (a':nh A w0 T.lv G) (jm:T.gB=G.length) (od:T.gB<=T.gc)
  {aa:ax} {ac:Nat} (aA:bW u aa (gG dD).flatten) (eb:hp M u dD vs) (Cc:vs.length<=1000000) :
  bK 116 [ptr tb,.slice aa dD.length ac] u λv b_=>∃ (er:kb) (f8:ax) (dc:Nat) (raw:List cL),v=.tuple #[.slice f8 raw.length dc,.bool (batch G vs).ok]/\aF b_ tb er.cells Bm/\ay (λk=>k=tb) u b_/\
   bW w0 f8 (j6 raw).flatten/\lN A w0 raw (batch G vs).done/\nh A w0 er.lv (batch G vs).bD/\er.gB=(batch G vs).bD.length/\er.gB<=er.gc/\er.gb=(T.gb || (batch G vs).gb)/\
   (match (batch G vs).ask with | none=>er.aa=T.aa/\er.fi=T.fi/\er.ac=T.ac | some _=>er.aa=aa/\er.fi=vs.length/\er.ac=ac):=by
 refine bO Tryz.func116 ?_;rw [ptr,azk];rw [eb.1];have TJ:lN A w0 [] []:=⟨rfl,λi v x aw=>by simp at aw⟩;unfold batch;refine gX (λaN=>?_) (λaN=>⟨_,_,_,ak.cell rfl,gX (λaf=>?_) (λaf=>?_)⟩)
 ·have ss:vs.length=0:=by omega
  rw [if_pos ss];exact ⟨T,none,0,[],rfl,ak,ay.refl _ _,.inl rfl,TJ,a',jm,od,by simp,rfl,rfl,rfl⟩
 ·have ss:¬ vs.length=0:=by omega
  have uE:G=[]:=jR (by omega);subst uE;rw [if_neg ss];refine ⟨⟨_,ak.cell rfl⟩,ak.frozen,?_⟩;rintro ct rfl;exact ⟨{ T with aa:=aa,fi:=vs.length,ac:=ac },none,0,[],rfl,ak.setCell _,iu _ _ _ _,.inl rfl,TJ,nh.nil _ _ _,jm,od,by simp,rfl,rfl,rfl⟩
 ·have ss:¬ vs.length=0:=by omega
  rw [if_neg ss];cases G with
  |nil=>simp at jm <;> omega
  |cons d gg=>
   simp only;obtain ⟨b,o,r,bc,ab,dw,dX,j0,lY⟩:=a'.head;have cj:b≠tb:=by
    have af:b<w0.heap.size:=by
     have:=ab;unfold World.cell? at this;by_cases aK:b<w0.heap.size
     ·exact aK
     ·simp [QZ (Q2 aK)] at this
    omega
   have jl:∀ z,ai w0 z->z.cell? ⟨b,o,none⟩=some (.slice r.a r.raw.length r.c):=by
    intro z aE;have al:bW w0 (some ⟨b,o,none⟩) [.slice r.a r.raw.length r.c]:=.inr ⟨b,o,rfl,λj u hu=>by
     cases j with
     |zero=>simp at hu;subst hu;exact ab
     |succ j=>simp at hu⟩
    exact (al.new aE).cell (j:=0) rfl
   refine ⟨_,_,_,ak.cell rfl,?_⟩;rw [bc];refine hc (by omega) (by omega) ?_;refine ⟨_,_,_,jl u aj,?_⟩;have gv:Fm dD r.raw=r3 vs d:=ajl eb dX;have ik:=dX.1;have hlen:dD.length=vs.length:=eb.1;rw [<-hlen];refine aR (aoD aA (dw.new aj) (by omega) (by omega)) ?_;rintro v cS ⟨rfl,a5⟩;rw [gv];refine ⟨_,rfl,ht (λaJ=>?_) (λaJ=>?_)⟩
   ·have cv:=ai.an a5 ak;rw [aJ];refine ⟨⟨_,cv.cell rfl⟩,cv.frozen,?_⟩;rintro b2 rfl;exact ⟨{ T with gb:=true },none,0,[],rfl,cv.setCell _,(ay.db a5).trans (iu _ _ _ _) (λ_ _ h=>h),.inl rfl,TJ,a',jm,od,by simp,rfl,rfl,rfl⟩
   ·rw [aJ];rintro b2 oi;have bf:ai u b2:=by rw [oi];exact a5.drew
    have ej:=ai.an bf ak;refine ⟨λz=>ai b2 z,ay.refl _ _,_,_,_,λz aE=>(ai.an aE ej).cell rfl,?_⟩;rw [bc];refine hc (by omega) (by omega) ?_;refine ⟨_,_,_,λz aE=>jl z ((aj.new bf).new aE),_,_,_,λz aE=>(ai.an aE ej).cell rfl,?_⟩;rw [bc];refine ⟨by omega,by omega,by omega,by omega,by omega,⟨_,ej.cell rfl⟩,ej.frozen,?_⟩;rintro c6 rfl;have aDP:T.gB=gg.length+1:=by simpa using jm
    refine ⟨{ T with lv:=if (T.gc:Int)=1 then some ⟨b,o,none⟩ else (some ⟨b,o,none⟩:ax).map (·.add (Int.toNat 1 * 1)),gB:=Int.toNat T.gB - Int.toNat 1,gc:=Int.toNat T.gc - Int.toNat 1 },r.a,r.c,r.raw,rfl,ej.setCell _,(ay.db bf).trans (iu _ _ _ _) (λ_ _ h=>h),dw,dX,?_,?_,?_,by simp,rfl,rfl,rfl⟩
    ·show nh A w0 (if (T.gc:Int)=1 then _ else _) gg;split
     ·have:gg=[]:=jR (by omega);rw [this];exact nh.nil _ _ _
     ·exact lY
    ·show Int.toNat (T.gB:Int) - Int.toNat 1=gg.length;omega
    ·show Int.toNat (T.gB:Int) - Int.toNat 1<=Int.toNat (T.gc:Int) - Int.toNat 1;omega
abbrev k7:TypeId:=125
theorem alN {a:ax} {cap:Nat} {xs:aH} (aq:bu u d8 9 a n cap xs) (bA:n<=1000000000) {K:Nat->ax->Nat->Nat->aV}
  (J:∀ b ap bU aY,b=u.heap.size->bu aY d8 9 ap (n+1) bU (xs++v.cells)->ay (a7 a) u aY->(∀ k,a7 ap k->a7 a k\/u.heap.size<=k)->K b ap (n+1) bU aY) :
  ∀ b1 aS,b1=u.heap.size->aS=u.alloc (.cells v.cells.toArray d8)->∃ (ap:ax) (h_ h9:Nat),∃ aY,(Builtin.append_ #[k7,k7] k7 #[(.slice a n cap),(.slice (some ⟨b1,0,none⟩) 1 1)]).run prog aS=.ok (.slice ap h_ h9) aY/\K b1 ap h_ h9 aY:=by
 obtain ⟨inf,aD,aE,cr,gm⟩:=j5 (T:=d8) (z:=.agg #[.int .i64 0,.int .i64 0,.int .i64 0,.int .i64 0,.int .u64 0,.int .u64 0,.slice none 0 0,.int .u64 0,.int .i64 0]) (n:=9) (m:=88) (by kernel_rfl);rw [<-cr] at aq;refine As Tryz.underlying125 aD aE (by rw [cr];rfl) (by omega) aq (by rw [cr];rfl) (a0.single v) bA (by omega) ?_;intro b ap bU aY af al;rw [cr] at al;exact J b ap bU aY af al
theorem XR {ws:List bn} (h:(batch G vs).ask=some ws):ws=vs:=by
 unfold batch at h;split at h
 ·cases h
 ·cases G with
  |nil=>simp at h;exact h.symm
  |cons d gg=>simp only at h;split at h<;>cases h
theorem Yq (h:(batch G vs).ok=true):(batch G vs).ask=none/\(batch G vs).gb=false:=by
 unfold batch at h ⊢;split
 ·exact ⟨rfl,rfl⟩
 ·rename_i aw;rw [if_neg aw] at h;cases G with
  |nil=>simp at h
  |cons d gg=>
   simp only at h ⊢;split
   ·exact ⟨rfl,rfl⟩
   ·rename_i aJ;rw [if_neg aJ] at h;simp at h
theorem ZT (w:av) (lv:ax) (gB gc:Nat):bK 115 [.slice lv gB gc] w λv w'=>∃ tb,v=ptr tb/\w.heap.size<=tb/\aF w' tb (kb.cells ⟨lv,gB,gc,none,0,0,false⟩) Bm/\ai w w':=by refine bO Tryz.func115 ?_;rw [ahu];rintro b1 w1 bA br;obtain ⟨aE,aj⟩:=b4 bA br;exact ⟨b1,rfl,by omega,aE,aj⟩
end
end Go.Proofs.YtmkljjbioomepaaGreat
