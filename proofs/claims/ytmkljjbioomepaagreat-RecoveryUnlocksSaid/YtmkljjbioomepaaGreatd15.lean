import Derived.Test.YtmkljjbioomepaaGreatProg
import Derived.Test.YtmkljjbioomepaaGreatd03
import Derived.Test.YtmkljjbioomepaaGreatd02
import Derived.Test.YtmkljjbioomepaaGreatd13
set_option linter.all false
set_option maxHeartbeats 4000000
set_option maxRecDepth 100000
namespace Go.Proofs.YtmkljjbioomepaaGreat
open Go.Proofs.Tryz Go.bs
variable {A M:a6} {G:List (List aM)} {X:bR} {b aJ i n tb:Nat} {d:bT} {ds:List aM} {l ws:a8} {cp:List aG} {u w w' w0:ak} {v:aG} {vs:List aQ} {x:Int} {aw:Nat->Tag}
section
open IntKind
variable (w:ak) (R:cz) {s t:an} {a b c d:Nat} {i k l m:Int} {A:aX} {j:ar}
theorem IW:bf prog f84 [ae s a b] R w=(jB 113 #[ah 0,ae s a b] w λc d=>R (ah c) d):=by kernel_rfl
theorem ID:bf prog f113 [ah i,ae s a b] R w=(UC 147 #[] w λd h=>aS h ((List.replicate 256 (ah 0)).toArray) 239 λe g=>a_ g (af e 0) 0 d.cells λf=>jB 148 #[ah (h6 .u64 18446744073709551615 i),ba e,ae s a b] f λc j=>R (ah (h6 .u64 18446744073709551615 c)) j):=by kernel_rfl
def xQ (a:aX) (b:Int) (j:ar):ar:=.pointer (some a)::ag j 0 2 (ab b::ag j 2 20 [])
def Hs (a:aX) (j:ar):ar:=.pointer (some a)::ag j 0 23 []
def uJ (a:aX) (s1 s2 b s8:Int) (j:ar):ar:=.pointer (some a)::ab s1::ah s2::ab b::ag j 0 4 (ab s8::ag j 4 15 [])
def Ht (a:aX) (s1 s2 b:Int) (j:ar):ar:=.pointer (some a)::ab s1::ah s2::ab b::ag j 0 20 []
theorem IX  : bf prog f147 [] R w=(aS w ((List.replicate 256 (ah 0)).toArray) 239 λb1 w1=>cG prog (c7 f147 [1,0,1,0,0]) (xQ (af b1 0) 0 (bD 22 [])) (aP 0 (aU f147 [1,1] R)) w1):=by kernel_rfl
theorem VN (a:ar->aF):W prog (sb f147 [1,0,1,0,0]) (xQ A i j) (aZ a (aP 0 (aU f147 [1,1] R))) w=(cond (i<256) (cG prog (c7 f147 [1,0,1,0,0,1,1,0,0,1,1,0,1,0,0]) (uJ A i (u64.wrap i) i 0 (ad (i<256)::ab i::ab i::ah (u64.wrap i)::ag j 7 15 [])) (aP 2 (aZ (λb w=>W prog (sb f147 [1,0,1,0,0,1,1,0,0,1,1,1]) b (aP 1 (aZ (λb w=>W prog (sb f147 [1,0,1,0,0,1,1,1]) b (aZ a (aP 0 (aU f147 [1,1] R))) w) (aZ a (aP 0 (aU f147 [1,1] R))))) w) (aP 1 (aZ (λb w=>W prog (sb f147 [1,0,1,0,0,1,1,1]) b (aZ a (aP 0 (aU f147 [1,1] R))) w) (aZ a (aP 0 (aU f147 [1,1] R))))))) w) (W prog (sb f147 [1,1]) (Hs A (aO j 0::aO j 1::ab i::ad (i<256)::ag j 3 19 [])) (b7 f147 R) w)):=by kernel_rfl
theorem WJ:W prog (sb f147 [1,1]) (Hs A j) (b7 f147 R) w=(GY w A λr=>a_ w A 0 r.cells λa=>GY a A λb=>a=a/\R b.val a):=by kernel_rfl
theorem VO (b:ar->aF) (c:ar->aF):W prog (sb f147 [1,0,1,0,0,1,1,0,0,1,1,0,1,0,0]) (uJ A i k l m j) (aZ c (aP 2 (aZ (λa w=>W prog (sb f147 [1,0,1,0,0,1,1,0,0,1,1,1]) a (aP 1 (aZ (λa w=>W prog (sb f147 [1,0,1,0,0,1,1,1]) a (aZ b (aP 0 (aU f147 [1,1] R))) w) (aZ b (aP 0 (aU f147 [1,1] R))))) w) (aP 1 (aZ (λa w=>W prog (sb f147 [1,0,1,0,0,1,1,1]) a (aZ b (aP 0 (aU f147 [1,1] R))) w) (aZ b (aP 0 (aU f147 [1,1] R)))))))) w=(cond (m<8) (cond (((fG .u64 k 1):Int) == 1) (c (uJ A i (h6 .u64 (df .u64 k 1) 14514072000185962306) l (i64.wrap (m+1)) (ag j 0 4 (ad (m<8)::ah k::ah (fG .u64 k 1)::ad (((fG .u64 k 1):Int) == 1)::ah k::ah (df .u64 k 1)::ah (h6 .u64 (df .u64 k 1) 14514072000185962306)::aO j 11::aO j 12::ab (i64.wrap (m+1))::ag j 14 5 []))) w) (c (uJ A i (df .u64 k 1) l (i64.wrap (m+1)) (ag j 0 4 (ad (m<8)::ah k::ah (fG .u64 k 1)::ad (((fG .u64 k 1):Int) == 1)::aO j 8::aO j 9::aO j 10::ah k::ah (df .u64 k 1)::ab (i64.wrap (m+1))::ag j 14 5 []))) w)) (W prog (sb f147 [1,0,1,0,0,1,1,0,0,1,1,1]) (Ht A i k l (ag j 0 4 (ab m::ad (m<8)::ag j 5 14 []))) (aP 1 (aZ (λa w=>W prog (sb f147 [1,0,1,0,0,1,1,1]) a (aZ b (aP 0 (aU f147 [1,1] R))) w) (aZ b (aP 0 (aU f147 [1,1] R))))) w)):=by kernel_rfl
theorem WK (a:ar->aF):W prog (sb f147 [1,0,1,0,0,1,1,0,0,1,1,1]) (Ht A i k l j) (aP 1 (aZ (λd w=>W prog (sb f147 [1,0,1,0,0,1,1,1]) d (aZ a (aP 0 (aU f147 [1,1] R))) w) (aZ a (aP 0 (aU f147 [1,1] R))))) w=(pw A 256 i 1 λb=>cP w b (ah k) λc=>a (xQ A (i64.wrap (l+1)) (ab i::ah k::ag j 0 15 [ab i,ah k,jp b,ab (i64.wrap (l+1)),aO j 19])) c):=by kernel_rfl
def xW (e:Int) (s1:aX) (f:an) (a b:Nat) (c d:Int) (j:ar):ar:=ah e::.pointer (some s1)::ag j 0 7 (ae f a b::ab c::ab d::ag j 7 16 [])
def HO (a:Int) (j:ar):ar:=ah a::ag j 0 27 []
theorem J4:bf prog f148 [ah i,ba a,ae s b c] R w=(cG prog (c7 f148 [1,0,1,0,0]) (xW i (af a 0) s b c (b:Nat) 0 (ae s b c::bD 3 (ah 0::bD 18 []))) (aP 0 (aU f148 [1,1] R)) w):=by kernel_rfl
theorem Wg (d:ar->aF):W prog (sb f148 [1,0,1,0,0]) (xW i A s a b k l j) (aZ d (aP 0 (aU f148 [1,1] R))) w=(cond (l<k) (bA s a l 1 λe=>UD w e λx=>pw A 256 (h6 .u8 (IntKind.u8.wrap i) x) 1 λf=>dX w f λc=>d (xW (h6 .u64 (df .u64 i 8) c) A s a b k (i64.wrap (l+1)) (ag j 0 6 [.int .u8 x,ad (l<k),jp e,.int .u8 x,ah i,ah (df .u64 i 8),jp A,ah i,.int .u8 (IntKind.u8.wrap i),.int .u8 x,.int .u8 (h6 .u8 (IntKind.u8.wrap i) x),jp A,jp f,ah c,ah (h6 .u64 (df .u64 i 8) c),ab (i64.wrap (l+1)),aO j 22])) w) (W prog (sb f148 [1,1]) (HO i (jp A::ag j 0 7 (ae s a b::ab k::ab l::ad (l<k)::ag j 8 15 []))) (b7 f148 R) w)):=by kernel_rfl
theorem W_:W prog (sb f148 [1,1]) (HO i j) (b7 f148 R) w=(R (ah i) w):=by kernel_rfl
def xR (e:an) (a b:Nat) (c:an) (d f:Nat) (g h:Int) (j:ar):ar:=ag j 0 3 (ae e a b::ag j 3 6 (ae c d f::ab g::ab h::ag j 9 16 []))
def ut (c:an) (a b:Nat) (j:ar):ar:=ag j 0 3 (ae c a b::ag j 3 25 [])
def xS (e:an) (a b:Nat) (k:Int) (c:an) (d f:Nat) (g h i:Int) (j:ar):ar:=ag j 0 3 (ae e a b::ag j 3 1 (ah k::ag j 4 4 (ae c d f::ab g::ab h::ag j 8 3 (ab i::ag j 11 12 []))))
def Hu (e:an) (a b:Nat) (c:an) (d f:Nat) (g h:Int) (j:ar):ar:=ag j 0 3 (ae e a b::ag j 3 6 (ae c d f::ab g::ab h::ag j 9 16 []))
theorem IY:bf prog f239 [ae s a b] R w=(qU 0 (i64.wrap (8 * (a:Nat))) 1 (.cells (jE (Int.toNat (i64.wrap (8 * (a:Nat)))) [.int .u8 0]).toArray 5) w λc d=>cG prog (c7 f239 [1,1,0,1,0,0]) (xR (bo c) (Int.toNat 0) (Int.toNat (i64.wrap (8 * (a:Nat)))) s a b (a:Nat) 0 (ae s a b::undef::ah 0::bD 2 (ae s a b::eo a::ab (i64.wrap (8 * (a:Nat)))::ae (bo c) (Int.toNat 0) (Int.toNat (i64.wrap (8 * (a:Nat))))::bD 16 []))) (aP 0 (aU f239 [1,1,1] R)) d):=by kernel_rfl
theorem t5 (e:ar->aF):W prog (sb f239 [1,1,0,1,0,0]) (xR s a b t c d i k j) (aZ e (aP 0 (aU f239 [1,1,1] R))) w=(cond (k<i) (bA t c k 1 λf=>dX w f λx=>cG prog (c7 f239 [1,1,0,1,0,0,1,1,0,0,1,1,0,0]) (xS s a b x t c d i k 0 (ag j 0 4 (ag j 5 4 (ad (k<i)::jp f::ah x::ag j 13 12 [])))) (aP 2 (aP 1 (aZ (λg w=>W prog (sb f239 [1,1,0,1,0,0,1,1,1]) g (aZ e (aP 0 (aU f239 [1,1,1] R))) w) (aZ e (aP 0 (aU f239 [1,1,1] R)))))) w) (W prog (sb f239 [1,1,1]) (ut s a b (ag j 0 9 (ae t c d::ab i::ab k::ad (k<i)::ag j 10 15 []))) (b7 f239 R) w)):=by kernel_rfl
theorem WW:W prog (sb f239 [1,1,1]) (ut s a b j) (b7 f239 R) w=(jB 84 #[ae s a b] w λc d=>R (ah c) d):=by kernel_rfl
theorem t6 (g:ar->aF) (o:ar->aF):W prog (sb f239 [1,1,0,1,0,0,1,1,0,0,1,1,0,0]) (xS s a b i t c d k l m j) (aZ o (aP 2 (aP 1 (aZ (λr w=>W prog (sb f239 [1,1,0,1,0,0,1,1,1]) r (aZ g (aP 0 (aU f239 [1,1,1] R))) w) (aZ g (aP 0 (aU f239 [1,1,1] R))))))) w=(cond (m<8) (aS w #[.int .u8 (IntKind.u8.wrap i)] 5 λn q=>db 77 (ae s a b) (ae (bo n) 1 1) q λf h e p=>o (xS f h e (df .u64 i 8) t c d k l (i64.wrap (m+1)) (ag j 0 11 [ad (m<8),ae s a b,ah i,.int .u8 (IntKind.u8.wrap i),ae (bo n) 1 1,ae f h e,ah i,ah (df .u64 i 8),ab (i64.wrap (m+1)),aO j 20,aO j 21,aO j 22])) p) (W prog (sb f239 [1,1,0,1,0,0,1,1,1]) (Hu s a b t c d k l (ag j 0 4 (ah i::ag j 4 7 (ab m::ad (m<8)::ag j 12 11 [])))) (aZ g (aP 0 (aU f239 [1,1,1] R))) w)):=by kernel_rfl
theorem WX (e:ar->aF):W prog (sb f239 [1,1,0,1,0,0,1,1,1]) (Hu s a b t c d i k j) (aZ e (aP 0 (aU f239 [1,1,1] R))) w=(e (xR s a b t c d i (i64.wrap (k+1)) (ag j 0 22 [ab (i64.wrap (k+1)),aO j 23,aO j 24])) w):=by kernel_rfl
end
section
def NO (r:Int):Int:=if fG .u64 r 1=1 then h6 .u64 (df .u64 r 1) 14514072000185962306 else df .u64 r 1
def o5:Nat->Int->Int
 | 0,r=>r
 |n+1,r=>NO (o5 n r)
def wa (i:Nat):Int:=o5 8 i
def ji:a8:=(List.range 256).map wa
def nU (i:Nat):a8:=(List.range i).map wa++List.replicate (256 - i) 0
theorem LG (h:i<=256):(nU i).length=256:=by simp [nU];omega
theorem LH (h:i<256):(nU i).set i (wa i)=nU (i+1):=by
 unfold nU;rw [ku,jn,List.set_append];simp only [fZ,lJ,Nat.lt_irrefl,if_false,m3];obtain ⟨m,hm⟩:∃ m,256 - i=m+1:=⟨255 - i,by omega⟩;have e:256 - (i+1)=m:=by omega
 rw [hm,e,rq,yG];simp
theorem LI:nU 256=ji:=by simp [nU,ji]
theorem NP (n:Nat):us (List.replicate n 0)=List.replicate n (.int .u64 0):=by simp [us]
theorem NQ (l:a8) (i:Nat) (x:Int):(us l).set i (.int .u64 x)=us (l.set i x):=by simp [us]
theorem Cf (l:a8):iK.cells ⟨l⟩=us l:=rfl
abbrev z8:TypeId:=239
theorem J5 (w:ak):bb 147 [] w λv w'=>v=iK.val ⟨ji⟩/\ai w w':=by
 refine bd Tryz.func147 ?_;rw [IX];rintro b1 w1 r n;obtain ⟨h,g⟩:=bl r n;have h:av w1 b1 (us (nU 0)) z8:=by have e:us (nU 0)=List.replicate 256 (.int .u64 0):=NP 256;rw [e];exact h
 clear n;refine c8 mix (λm env u=>∃ (i:Nat) (p:ax),m=256 - i/\i<=256/\env=xQ ⟨b1,0,none⟩ i p/\ai w u/\av u b1 (us (nU i)) z8) 256 ⟨0,_,rfl,by omega,rfl,g,h⟩ ?_;rintro m env u ⟨i,p,rfl,C,rfl,l,b⟩;rw [VN];refine bc (λj=>?_) (λB=>?_)
 ·rw [kt (x:=(i:Int)) (by omega) (by omega)];refine c8 mix (λz c y=>∃ (k:Nat) (p:ax),z=8 - k/\k<=8/\c=uJ ⟨b1,0,none⟩ i (o5 k i) i k p/\y=u) 8 ⟨0,_,rfl,by omega,rfl,rfl⟩ ?_;rintro z c y ⟨k,D,rfl,F,rfl,rfl⟩;rw [VO,bH (x:=(k:Int)+1) (by omega) (by omega)];refine bc (λf=>?_) (λf=>?_)
  ·refine d' (λq=>?_) (λq=>?_)
   ·have e:o5 (k+1) i=h6 .u64 (df .u64 (o5 k i) 1) 14514072000185962306:=if_pos q;rw [<-e];exact ⟨8 - (k+1),by omega,k+1,_,rfl,by omega,rfl,rfl⟩
   ·have e:o5 (k+1) i=df .u64 (o5 k i) 1:=if_neg q;rw [<-e];exact ⟨8 - (k+1),by omega,k+1,_,rfl,by omega,rfl,rfl⟩
  ·have f:k=8:=by omega
   subst f;rw [WK,bH (x:=(i:Int)+1) (by omega) (by omega)];refine vf (by omega) (by omega) ?_;have A:0+(i:Int).toNat * 1=i:=by omega
   rw [A];refine rU b (o:=i) (by rw [hO,LG C];omega) λE a d=>?_
   rw [NQ,show o5 8 (i:Int)=wa i from rfl,LH (by omega)] at a;have G:=g.size;exact ⟨256 - (i+1),by omega,i+1,_,rfl,by omega,rfl,l.trans d λk j e=>by omega,a⟩
 ·have s:i=256:=by omega
  subst s;rw [WJ];rw [LI] at b;have t:ji.length=256:=by simp [ji]
  refine iK.aT ⟨ji⟩ t ⟨bO b (by rw [Cf];exact h1 (cY _)),?_⟩;refine dQ (vs:=us ji) b rfl (pC _) λE a d=>?_
  exact iK.aT ⟨ji⟩ t ⟨bO a (by rw [Cf];exact h1 (cY _)),rfl,rfl,l.trans d λk j e=>by have:=g.size;omega⟩
def n1 (r x:Int):Int:=h6 .u64 (df .u64 r 8) (ji.getD (h6 .u8 (IntKind.u8.wrap r) x).toNat 0)
theorem QN (x:Int):0<=IntKind.u8.wrap x/\IntKind.u8.wrap x<256:=by simp only [IntKind.wrap,IntKind.bits,IntKind.signed];simp;omega
def kA (l:a8):ax:=l.map (Value.int .u8)
theorem NR (h:l[i]?=some x):(kA l)[i]?=some (.int .u8 x):=by simp [kA,h]
theorem J6 {f:Int->Int->Int} {r:Int} (h:l[i]?=some x):(l.take (i+1)).foldl f r=f ((l.take i).foldl f r) x:=by rw [ff,h,yM];rfl
theorem LJ (r:Int) (C:av w tb (us ji) z8) {a:an} {n c:Nat} (B:bk w a (kA l)) (A:n=l.length) (E:n<=1000000) :
  bb 148 [.int .u64 r,.pointer (some ⟨tb,0,none⟩),.slice a n c] w λv w'=>v=.int .u64 (l.foldl n1 r)/\w'=w:=by
 subst A;refine bd Tryz.func148 ?_;rw [J4];refine c8 mix (λm env u=>∃ (i:Nat) (k:ax),m=l.length - i/\i<=l.length/\env=xW ((l.take i).foldl n1 r) ⟨tb,0,none⟩ a l.length c l.length i k/\u=w) l.length ⟨0,_,rfl,by omega,rfl,rfl⟩ ?_;rintro m env u ⟨i,k,rfl,F,rfl,rfl⟩;rw [Wg];refine bc (λt=>?_) (λs=>?_)
 ·obtain ⟨x,h⟩:∃ x,l[i]?=some x:=⟨_,bE (by omega)⟩;rcases B with he | ⟨b,o,rfl,p⟩
  ·have D:l.length=0:=by have:=congrArg List.length he;rwa [kA,fZ] at this
   omega
  refine ej (by omega) (by omega) ⟨x,by simpa using p i _ (NR h),?_⟩;have d:0<=h6 .u8 (IntKind.u8.wrap ((l.take i).foldl n1 r)) x/\h6 .u8 (IntKind.u8.wrap ((l.take i).foldl n1 r)) x<256:=QN _;have G:ji.length=256:=by simp [ji]
  refine vf d.1 d.2 ?_;generalize g:h6 .u8 (IntKind.u8.wrap ((l.take i).foldl n1 r)) x=q at d ⊢;obtain ⟨y,j⟩:∃ y,ji[q.toNat]?=some y:=⟨_,bE (by omega)⟩;refine ⟨y,by rw [Nat.mul_one];exact av.cell C (by simpa using tr j),?_⟩;rw [bH (x:=(i:Int)+1) (by omega) (by omega)];have e:(l.take (i+1)).foldl n1 r=h6 .u64 (df .u64 ((l.take i).foldl n1 r) 8) y:=by rw [J6 h];generalize (l.take i).foldl n1 r=z at g;show h6 .u64 (df .u64 z 8) (ji.getD (h6 .u8 (IntKind.u8.wrap z) x).toNat 0)=_;rw [g,dq,j];rfl
  dsimp only;rw [<-e];exact ⟨l.length - (i+1),by omega,i+1,_,rfl,by omega,rfl,rfl⟩
 ·have f:i=l.length:=by omega
  subst f;rw [W_,h0];exact ⟨rfl,rfl⟩
def wb (r:Int) (l:a8):Int:=h6 .u64 18446744073709551615 (l.foldl n1 (h6 .u64 18446744073709551615 r))
theorem I1 (r:Int) {a:an} {n c:Nat} (i:bk w a (kA l)) (h:n=l.length) (g:n<=1000000) :
  bb 113 [.int .u64 r,.slice a n c] w λv w'=>v=.int .u64 (wb r l)/\ai w w':=by
 refine bd Tryz.func113 ?_;rw [ID];refine aD (J5 w) ?_;rintro v w1 ⟨rfl,d⟩;have f:ji.length=256:=by simp [ji]
 refine iK.aT ⟨ji⟩ f ⟨rfl,?_⟩;refine ec (zs:=List.replicate 256 (.int .u64 0)) (vs:=us ji) (by rw [hO,yP];exact f) (pC _) λb k j au e=>?_
 refine aD (LJ _ au (i.new (d.new e)) h g) ?_;rintro v o ⟨rfl,rfl⟩;exact ⟨_,rfl,rfl,d.new e⟩
theorem J7 {a:an} {n c:Nat} (f:bk w a (kA l)) (e:n=l.length) (d:n<=1000000) :
  bb 84 [.slice a n c] w λv w'=>v=.int .u64 (wb 0 l)/\ai w w':=by
 refine bd Tryz.func84 ?_;rw [IW];refine aD (I1 0 f e d) ?_;rintro v w1 ⟨rfl,b⟩;exact ⟨_,rfl,rfl,b⟩
def sU:Nat->Int->Int
 | 0,x=>x
 |k+1,x=>df .u64 (sU k x) 8
def p2 (x:Int):a8:=(List.range 8).map λk=>IntKind.u8.wrap (sU k x)
theorem NS (x:Int):(p2 x).length=8:=by unfold p2;rw [fZ,lJ]
def o6 (ws:a8):a8:=(ws.map p2).flatten
def sl (ws:a8):Int:=wb 0 (o6 ws)
theorem Kx (ws:a8):(o6 ws).length=8 * ws.length:=by
 induction ws with
 |nil=>rfl
 |cons x ws a=>have:o6 (x::ws)=p2 x++o6 ws:=rfl;rw [this,dy,a];simp [p2];omega
theorem LK (ws:a8):cj (sl ws):=by unfold sl wb cj;generalize (List.foldl n1 _ _)=z;simp only [h6,IntKind.wrap,IntKind.bits,IntKind.signed];simp;omega
abbrev ue:TypeId:=5
def pZ (ws:a8) (i k:Nat):a8:=o6 (ws.take i)++((p2 (ws.getD i 0)).take k)
theorem J8 {a:an} {n c:Nat} (Xy:bk w a (us ws)) (Xw:n=ws.length) (XC:n<=10000) :
  bb 239 [.slice a n c] w λv w'=>v=.int .u64 (sl ws)/\ai w w':=by
 subst Xw;refine bd Tryz.func239 ?_;rw [IY,bH (x:=8 * (ws.length:Int)) (by omega) (by omega)];refine ⟨by omega,by omega,by omega,by omega,?_⟩;rintro b1 w1 G C;obtain ⟨O,J⟩:=bl G C;clear C;obtain ⟨inf,s,P,d,X⟩:=fV (T:=ue) (z:=.int .u8 0) (n:=1) (m:=1) (by kernel_rfl);have Q:Int.toNat (8 * (ws.length:Int))=8 * ws.length:=by omega
 have A:a1 w1 ue 1 (some ⟨b1,0,none⟩) 0 (8 * ws.length) (kA []):=by refine ⟨rfl,.inr ⟨b1,_,rfl,O,by omega,by unfold maxLen;omega,?_,by simp [kA]⟩⟩;rw [Q];simp [jE]
 refine c8 mix (λm env u=>∃ (i:Nat) (a2:an) (pc:Nat) (E:ax),m=ws.length - i/\i<=ws.length/\env=xR a2 (8 * i) pc a ws.length c ws.length i E/\ai w u/\a1 u ue 1 a2 (8 * i) pc (kA (o6 (ws.take i)))/\∀ k,aL a2 k->w.heap.size<=k) ws.length
  ⟨0,some ⟨b1,0,none⟩,8 * ws.length,_,rfl,by omega,by rw [Q];rfl,J,A,λk S=>?_⟩ ?_
 ·obtain ⟨o,t⟩:=S;simp at t <;> omega
 rintro m env u ⟨i,a2,pc,E,rfl,XD,rfl,h,t,L⟩;rw [t5];refine bc (λXv=>?_) (λZ=>?_)
 ·obtain ⟨x,N⟩:∃ x,ws[i]?=some x:=⟨_,bE (by omega)⟩;have D:ws.getD i 0=x:=by rw [dq,N];rfl
  have M:=Xy.new h;rcases M with he | ⟨b,o,rfl,Y⟩
  ·have XB:ws.length=0:=by have:=congrArg List.length he;rwa [us,fZ] at this
   omega
  refine ej (by omega) (by omega) ⟨x,by simpa using Y i _ (tr N),?_⟩;refine c8 mix (λU f y=>∃ (k:Nat) (a2:an) (pc:Nat) (E:ax),U=8 - k/\k<=8/\f=xS a2 (8 * i+k) pc (sU k x) (some ⟨b,o,none⟩) ws.length c ws.length i k E/\ai w y/\a1 y ue 1 a2 (8 * i+k) pc (kA (pZ ws i k))/\∀ k,aL a2 k->w.heap.size<=k) 8
   ⟨0,a2,pc,_,rfl,by omega,rfl,h,by simpa [pZ] using t,L⟩ ?_
  rintro U f y ⟨k,g0,ho,Xz,rfl,S,rfl,j,l,p⟩;rw [t6];refine bc (λg=>?_) (λg=>?_)
  ·have B:a1 y ue inf.size g0 (8 * i+k) ho (kA (pZ ws i k)):=by rw [d];exact l
   refine oI (vs:=[.int .u8 (IntKind.u8.wrap (sU k x))]) Tryz.underlying77 s P (by rw [d];rfl) (by omega) B (by rw [d];rfl) (by intro v al;simp at al;subst al;rfl) (by omega) (by omega) ?_;intro XA ap r XE W R I F;rw [d] at R;rw [bH (x:=(k:Int)+1) (by omega) (by omega)];refine ⟨8 - (k+1),by omega,k+1,ap,r,_,rfl,by omega,rfl,sF j I p,?_,?_⟩
   ·have e:kA (pZ ws i k)++[Value.int .u8 (IntKind.u8.wrap (sU k x))]=kA (pZ ws i (k+1)):=by unfold pZ;rw [D,ff,show (p2 x)[k]?=some (IntKind.u8.wrap (sU k x)) by simp [p2,j6 (show k<8 by omega)]];simp [kA]
    rw [<-e];exact R
   ·intro q Xx;rcases F q Xx with e | e
    ·exact p q e
    ·have:=j.size;omega
  ·have g:k=8:=by omega
   subst g;rw [WX,bH (x:=(i:Int)+1) (by omega) (by omega)];refine ⟨ws.length - (i+1),by omega,i+1,g0,ho,_,rfl,by omega,rfl,j,?_,p⟩;have e:pZ ws i 8=o6 (ws.take (i+1)):=by
    have V:ws.take (i+1)=ws.take i++[x]:=by rw [ff,N];rfl
    unfold pZ o6;rw [D,V,jn,BH,h1 (i:=8) (by rw [NS];omega)];simp
   rw [e] at l;exact l
 ·have H:i=ws.length:=by omega
  subst H;rw [WW];rw [h0] at t;refine aD (J7 t.rd (Kx ws).symm (by omega)) ?_;rintro v XF ⟨rfl,K⟩;exact ⟨_,rfl,rfl,h.new K⟩
end
section
def qP (lines n:Nat):a8:=(((List.replicate (lines * 8) 0).set 0 1).set 1 1).set 8 (oy 1 1 (nG n))
def pU:Nat->Nat->a8->a8
 | 0,_,ws=>ws
 |k+1,c,ws=>pU k (c+1) (ws.set (24+c) 1)
def pV:Nat->Nat->a8->a8
 | 0,_,ws=>ws
 |k+1,l,ws=>pV k (l+1) (ws.set (l * 8) 256)
def fmt (lines n:Nat):a8:=pV (lines - 96) 96 (pU 6 0 (qP lines n))
theorem OP (n:Nat) (x:Int):List.replicate n (Value.int .u64 x)=us (List.replicate n x):=by simp [us]
theorem OQ (h:n<=5):0<=oy 1 1 (nG n)/\oy 1 1 (nG n)<18446744073709551616:=by have:=Fc h;unfold oy;omega
def pW (ws:a8):Prop:=∀ x ∈ ws,0<=x/\x<18446744073709551616
theorem pW.set {ws:a8} (h:pW ws) {x:Int} (b:0<=x/\x<18446744073709551616) (i:Nat):pW (ws.set i x):=λy c=>by
 rcases lK c with a | rfl
 ·exact h y a
 ·exact b
abbrev uf:TypeId:=30
theorem vh {len:Nat} {i:Int} {K:aX->aF} (au:av u b (us ws) uf) (g:ai w0 u) (c:w0.heap.size<=b) (a:0<=i) (j:i<ws.length) (hlen:len=ws.length)
  (f:∀ bx bw,av bw b (us (ws.set i.toNat x)) uf->ai w0 bw->K bx bw):bA (some ⟨b,0,none⟩) len i 1 λbx=>(∃ bw,u.cell? bx=some bw)/\u.frozen? bx=false/\∀ w',w'=u.setCell bx (.int .u64 x)->K bx w':=by
 refine ej a (by omega) ?_;have e:0+i.toNat * 1=i.toNat:=by omega
 rw [e];have d:∃ y,ws[i.toNat]?=some y:=⟨_,bE (by omega)⟩;obtain ⟨y,h⟩:=d;refine ⟨⟨_,au.cell (tr h)⟩,au.frozen,?_⟩;rintro w' rfl;refine f _ _ ?_ (ao.setCell g (.inr c) _);have:=au.setCell (i:=i.toNat) (.int .u64 x);rwa [show (us ws).set i.toNat (.int .u64 x)=us (ws.set i.toNat x) by simp [us,iH]] at this
theorem LL {aH:Nat} {s:aN} (h:ea w b aH s) {lines:Nat} (X:s.words.length=lines * 8) (U:98<=lines) (Q:lines<=256) (aq:s.down=false) (T:1<=n) (J:n<=5) :
  bb 75 [ptr b,.int .i64 n] w λv w'=>v=.int .i64 0/\ea w' b aH ⟨fmt lines n,false⟩/\ao (λk=>k=aH) w w':=by
 have hdiv:s.words.length / 8=lines:=by omega
 have N:=Fc J;refine bd Tryz.func75 ?_;rw [ptr,WN];refine aD (K6 _ T J) ?_;rintro v w1 ⟨rfl,rfl⟩;refine ⟨_,_,rfl,di rfl ?_⟩;refine aD (yc h) ?_;rintro v w1 ⟨rfl,rfl⟩;refine ⟨_,rfl,bc (λL=>by omega) λ_=>?_⟩
 refine aD (FD h) ?_;rintro v w1 ⟨rfl,rfl⟩;refine ⟨_,rfl,di (by simp [aq]) ?_⟩;refine aD (yc h) ?_;rintro v w1 ⟨rfl,rfl⟩;refine ⟨_,rfl,?_⟩;rw [hdiv];refine aD (NK _ (by omega) (by omega)) ?_;rintro v w1 ⟨rfl,rfl⟩;refine ⟨_,rfl,by omega,by omega,by omega,by omega,?_⟩;have S:Int.toNat ((lines:Int) * 8)=lines * 8:=by omega
 rw [S,Dj,OP];rintro b1 Z K E;obtain ⟨d,g⟩:=bl K E;replace d:av Z b1 (us (List.replicate (lines * 8) 0)) uf:=d;clear E;have j:w1.heap.size<=b1:=by omega
 refine aD (ON _) ?_;rintro v Xv ⟨rfl,rfl⟩;refine ⟨_,_,rfl,?_⟩;refine vh (len:=lines * 8) (i:=0) (x:=1) d g j (by omega) (by simp;omega) (by simp) ?_;intro bx Xw F z;refine vh F z j (by omega) (by simp;omega) (by simp) ?_;intro bx Xx G A;refine aD (I0 _ _) ?_;rintro v Xy ⟨rfl,q⟩;refine ⟨_,rfl,?_⟩;refine aD (IU _ (by omega) (by omega) N.1) ?_;rintro v Xz ⟨e,rfl,rfl⟩;refine ⟨_,_,rfl,?_⟩;have M:wX 1 1 (nG n)=oy 1 1 (nG n):=by unfold wX;rw [if_pos (by omega)]
 rw [M];refine vh (ai.aj q G) (A.new q) j (by decide) (by simp [m'];omega) (by simp) ?_;intro bx XA r B;have y:(((List.replicate (lines * 8) 0).set (Int.toNat 0) 1).set (Int.toNat 1) 1).set (m' 1 16 0).toNat (oy 1 1 (nG n))=qP lines n:=rfl;rw [y] at r;have p:(qP lines n).length=lines * 8:=by simp [qP]
 have O:pW (qP lines n):=((pW.set (pW.set (λx Y=>by simp at Y <;> omega) (by omega) _) (by omega) _).set (OQ J) _);clear y d F G g z A q;refine c8 mix (λm env u=>∃ (c:Nat) (ws:a8) (H:ax),m=6 - c/\c<=6/\env=xy ⟨b,0,none⟩ (some ⟨b1,0,none⟩) (lines * 8) (lines * 8) c H/\av u b1 (us ws) uf/\ai w1 u/\ws.length=lines * 8/\pW ws/\pU (6 - c) c ws=pU 6 0 (qP lines n)) 6
  ⟨0,_,_,rfl,by omega,rfl,r,B,p,O,rfl⟩ ?_
 rintro m env u ⟨c,ws,H,rfl,L,rfl,au,l,hlen,hw,a⟩;rw [Ur];refine bc (λI=>?_) (λI=>?_)
 ·refine aD (OO _ _) ?_;rintro v bG ⟨rfl,C⟩;have D:m' 3 6 (c:Int)=24+c:=by unfold m';rw [if_neg (by omega)];omega
  refine ⟨_,rfl,?_⟩;rw [D];refine vh (ai.aj C au) (l.new C) j (by omega) (by omega) (by omega) ?_;intro bx P d g;rw [bH (by omega) (by omega)];refine ⟨6 - (c+1),by omega,c+1,_,_,rfl,by omega,rfl,d,g,by simpa using hlen,hw.set (by omega) _,?_⟩;rw [show 6 - c=6 - (c+1)+1 by omega,pU] at a;rw [show Int.toNat (24+(c:Int))=24+c by omega];exact a
 ·have o:c=6:=by omega
  subst o;rw [Vd];rw [m3,pU] at a;have R:pV (lines - 96) 96 ws=fmt lines n:=by rw [fmt,<-a]
  clear a;refine c8 mix (λm env u=>∃ (c:Nat) (ws:a8) (H:ax),m=lines - c/\96<=c/\c<=lines/\env=xz ⟨b,0,none⟩ (some ⟨b1,0,none⟩) (lines * 8) (lines * 8) c H/\av u b1 (us ws) uf/\ai w1 u/\ws.length=lines * 8/\pW ws/\pV (lines - c) c ws=fmt lines n) (lines - 96)
   ⟨96,_,_,rfl,by omega,by omega,rfl,au,l,hlen,hw,R⟩ ?_
  clear R au l hlen hw r B I L;rintro m env u ⟨c,ws,H,rfl,L,V,rfl,au,l,hlen,hw,a⟩;rw [Us];refine aD (yc (h.new l)) ?_;rintro v bG ⟨rfl,rfl⟩;refine ⟨_,rfl,?_⟩;rw [hdiv];refine bc (λI=>?_) (λI=>?_)
  ·refine aD (rj _ (by omega) (by omega)) ?_;rintro v P ⟨rfl,rfl⟩;refine ⟨_,rfl,?_⟩;refine aD (Kv _) ?_;rintro v P ⟨rfl,rfl⟩;refine ⟨_,_,rfl,?_⟩;refine vh au l j (by omega) (by omega) (by omega) ?_;intro bx P d g;rw [bH (by omega) (by omega)];refine ⟨lines - (c+1),by omega,c+1,_,_,rfl,by omega,by omega,rfl,d,g,by simpa using hlen,hw.set (by omega) _,?_⟩;rw [show lines - c=lines - (c+1)+1 by omega,pV] at a;rw [show Int.toNat ((c:Int) * 8)=c * 8 by omega];exact a
  ·have o:c=lines:=by omega
   subst o;rw [Ve];rw [m3,pV] at a;rw [<-hlen];refine aD (D8 (h.new l) 0 (fu au (by rw [vx];exact h1 (cY _))) hw (λh=>by cases h)) ?_;rintro v bq ⟨rfl,f,W⟩;have t:s.e_ 0 ws.length=0:=by unfold aN.e_;rw [if_neg (by omega),if_neg (by simp [aq])]
   rw [t] at f ⊢;rw [if_pos rfl] at f;refine ⟨_,rfl,rfl,?_,(ao.b9 l).trans W (λ_ _ h=>h)⟩;have:s.write (Int.toNat 0) ws=⟨fmt c n,false⟩:=by unfold aN.write;rw [<-a];simp [aq,X,hlen]
   rw [<-this];exact f
theorem Cg:∀ (k c:Nat) (ws:a8),(pU k c ws).length=ws.length
 | 0,_,_=>rfl
 |k+1,c,ws=>by rw [pU,Cg];simp
theorem Ch:∀ (k c:Nat) (ws:a8),(pV k c ws).length=ws.length
 | 0,_,_=>rfl
 |k+1,c,ws=>by rw [pV,Ch];simp
theorem D0 (lines n:Nat):(fmt lines n).length=lines * 8:=by rw [fmt,Ch,Cg];simp [qP]
def aE.fmt (F:aE):aE:={ F with nodes:=F.nodes.map λ_=>⟨Go.Proofs.YtmkljjbioomepaaGreat.fmt F.lines F.nodes.length,false⟩ }
def C4 (F:aE):Prop:=98<=F.lines/\F.lines<=256/\1<=F.nodes.length/\F.nodes.length<=5/\∀ n ∈ F.nodes,n.words.length=F.lines * 8/\n.down=false
theorem AM (X:bR):X.pure.nodes.length=X.nodes.length:=by simp [bR.pure]
theorem I2 (h:b6 A aw w aJ X) (I:C4 X.pure) :
  bb 47 [ptr aJ] w λv w'=>v=.int .i64 0/\dR A aw w aJ X.pure.fmt w' λ_=>True:=by
 obtain ⟨f1,f2,f3,f4,f5⟩:=I;rw [AM] at f3 f4;refine bd Tryz.func47 ?_;rw [ptr,VS];refine aD (DW h) ?_;rintro v w1 ⟨rfl,rfl⟩;refine ⟨_,rfl,?_⟩;let a:Nat:=X.nodes.length;refine c8 mix (λm env u=>∃ (i:Nat) (A':a6) (χ':Nat->Tag) (b:bR) (D:ax),m=a - i/\i<=a/\env=xq ⟨aJ,0,none⟩ a i D/\Next A A' aw χ' w1 u/\b6 A' χ' u aJ b/\b.nodes.length=a/\b.lines=X.lines/\(∀ x ∈ b.nodes,x.n.words.length=X.lines * 8/\x.n.down=false)/\
   b.pure={ X.pure with nodes:=List.replicate i ⟨fmt X.lines a,false⟩++X.pure.nodes.drop i }) a
  ⟨0,A,aw,X,_,rfl,by omega,rfl,h.refl (ao.refl _ _),h,rfl,rfl,λx f=>f5 x.n (cZ.2 ⟨x,f,rfl⟩),by simp⟩ ?_
 rintro m env u ⟨i,A',χ',b,D,rfl,L,rfl,o,g,j,r,l,d⟩;rw [Th];refine bc (λK=>?_) (λK=>?_)
 ·have t:i<b.nodes.length:=by omega
  obtain ⟨x,f⟩:∃ x,b.nodes[i]?=some x:=⟨_,bE t⟩;refine aD (Bq g f) ?_;rintro v bG ⟨rfl,rfl⟩;refine ⟨_,rfl,?_⟩;refine aD (DW g) ?_;rintro v bG ⟨rfl,rfl⟩;refine ⟨_,rfl,?_⟩;obtain ⟨z,B⟩:=l x (b5 f);rw [j];refine aD (LL (g.node i x f).node z f1 f2 B (by show 1<=a;omega) (by show a<=5;omega)) ?_;rintro v M ⟨rfl,c,J⟩;refine ⟨_,rfl,di rfl ?_⟩;obtain ⟨E,p,q⟩:=g.setNode f (J.mono λk _ e=>.inr e) c;rw [bH (by omega) (by omega)];refine ⟨a - (i+1),by omega,i+1,E,χ',_,_,rfl,by omega,rfl,o.trans p,q,by simpa using j,r,?_,?_⟩
  ·intro y C;rcases lK C with C | rfl
   ·exact l y C
   ·refine ⟨?_,rfl⟩;have:=c.len;show (fmt X.lines a).length=_;rw [D0]
  ·have hlen:X.pure.nodes.length=a:=AM X;have F:b.pure.nodes=List.replicate i ⟨fmt X.lines a,false⟩++X.pure.nodes.drop i:=by rw [d]
   have G:b.nodes.map hF.n=List.replicate i ⟨fmt X.lines a,false⟩++X.pure.nodes.drop i:=F;have H:({ b with nodes:=b.nodes.set i { x with n:=⟨fmt X.lines a,false⟩ } }:bR).pure={ b.pure with nodes:=(b.nodes.map hF.n).set i ⟨fmt X.lines a,false⟩ }:=by simp [bR.pure,iH]
   rw [H,G,d];congr 1;rw [BB _ _ (by simp)];simp only [yP,m3];rw [List.replicate_succ',lF];congr 1;rw [oZ (by omega)];rfl
 ·have s:i=a:=by omega
  subst s;rw [Uo];refine ⟨rfl,A',χ',b,o,g,?_,trivial⟩;rw [d];unfold aE.fmt;have hlen:X.pure.nodes.length=a:=AM X;congr 1;rw [List.drop_of_length_le (by omega),jJ,hlen,<-hlen];rw [List.map_const'];rfl
theorem J9 {n c lines:Nat} (d:1<=n/\n<=5) (a:98<=lines/\lines<=256):C4 (aE.init n c lines):=by refine ⟨a.1,a.2,by simp [aE.init];omega,by simp [aE.init];omega,?_⟩;intro x b;simp [aE.init] at b;rw [b.2];simp [sZ,aE.init];omega
def aE.fresh (n c lines:Nat):aE:=⟨lines,List.replicate n ⟨Go.Proofs.YtmkljjbioomepaaGreat.fmt lines n,false⟩,(List.range c).map (hl n),[]⟩
theorem Lh (n c lines:Nat):(aE.init n c lines).fmt=aE.fresh n c lines:=by simp [aE.fmt,aE.init,aE.fresh]
theorem D1 {n c lines:Nat} (q:1<=n/\n<=5) (b:1<=c/\c<=6) (p:98<=lines/\lines<=256):bb 23 [.int .i64 n,.int .i64 c,.int .i64 lines] w λv w'=>
  ∃ aJ A aw X,v=.tuple #[ptr aJ,.bool true]/\b6 A aw w' aJ X/\ai w w'/\(∀ k,A k->w.heap.size<=k)/\X.pure=aE.fresh n c lines:=by
 refine bd Tryz.func23 ?_;rw [V_];refine aD (OM q b ⟨by omega,p.2⟩) ?_;rintro v w1 ⟨aJ,A,aw,X,rfl,g,d,e,l⟩;refine ⟨_,_,rfl,di rfl (di rfl ?_)⟩;refine aD (I2 g (by rw [l];exact J9 q p)) ?_;rintro v s ⟨rfl,A',χ',r,a,h,i,_⟩;refine ⟨_,rfl,di rfl ⟨aJ,A',χ',r,rfl,h,?_,?_,?_⟩⟩
 ·refine d.trans a.aA (λk o f=>?_);have:=e k (g.e9 k f);omega
 ·intro k o;by_cases j:k<w1.heap.size
  ·rcases (a.iff k).1 o with b | b
   ·exact e k (g.e9 k (a.grow k j b))
   ·exact e k b.2.1
  ·have:=d.size;omega
 ·rw [i,l,Lh]
theorem v7 (h:b6 A aw w aJ X) {x:hF} (j:X.nodes[i]?=some x) {at_:Nat} (c:at_<x.n.words.length) (aq:x.n.down=false) :
  bb 20 [ptr aJ,.int .i64 i,.int .i64 at_] w λv w'=>v=.tuple #[.int .u64 (x.n.get at_),.bool true]/\ai w w':=by
 refine bd Tryz.func20 ?_;rw [ptr,WA];refine aD (Bq h j) ?_;rintro v bG ⟨rfl,rfl⟩;refine ⟨_,rfl,di rfl ?_⟩;refine aD (v' (h.node i x j).node at_ 1) ?_;have e:x.n.e_ at_ 1=0:=by unfold aN.e_;rw [if_neg (by omega),if_neg (by simp [aq])]
 rintro v r (⟨k,_⟩ | ⟨_,a,cap,rfl,p,q,_⟩)
 ·exact absurd e k
 have f:=q.rd;have l:x.n.read at_ 1=[x.n.get at_]:=by
  unfold aN.read;have g:x.n.words[at_]?=some (x.n.get at_):=aN.get_some c
  simp only [fD];rw [oZ c];have:x.n.words[at_]=x.n.get at_:=by rw [bE c] at g;exact me g
  rw [this];rfl
 rw [l] at f;rcases f with f | ⟨b,o,he,d⟩
 ·cases f
 simp at he;subst he;refine ⟨_,_,_,_,rfl,di rfl (di rfl (ej (by omega) (by decide) ?_))⟩;have:=d 0 _ rfl;refine ⟨_,this,rfl,p⟩
end
section
def eb (d:aM):Int:=d.words.headD 0
def ss (v:aQ) (d:aM):Bool:=if d.code=0 then decide ((d.words.length:Int)=v.v.iW) else if d.code=4\/d.code=5 then decide (d.words.length=0) else false
def kD (vs:List aQ) (ds:List aM):Bool:=decide (vs.length=ds.length) && (vs.zip ds).all λp=>ss p.1 p.2
structure Im where
 done:List aM
 ok:Bool
 a7:List (List aM)
 ask:Option (List aQ)
 dD:Bool
def batch (G:List (List aM)) (vs:List aQ):Im:=
 if vs.length=0 then ⟨[],true,G,none,false⟩ else match G with
 | []=>⟨[],false,[],some vs,false⟩
 |d::a=>if kD vs d then ⟨d,true,a,none,false⟩ else ⟨[],false,d::a,none,true⟩
abbrev pk:TypeId:=244
theorem rb {x:aM} (h:lu M w d x):bb 196 [d.val] w λv w'=>v=.int .u64 (eb x)/\ai w w':=by
 refine bd Tryz.func196 ?_;refine Eq.mpr (IH d.Code d.Words d.cQ d.cJ w _) ?_;rintro b1 w1 c f;obtain ⟨au,e⟩:=bl c f;have i:=h.len;refine ⟨_,_,_,au.cell rfl,d' (λj=>?_) (λj=>⟨_,_,_,au.cell rfl,?_⟩)⟩
 ·have:x.words=[]:=fF (by omega);refine ⟨by simp [eb,this],e⟩
 ·cases g:x.words with
  |nil=>rw [g] at i;simp at i <;> omega
  |cons y ys=>
   have a:=h.rd.new e;rw [g] at a;rcases a with a | ⟨b,o,he,k⟩
   ·cases a
   rw [he];refine ej (by omega) (by omega) ⟨y,?_,by simp [eb,g],e⟩;exact k 0 _ rfl
structure gn where
 hb:an
 dL:Nat
 gc:Nat
 aa:an
 da:Nat
 ac:Nat
 dD:Bool
def gn.cells (T:gn):ax:=[.slice T.hb T.dL T.gc,.slice T.aa T.da T.ac,.bool T.dD]
structure Row where
 a:an
 c:Nat
 raw:List bT
def kT (rows:List Row):ax:=rows.map λr=>.slice r.a r.raw.length r.c
def hS (A:a6) (w:ak) (a:an) (G:List (List aM)):Prop:=
 ∃ rows:List Row,rows.length=G.length/\bk w a (kT rows)/\(kT rows=[]\/gA A a)/\
  ∀ (i:Nat) (r:Row) (ds:List aM),rows[i]?=some r->G[i]?=some ds->bk w r.a (fW r.raw).flatten/\((fW r.raw).flatten=[]\/gA A r.a)/\g6 A w r.raw ds/\ds.length<=1024
theorem hS.nil (A:a6) (w:ak) (a:an):hS A w a []:=⟨[],rfl,.inl rfl,.inl rfl,λi r ds h=>by simp at h⟩
theorem hS.head {a:an} {d:List aM} (h:hS A w a (d::G)) :
  ∃ (b o:Nat) (r:Row),a=some ⟨b,o,none⟩/\w.cell? ⟨b,o,none⟩=some (.slice r.a r.raw.length r.c)/\bk w r.a (fW r.raw).flatten/\g6 A w r.raw d/\d.length<=1024/\hS A w (some ⟨b,o+1,none⟩) G:=by
 obtain ⟨rows,k,f,e,aq⟩:=h;cases rows with
 |nil=>simp at k
 |cons r rows=>
  rcases f with f | ⟨b,o,rfl,g⟩
  ·simp [kT] at f
  ·obtain ⟨l,x,n,p⟩:=aq 0 r d rfl rfl;refine ⟨b,o,r,rfl,g 0 _ rfl,l,n,p,rows,by simpa using k,?_,?_,λi t ds q s=>aq (i+1) t ds (by simpa using q) (by simpa using s)⟩
   ·refine .inr ⟨b,o+1,rfl,λj u hu=>?_⟩;rw [vn,Nat.add_comm 1 j];exact g (j+1) u (by simpa [kT] using hu)
   ·rcases e with e | e
    ·simp [kT] at e
    ·exact .inr e
theorem NT {x:aQ} {y:aM} (al:cL M w v x) (h:lu A w' d y):fits v d=ss x y:=by unfold fits ss;rw [h.code,h.len,al.eq];rfl
theorem Ky {raw:List bT} (al:et M w cp vs) (h:g6 A w' raw ds):ri cp raw=kD vs ds:=by
 unfold ri kD;rw [h.1,al.1];congr 1;obtain ⟨a,e⟩:=h;obtain ⟨c,f⟩:=al;induction vs generalizing raw ds cp with
 |nil=>
  cases cp with
  |nil=>simp
  |cons=>simp at c
 |cons v vs g=>
  cases cp with
  |nil=>simp at c
  |cons dI cp=>
   cases raw with
   |nil=>cases ds with
    |nil=>simp
    |cons=>simp at a
   |cons r raw=>cases ds with
    |nil=>simp at a
    |cons d ds=>simp only [List.zip_cons_cons,vv];rw [NT (f 0 dI v rfl rfl) (e 0 r d rfl rfl),g (by simpa using a) (λi v x al b=>e (i+1) v x (by simpa using al) (by simpa using b)) (by simpa using c) λi v x al b=>f (i+1) v x (by simpa using al) (by simpa using b)]
theorem yz (h:kD vs ds=true):vs.length=ds.length:=by unfold kD at h;simp at h;exact h.1
theorem qZ {G:List (List aM)} {vs:List aQ}:(batch G vs).done.length<=vs.length:=by
 unfold batch;split
 ·simp
 ·cases G with
  |nil=>simp
  |cons d G=>
   simp only;split
   ·rename_i h;rw [yz h];exact cY _
   ·simp
theorem D2 {T:gn} (L:ai w0 u) (Xw:w0.heap.size<=tb) (q:av u tb T.cells pk) (K:hS A w0 T.hb G) (n:T.dL=G.length) (w:T.dL<=T.gc)
  {aa:an} {ac:Nat} (Y:bk u aa (dP cp).flatten) (C:et M u cp vs) (Xv:vs.length<=1000000) :
  bb 116 [ptr tb,.slice aa cp.length ac] u λv bw=>∃ (e:gn) (dB:an) (dc:Nat) (raw:List bT),v=.tuple #[.slice dB raw.length dc,.bool (batch G vs).ok]/\av bw tb e.cells pk/\ao (λk=>k=tb) u bw/\
   bk w0 dB (fW raw).flatten/\g6 A w0 raw (batch G vs).done/\hS A w0 e.hb (batch G vs).a7/\e.dL=(batch G vs).a7.length/\e.dL<=e.gc/\e.dD=(T.dD || (batch G vs).dD)/\
   (match (batch G vs).ask with | none=>e.aa=T.aa/\e.da=T.da/\e.ac=T.ac | some _=>e.aa=aa/\e.da=vs.length/\e.ac=ac):=by
 refine bd Tryz.func116 ?_;rw [ptr,Wa];rw [C.1];have l:g6 A w0 [] []:=⟨rfl,λi v x al=>by simp at al⟩;unfold batch;refine d' (λS=>?_) (λS=>⟨_,_,_,q.cell rfl,d' (λP=>?_) (λP=>?_)⟩)
 ·have p:vs.length=0:=by omega
  rw [if_pos p];exact ⟨T,none,0,[],rfl,q,ao.refl _ _,.inl rfl,l,K,n,w,by simp,rfl,rfl,rfl⟩
 ·have p:¬ vs.length=0:=by omega
  have V:G=[]:=fF (by omega);subst V;rw [if_neg p];refine ⟨⟨_,q.cell rfl⟩,q.frozen,?_⟩;rintro bG rfl;exact ⟨{ T with aa:=aa,da:=vs.length,ac:=ac },none,0,[],rfl,q.setCell _,eX _ _ _ _,.inl rfl,l,hS.nil _ _ _,n,w,by simp,rfl,rfl,rfl⟩
 ·have p:¬ vs.length=0:=by omega
  rw [if_neg p];cases G with
  |nil=>simp at n <;> omega
  |cons d H=>
   simp only;obtain ⟨b,o,r,I,Q,F,t,W,N⟩:=K.head;have X:b≠tb:=by
    have P:b<w0.heap.size:=by
     have:=Q;unfold World.cell? at this;by_cases E:b<w0.heap.size
     ·exact E
     ·simp [yF (vq E)] at this
    omega
   have g:∀ z,ai w0 z->z.cell? ⟨b,o,none⟩=some (.slice r.a r.raw.length r.c):=by
    intro z au;have U:bk w0 (some ⟨b,o,none⟩) [.slice r.a r.raw.length r.c]:=.inr ⟨b,o,rfl,λj u hu=>by
     cases j with
     |zero=>simp at hu;subst hu;exact Q
     |succ j=>simp at hu⟩
    exact (U.new au).cell (j:=0) rfl
   refine ⟨_,_,_,q.cell rfl,?_⟩;rw [I];refine ej (by omega) (by omega) ?_;refine ⟨_,_,_,g u L,?_⟩;have D:ri cp r.raw=kD vs d:=Ky C t;have Z:=t.1;have hlen:cp.length=vs.length:=C.1;rw [<-hlen];refine aD (QL Y (F.new L) (by omega) (by omega)) ?_;rintro v Xx ⟨rfl,y⟩;rw [D];refine ⟨_,rfl,ev (λJ=>?_) (λJ=>?_)⟩
   ·have s:=ai.aj y q;rw [J];refine ⟨⟨_,s.cell rfl⟩,s.frozen,?_⟩;rintro bq rfl;exact ⟨{ T with dD:=true },none,0,[],rfl,s.setCell _,(ao.b9 y).trans (eX _ _ _ _) (λ_ _ h=>h),.inl rfl,l,K,n,w,by simp,rfl,rfl,rfl⟩
   ·rw [J];rintro bq O;have B:ai u bq:=by rw [O];exact y.drew
    have f:=ai.aj B q;refine ⟨λz=>ai bq z,ao.refl _ _,_,_,_,λz au=>(ai.aj au f).cell rfl,?_⟩;rw [I];refine ej (by omega) (by omega) ?_;refine ⟨_,_,_,λz au=>g z ((L.new B).new au),_,_,_,λz au=>(ai.aj au f).cell rfl,?_⟩;rw [I];refine ⟨by omega,by omega,by omega,by omega,by omega,⟨_,f.cell rfl⟩,f.frozen,?_⟩;rintro Xy rfl;have R:T.dL=H.length+1:=by simpa using n
    refine ⟨{ T with hb:=if (T.gc:Int)=1 then some ⟨b,o,none⟩ else (some ⟨b,o,none⟩:an).map (·.add (Int.toNat 1 * 1)),dL:=Int.toNat T.dL - Int.toNat 1,gc:=Int.toNat T.gc - Int.toNat 1 },r.a,r.c,r.raw,rfl,f.setCell _,(ao.b9 B).trans (eX _ _ _ _) (λ_ _ h=>h),F,t,?_,?_,?_,by simp,rfl,rfl,rfl⟩
    ·show hS A w0 (if (T.gc:Int)=1 then _ else _) H;split
     ·have:H=[]:=fF (by omega);rw [this];exact hS.nil _ _ _
     ·exact N
    ·show Int.toNat (T.dL:Int) - Int.toNat 1=H.length;omega
    ·show Int.toNat (T.dL:Int) - Int.toNat 1<=Int.toNat (T.gc:Int) - Int.toNat 1;omega
abbrev gI:TypeId:=125
theorem M_ {a:an} {cap:Nat} {xs:ax} (j:a1 u cF 9 a n cap xs) (h:n<=1000000000) {K:Nat->an->Nat->Nat->aF}
  (r:∀ b ap e g,b=u.heap.size->a1 g cF 9 ap (n+1) e (xs++v.cells)->ao (aL a) u g->(∀ k,aL ap k->aL a k\/u.heap.size<=k)->K b ap (n+1) e g) :
  ∀ b1 l,b1=u.heap.size->l=u.alloc (.cells v.cells.toArray cF)->∃ (ap:an) (d c:Nat),∃ g,(Builtin.append_ #[gI,gI] gI #[(.slice a n cap),(.slice (some ⟨b1,0,none⟩) 1 1)]).run prog l=.ok (.slice ap d c) g/\K b1 ap d c g:=by
 obtain ⟨inf,q,au,f,p⟩:=fV (T:=cF) (z:=.agg #[.int .i64 0,.int .i64 0,.int .i64 0,.int .i64 0,.int .u64 0,.int .u64 0,.slice none 0 0,.int .u64 0,.int .i64 0]) (n:=9) (m:=88) (by kernel_rfl);rw [<-f] at j;refine oI Tryz.underlying125 q au (by rw [f];rfl) (by omega) j (by rw [f];rfl) (aG.single v) h (by omega) ?_;intro b ap e g o i;rw [f] at i;exact r b ap e g o i
theorem Ci {ws:List aQ} (h:(batch G vs).ask=some ws):ws=vs:=by
 unfold batch at h;split at h
 ·cases h
 ·cases G with
  |nil=>simp at h;exact h.symm
  |cons d a=>simp only at h;split at h<;>cases h
theorem C5 (h:(batch G vs).ok=true):(batch G vs).ask=none/\(batch G vs).dD=false:=by
 unfold batch at h ⊢;split
 ·exact ⟨rfl,rfl⟩
 ·rename_i al;rw [if_neg al] at h;cases G with
  |nil=>simp at h
  |cons d b=>
   simp only at h ⊢;split
   ·exact ⟨rfl,rfl⟩
   ·rename_i a;rw [if_neg a] at h;simp at h
theorem E8 (w:ak) (hb:an) (dL gc:Nat):bb 115 [.slice hb dL gc] w λv w'=>∃ tb,v=ptr tb/\w.heap.size<=tb/\av w' tb (gn.cells ⟨hb,dL,gc,none,0,0,false⟩) pk/\ai w w':=by refine bd Tryz.func115 ?_;rw [I'];rintro b1 w1 a b;obtain ⟨au,c⟩:=bl a b;exact ⟨b1,rfl,by omega,au,c⟩
end
end Go.Proofs.YtmkljjbioomepaaGreat
