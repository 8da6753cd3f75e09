import Derived.Test.YtmkljjbioomepaaGreatProg
import Derived.Test.YtmkljjbioomepaaGreatc03
import Derived.Test.YtmkljjbioomepaaGreatc02
import Derived.Test.YtmkljjbioomepaaGreatc14
set_option linter.all false
set_option maxHeartbeats 4000000
set_option maxRecDepth 100000
namespace Go.Proofs.YtmkljjbioomepaaGreat
open Go.Proofs.Tryz Go.br
variable {A:a5} {X:bQ} {a:al} {b c aN i lines n:Nat} {l ws:bb} {w:ak} {x:Int} {aw:Nat->Tag}
section
open IntKind
variable (w:ak) (R:cA) {s t:al} {a b c d:Nat} {i k l m:Int} {A:aU} {j:aq}
theorem HR:bf prog f84 [ae s a b] R w=(jn 113 #[ah 0,ae s a b] w λc d=>R (ah c) d):=by kernel_rfl
theorem Hh:bf prog f113 [ah i,ae s a b] R w=(SI 147 #[] w λd h=>aR h ((List.replicate 256 (ah 0)).toArray) 239 λe g=>a8 g (af e 0) 0 d.cells λf=>jn 148 #[ah (hS .u64 18446744073709551615 i),a9 e,ae s a b] f λc j=>R (ah (hS .u64 18446744073709551615 c)) j):=by kernel_rfl
def mt (a:aU) (b:Int) (j:aq):aq:=.pointer (some a)::ag j 0 2 (ab b::ag j 2 20 [])
def GA (a:aU) (j:aq):aq:=.pointer (some a)::ag j 0 23 []
def uc (a:aU) (s1 s2 b s8:Int) (j:aq):aq:=.pointer (some a)::ab s1::ah s2::ab b::ag j 0 4 (ab s8::ag j 4 15 [])
def GB (a:aU) (s1 s2 b:Int) (j:aq):aq:=.pointer (some a)::ab s1::ah s2::ab b::ag j 0 20 []
theorem HS  : bf prog f147 [] R w=(aR w ((List.replicate 256 (ah 0)).toArray) 239 λb1 w1=>cu prog (c0 f147 [1,0,1,0,0]) (mt (af b1 0) 0 (bd 22 [])) (aO 0 (aQ f147 [1,1] R)) w1):=by kernel_rfl
theorem TJ (a:aq->aE):W prog (sb f147 [1,0,1,0,0]) (mt A i j) (aV a (aO 0 (aQ f147 [1,1] R))) w=(cond (i<256) (cu prog (c0 f147 [1,0,1,0,0,1,1,0,0,1,1,0,1,0,0]) (uc A i (u64.wrap i) i 0 (ad (i<256)::ab i::ab i::ah (u64.wrap i)::ag j 7 15 [])) (aO 2 (aV (λb w=>W prog (sb f147 [1,0,1,0,0,1,1,0,0,1,1,1]) b (aO 1 (aV (λb w=>W prog (sb f147 [1,0,1,0,0,1,1,1]) b (aV a (aO 0 (aQ f147 [1,1] R))) w) (aV a (aO 0 (aQ f147 [1,1] R))))) w) (aO 1 (aV (λb w=>W prog (sb f147 [1,0,1,0,0,1,1,1]) b (aV a (aO 0 (aQ f147 [1,1] R))) w) (aV a (aO 0 (aQ f147 [1,1] R))))))) w) (W prog (sb f147 [1,1]) (GA A (aF j 0::aF j 1::ab i::ad (i<256)::ag j 3 19 [])) (b0 f147 R) w)):=by kernel_rfl
theorem Us:W prog (sb f147 [1,1]) (GA A j) (b0 f147 R) w=(F5 w A λr=>a8 w A 0 r.cells λa=>F5 a A λb=>a=a/\R b.val a):=by kernel_rfl
theorem TK (b:aq->aE) (c:aq->aE):W prog (sb f147 [1,0,1,0,0,1,1,0,0,1,1,0,1,0,0]) (uc A i k l m j) (aV c (aO 2 (aV (λa w=>W prog (sb f147 [1,0,1,0,0,1,1,0,0,1,1,1]) a (aO 1 (aV (λa w=>W prog (sb f147 [1,0,1,0,0,1,1,1]) a (aV b (aO 0 (aQ f147 [1,1] R))) w) (aV b (aO 0 (aQ f147 [1,1] R))))) w) (aO 1 (aV (λa w=>W prog (sb f147 [1,0,1,0,0,1,1,1]) a (aV b (aO 0 (aQ f147 [1,1] R))) w) (aV b (aO 0 (aQ f147 [1,1] R)))))))) w=(cond (m<8) (cond (((fq .u64 k 1):Int) == 1) (c (uc A i (hS .u64 (db .u64 k 1) 14514072000185962306) l (i64.wrap (m+1)) (ag j 0 4 (ad (m<8)::ah k::ah (fq .u64 k 1)::ad (((fq .u64 k 1):Int) == 1)::ah k::ah (db .u64 k 1)::ah (hS .u64 (db .u64 k 1) 14514072000185962306)::aF j 11::aF j 12::ab (i64.wrap (m+1))::ag j 14 5 []))) w) (c (uc A i (db .u64 k 1) l (i64.wrap (m+1)) (ag j 0 4 (ad (m<8)::ah k::ah (fq .u64 k 1)::ad (((fq .u64 k 1):Int) == 1)::aF j 8::aF j 9::aF j 10::ah k::ah (db .u64 k 1)::ab (i64.wrap (m+1))::ag j 14 5 []))) w)) (W prog (sb f147 [1,0,1,0,0,1,1,0,0,1,1,1]) (GB A i k l (ag j 0 4 (ab m::ad (m<8)::ag j 5 14 []))) (aO 1 (aV (λa w=>W prog (sb f147 [1,0,1,0,0,1,1,1]) a (aV b (aO 0 (aQ f147 [1,1] R))) w) (aV b (aO 0 (aQ f147 [1,1] R))))) w)):=by kernel_rfl
theorem Ut (a:aq->aE):W prog (sb f147 [1,0,1,0,0,1,1,0,0,1,1,1]) (GB A i k l j) (aO 1 (aV (λc w=>W prog (sb f147 [1,0,1,0,0,1,1,1]) c (aV a (aO 0 (aQ f147 [1,1] R))) w) (aV a (aO 0 (aQ f147 [1,1] R))))) w=(kT A 256 i 1 λb=>cH w b (ah k) λd=>a (mt A (i64.wrap (l+1)) (ab i::ah k::ag j 0 15 [ab i,ah k,jp b,ab (i64.wrap (l+1)),aF j 19])) d):=by kernel_rfl
def xg (e:Int) (s1:aU) (f:al) (a b:Nat) (c d:Int) (j:aq):aq:=ah e::.pointer (some s1)::ag j 0 7 (ae f a b::ab c::ab d::ag j 7 16 [])
def G0 (a:Int) (j:aq):aq:=ah a::ag j 0 27 []
theorem I2:bf prog f148 [ah i,a9 a,ae s b c] R w=(cu prog (c0 f148 [1,0,1,0,0]) (xg i (af a 0) s b c (b:Nat) 0 (ae s b c::bd 3 (ah 0::bd 18 []))) (aO 0 (aQ f148 [1,1] R)) w):=by kernel_rfl
theorem T7 (d:aq->aE):W prog (sb f148 [1,0,1,0,0]) (xg i A s a b k l j) (aV d (aO 0 (aQ f148 [1,1] R))) w=(cond (l<k) (bk s a l 1 λe=>SJ w e λx=>kT A 256 (hS .u8 (IntKind.u8.wrap i) x) 1 λf=>dp w f λc=>d (xg (hS .u64 (db .u64 i 8) c) A s a b k (i64.wrap (l+1)) (ag j 0 6 [.int .u8 x,ad (l<k),jp e,.int .u8 x,ah i,ah (db .u64 i 8),jp A,ah i,.int .u8 (IntKind.u8.wrap i),.int .u8 x,.int .u8 (hS .u8 (IntKind.u8.wrap i) x),jp A,jp f,ah c,ah (hS .u64 (db .u64 i 8) c),ab (i64.wrap (l+1)),aF j 22])) w) (W prog (sb f148 [1,1]) (G0 i (jp A::ag j 0 7 (ae s a b::ab k::ab l::ad (l<k)::ag j 8 15 []))) (b0 f148 R) w)):=by kernel_rfl
theorem UZ:W prog (sb f148 [1,1]) (G0 i j) (b0 f148 R) w=(R (ah i) w):=by kernel_rfl
def xb (e:al) (a b:Nat) (c:al) (d f:Nat) (g h:Int) (j:aq):aq:=ag j 0 3 (ae e a b::ag j 3 6 (ae c d f::ab g::ab h::ag j 9 16 []))
def GC (c:al) (a b:Nat) (j:aq):aq:=ag j 0 3 (ae c a b::ag j 3 25 [])
def xc (e:al) (a b:Nat) (k:Int) (c:al) (d f:Nat) (g h i:Int) (j:aq):aq:=ag j 0 3 (ae e a b::ag j 3 1 (ah k::ag j 4 4 (ae c d f::ab g::ab h::ag j 8 3 (ab i::ag j 11 12 []))))
def GD (e:al) (a b:Nat) (c:al) (d f:Nat) (g h:Int) (j:aq):aq:=ag j 0 3 (ae e a b::ag j 3 6 (ae c d f::ab g::ab h::ag j 9 16 []))
theorem HT:bf prog f239 [ae s a b] R w=(qK 0 (i64.wrap (8 * (a:Nat))) 1 (.cells (jr (Int.toNat (i64.wrap (8 * (a:Nat)))) [.int .u8 0]).toArray 5) w λc d=>cu prog (c0 f239 [1,1,0,1,0,0]) (xb (bm c) (Int.toNat 0) (Int.toNat (i64.wrap (8 * (a:Nat)))) s a b (a:Nat) 0 (ae s a b::undef::ah 0::bd 2 (ae s a b::c9 a::ab (i64.wrap (8 * (a:Nat)))::ae (bm c) (Int.toNat 0) (Int.toNat (i64.wrap (8 * (a:Nat))))::bd 16 []))) (aO 0 (aQ f239 [1,1,1] R)) d):=by kernel_rfl
theorem TL (e:aq->aE):W prog (sb f239 [1,1,0,1,0,0]) (xb s a b t c d i k j) (aV e (aO 0 (aQ f239 [1,1,1] R))) w=(cond (k<i) (bk t c k 1 λf=>dp w f λx=>cu prog (c0 f239 [1,1,0,1,0,0,1,1,0,0,1,1,0,0]) (xc s a b x t c d i k 0 (ag j 0 4 (ag j 5 4 (ad (k<i)::jp f::ah x::ag j 13 12 [])))) (aO 2 (aO 1 (aV (λg w=>W prog (sb f239 [1,1,0,1,0,0,1,1,1]) g (aV e (aO 0 (aQ f239 [1,1,1] R))) w) (aV e (aO 0 (aQ f239 [1,1,1] R)))))) w) (W prog (sb f239 [1,1,1]) (GC s a b (ag j 0 9 (ae t c d::ab i::ab k::ad (k<i)::ag j 10 15 []))) (b0 f239 R) w)):=by kernel_rfl
theorem Uu:W prog (sb f239 [1,1,1]) (GC s a b j) (b0 f239 R) w=(jn 84 #[ae s a b] w λc d=>R (ah c) d):=by kernel_rfl
theorem TM (h:aq->aE) (o:aq->aE):W prog (sb f239 [1,1,0,1,0,0,1,1,0,0,1,1,0,0]) (xc s a b i t c d k l m j) (aV o (aO 2 (aO 1 (aV (λp w=>W prog (sb f239 [1,1,0,1,0,0,1,1,1]) p (aV h (aO 0 (aQ f239 [1,1,1] R))) w) (aV h (aO 0 (aQ f239 [1,1,1] R))))))) w=(cond (m<8) (aR w #[.int .u8 (IntKind.u8.wrap i)] 5 λn r=>c6 77 (ae s a b) (ae (bm n) 1 1) r λf g e q=>o (xc f g e (db .u64 i 8) t c d k l (i64.wrap (m+1)) (ag j 0 11 [ad (m<8),ae s a b,ah i,.int .u8 (IntKind.u8.wrap i),ae (bm n) 1 1,ae f g e,ah i,ah (db .u64 i 8),ab (i64.wrap (m+1)),aF j 20,aF j 21,aF j 22])) q) (W prog (sb f239 [1,1,0,1,0,0,1,1,1]) (GD s a b t c d k l (ag j 0 4 (ah i::ag j 4 7 (ab m::ad (m<8)::ag j 12 11 [])))) (aV h (aO 0 (aQ f239 [1,1,1] R))) w)):=by kernel_rfl
theorem Uv (e:aq->aE):W prog (sb f239 [1,1,0,1,0,0,1,1,1]) (GD s a b t c d i k j) (aV e (aO 0 (aQ f239 [1,1,1] R))) w=(e (xb s a b t c d i (i64.wrap (k+1)) (ag j 0 22 [ab (i64.wrap (k+1)),aF j 23,aF j 24])) w):=by kernel_rfl
end
section
def Mw (r:Int):Int:=if fq .u64 r 1=1 then hS .u64 (db .u64 r 1) 14514072000185962306 else db .u64 r 1
def oV:Nat->Int->Int
 | 0,r=>r
 |n+1,r=>Mw (oV n r)
def vC (i:Nat):Int:=oV 8 i
def iQ:bb:=(List.range 256).map vC
def nz (i:Nat):bb:=(List.range i).map vC++List.replicate (256 - i) 0
theorem K5 (h:i<=256):(nz i).length=256:=by simp [nz];omega
theorem K6 (h:i<256):(nz i).set i (vC i)=nz (i+1):=by
 unfold nz;rw [j9,iX,List.set_append];simp only [fC,lr,Nat.lt_irrefl,if_false,mU];obtain ⟨m,hm⟩:∃ m,256 - i=m+1:=⟨255 - i,by omega⟩;have e:256 - (i+1)=m:=by omega
 rw [hm,e,q',x3];simp
theorem K7:nz 256=iQ:=by simp [nz,iQ]
theorem My (n:Nat):us (List.replicate n 0)=List.replicate n (.int .u64 0):=by simp [us]
theorem Mz (l:bb) (i:Nat) (x:Int):(us l).set i (.int .u64 x)=us (l.set i x):=by simp [us]
theorem BN (l:bb):iu.cells ⟨l⟩=us l:=rfl
abbrev zr:TypeId:=239
theorem I3 (w:ak):a_ 147 [] w λv w'=>v=iu.val ⟨iQ⟩/\ai w w':=by
 refine bc Tryz.func147 ?_;rw [HS];rintro b1 w1 r n;obtain ⟨h,g⟩:=bl r n;have h:av w1 b1 (us (nz 0)) zr:=by have e:us (nz 0)=List.replicate 256 (.int .u64 0):=My 256;rw [e];exact h
 clear n;refine c2 mix (λm env u=>∃ (i:Nat) (p:ax),m=256 - i/\i<=256/\env=mt ⟨b1,0,none⟩ i p/\ai w u/\av u b1 (us (nz i)) zr) 256 ⟨0,_,rfl,by omega,rfl,g,h⟩ ?_;rintro m env u ⟨i,p,rfl,C,rfl,l,b⟩;rw [TJ];refine a' (λj=>?_) (λB=>?_)
 ·rw [j8 (x:=(i:Int)) (by omega) (by omega)];refine c2 mix (λz c y=>∃ (k:Nat) (p:ax),z=8 - k/\k<=8/\c=uc ⟨b1,0,none⟩ i (oV k i) i k p/\y=u) 8 ⟨0,_,rfl,by omega,rfl,rfl⟩ ?_;rintro z c y ⟨k,D,rfl,F,rfl,rfl⟩;rw [TK,bC (x:=(k:Int)+1) (by omega) (by omega)];refine a' (λf=>?_) (λf=>?_)
  ·refine dJ (λq=>?_) (λq=>?_)
   ·have e:oV (k+1) i=hS .u64 (db .u64 (oV k i) 1) 14514072000185962306:=if_pos q;rw [<-e];exact ⟨8 - (k+1),by omega,k+1,_,rfl,by omega,rfl,rfl⟩
   ·have e:oV (k+1) i=db .u64 (oV k i) 1:=if_neg q;rw [<-e];exact ⟨8 - (k+1),by omega,k+1,_,rfl,by omega,rfl,rfl⟩
  ·have f:k=8:=by omega
   subst f;rw [Ut,bC (x:=(i:Int)+1) (by omega) (by omega)];refine ns (by omega) (by omega) ?_;have A:0+(i:Int).toNat * 1=i:=by omega
   rw [A];refine rp b (o:=i) (by rw [hC,K5 C];omega) λE a d=>?_
   rw [Mz,show oV 8 (i:Int)=vC i from rfl,K6 (by omega)] at a;have G:=g.size;exact ⟨256 - (i+1),by omega,i+1,_,rfl,by omega,rfl,l.trans d λk j e=>by omega,a⟩
 ·have s:i=256:=by omega
  subst s;rw [Us];rw [K7] at b;have t:iQ.length=256:=by simp [iQ]
  refine iu.aS ⟨iQ⟩ t ⟨bK b (by rw [BN];exact hO (cO _)),?_⟩;refine dO (vs:=us iQ) b rfl (pr _) λE a d=>?_
  exact iu.aS ⟨iQ⟩ t ⟨bK a (by rw [BN];exact hO (cO _)),rfl,rfl,l.trans d λk j e=>by have:=g.size;omega⟩
def nB (r x:Int):Int:=hS .u64 (db .u64 r 8) (iQ.getD (hS .u8 (IntKind.u8.wrap r) x).toNat 0)
theorem N8 (x:Int):0<=IntKind.u8.wrap x/\IntKind.u8.wrap x<256:=by simp only [IntKind.wrap,IntKind.bits,IntKind.signed];simp;omega
def kh (l:bb):ax:=l.map (Value.int .u8)
theorem MA (h:l[i]?=some x):(kh l)[i]?=some (.int .u8 x):=by simp [kh,h]
theorem It {f:Int->Int->Int} {r:Int} (h:l[i]?=some x):(l.take (i+1)).foldl f r=f ((l.take i).foldl f r) x:=by rw [e7,h,x'];rfl
theorem K8 (r:Int) {tb:Nat} (C:av w tb (us iQ) zr) (B:bh w a (kh l)) (A:n=l.length) (E:n<=1000000) :
  a_ 148 [.int .u64 r,.pointer (some ⟨tb,0,none⟩),.slice a n c] w λv w'=>v=.int .u64 (l.foldl nB r)/\w'=w:=by
 subst A;refine bc Tryz.func148 ?_;rw [I2];refine c2 mix (λm env u=>∃ (i:Nat) (k:ax),m=l.length - i/\i<=l.length/\env=xg ((l.take i).foldl nB r) ⟨tb,0,none⟩ a l.length c l.length i k/\u=w) l.length ⟨0,_,rfl,by omega,rfl,rfl⟩ ?_;rintro m env u ⟨i,k,rfl,F,rfl,rfl⟩;rw [T7];refine a' (λt=>?_) (λs=>?_)
 ·obtain ⟨x,h⟩:∃ x,l[i]?=some x:=⟨_,bF (by omega)⟩;rcases B with he | ⟨b,o,rfl,p⟩
  ·have D:l.length=0:=by have:=congrArg List.length he;rwa [kh,fC] at this
   omega
  refine ed (by omega) (by omega) ⟨x,by simpa using p i _ (MA h),?_⟩;have d:0<=hS .u8 (IntKind.u8.wrap ((l.take i).foldl nB r)) x/\hS .u8 (IntKind.u8.wrap ((l.take i).foldl nB r)) x<256:=N8 _;have G:iQ.length=256:=by simp [iQ]
  refine ns d.1 d.2 ?_;generalize g:hS .u8 (IntKind.u8.wrap ((l.take i).foldl nB r)) x=q at d ⊢;obtain ⟨y,j⟩:∃ y,iQ[q.toNat]?=some y:=⟨_,bF (by omega)⟩;refine ⟨y,by rw [Nat.mul_one];exact av.cell C (by simpa using s_ j),?_⟩;rw [bC (x:=(i:Int)+1) (by omega) (by omega)];have e:(l.take (i+1)).foldl nB r=hS .u64 (db .u64 ((l.take i).foldl nB r) 8) y:=by rw [It h];generalize (l.take i).foldl nB r=z at g;show hS .u64 (db .u64 z 8) (iQ.getD (hS .u8 (IntKind.u8.wrap z) x).toNat 0)=_;rw [g,dD,j];rfl
  dsimp only;rw [<-e];exact ⟨l.length - (i+1),by omega,i+1,_,rfl,by omega,rfl,rfl⟩
 ·have f:i=l.length:=by omega
  subst f;rw [UZ,hv];exact ⟨rfl,rfl⟩
def vD (r:Int) (l:bb):Int:=hS .u64 18446744073709551615 (l.foldl nB (hS .u64 18446744073709551615 r))
theorem HZ (r:Int) (i:bh w a (kh l)) (h:n=l.length) (g:n<=1000000) :
  a_ 113 [.int .u64 r,.slice a n c] w λv w'=>v=.int .u64 (vD r l)/\ai w w':=by
 refine bc Tryz.func113 ?_;rw [Hh];refine aC (I3 w) ?_;rintro v w1 ⟨rfl,d⟩;have f:iQ.length=256:=by simp [iQ]
 refine iu.aS ⟨iQ⟩ f ⟨rfl,?_⟩;refine ea (zs:=List.replicate 256 (.int .u64 0)) (vs:=us iQ) (by rw [hC,yc];exact f) (pr _) λb k j au e=>?_
 refine aC (K8 _ au (i.new (d.new e)) h g) ?_;rintro v o ⟨rfl,rfl⟩;exact ⟨_,rfl,rfl,d.new e⟩
theorem Iu (f:bh w a (kh l)) (e:n=l.length) (d:n<=1000000) :
  a_ 84 [.slice a n c] w λv w'=>v=.int .u64 (vD 0 l)/\ai w w':=by
 refine bc Tryz.func84 ?_;rw [HR];refine aC (HZ 0 f e d) ?_;rintro v w1 ⟨rfl,b⟩;exact ⟨_,rfl,rfl,b⟩
def sv:Nat->Int->Int
 | 0,x=>x
 |k+1,x=>db .u64 (sv k x) 8
def pT (x:Int):bb:=(List.range 8).map λk=>IntKind.u8.wrap (sv k x)
theorem LX (x:Int):(pT x).length=8:=by unfold pT;rw [fC,lr]
def oW (ws:bb):bb:=(ws.map pT).flatten
def rV (ws:bb):Int:=vD 0 (oW ws)
theorem JS (ws:bb):(oW ws).length=8 * ws.length:=by
 induction ws with
 |nil=>rfl
 |cons x ws a=>have:oW (x::ws)=pT x++oW ws:=rfl;rw [this,dH,a];simp [pT];omega
theorem K9 (ws:bb):b8 (rV ws):=by unfold rV vD b8;generalize (List.foldl nB _ _)=z;simp only [hS,IntKind.wrap,IntKind.bits,IntKind.signed];simp;omega
abbrev tF:TypeId:=5
def pR (ws:bb) (i k:Nat):bb:=oW (ws.take i)++((pT (ws.getD i 0)).take k)
theorem Iv (Vw:bh w a (us ws)) (Vu:n=ws.length) (VA:n<=10000) :
  a_ 239 [.slice a n c] w λv w'=>v=.int .u64 (rV ws)/\ai w w':=by
 subst Vu;refine bc Tryz.func239 ?_;rw [HT,bC (x:=8 * (ws.length:Int)) (by omega) (by omega)];refine ⟨by omega,by omega,by omega,by omega,?_⟩;rintro b1 w1 G C;obtain ⟨O,J⟩:=bl G C;clear C;obtain ⟨inf,s,P,d,Z⟩:=fL (T:=tF) (z:=.int .u8 0) (n:=1) (m:=1) (by kernel_rfl);have Q:Int.toNat (8 * (ws.length:Int))=8 * ws.length:=by omega
 have A:a2 w1 tF 1 (some ⟨b1,0,none⟩) 0 (8 * ws.length) (kh []):=by refine ⟨rfl,.inr ⟨b1,_,rfl,O,by omega,by unfold maxLen;omega,?_,by simp [kh]⟩⟩;rw [Q];simp [jr]
 refine c2 mix (λm env u=>∃ (i:Nat) (pa:al) (pc:Nat) (E:ax),m=ws.length - i/\i<=ws.length/\env=xb pa (8 * i) pc a ws.length c ws.length i E/\ai w u/\a2 u tF 1 pa (8 * i) pc (kh (oW (ws.take i)))/\∀ k,aK pa k->w.heap.size<=k) ws.length
  ⟨0,some ⟨b1,0,none⟩,8 * ws.length,_,rfl,by omega,by rw [Q];rfl,J,A,λk S=>?_⟩ ?_
 ·obtain ⟨o,t⟩:=S;simp at t <;> omega
 rintro m env u ⟨i,pa,pc,E,rfl,VB,rfl,h,t,L⟩;rw [TL];refine a' (λVt=>?_) (λVs=>?_)
 ·obtain ⟨x,N⟩:∃ x,ws[i]?=some x:=⟨_,bF (by omega)⟩;have D:ws.getD i 0=x:=by rw [dD,N];rfl
  have M:=Vw.new h;rcases M with he | ⟨b,o,rfl,Vr⟩
  ·have Vz:ws.length=0:=by have:=congrArg List.length he;rwa [us,fC] at this
   omega
  refine ed (by omega) (by omega) ⟨x,by simpa using Vr i _ (s_ N),?_⟩;refine c2 mix (λU f y=>∃ (k:Nat) (pa:al) (pc:Nat) (E:ax),U=8 - k/\k<=8/\f=xc pa (8 * i+k) pc (sv k x) (some ⟨b,o,none⟩) ws.length c ws.length i k E/\ai w y/\a2 y tF 1 pa (8 * i+k) pc (kh (pR ws i k))/\∀ k,aK pa k->w.heap.size<=k) 8
   ⟨0,pa,pc,_,rfl,by omega,rfl,h,by simpa [pR] using t,L⟩ ?_
  rintro U f y ⟨k,V,W,Vx,rfl,S,rfl,j,l,p⟩;rw [TM];refine a' (λg=>?_) (λg=>?_)
  ·have B:a2 y tF inf.size V (8 * i+k) W (kh (pR ws i k)):=by rw [d];exact l
   refine ou (vs:=[.int .u8 (IntKind.u8.wrap (sv k x))]) Tryz.underlying77 s P (by rw [d];rfl) (by omega) B (by rw [d];rfl) (by intro v an;simp at an;subst an;rfl) (by omega) (by omega) ?_;intro Vy ap r VC Y R I F;rw [d] at R;rw [bC (x:=(k:Int)+1) (by omega) (by omega)];refine ⟨8 - (k+1),by omega,k+1,ap,r,_,rfl,by omega,rfl,r' j I p,?_,?_⟩
   ·have e:kh (pR ws i k)++[Value.int .u8 (IntKind.u8.wrap (sv k x))]=kh (pR ws i (k+1)):=by unfold pR;rw [D,e7,show (pT x)[k]?=some (IntKind.u8.wrap (sv k x)) by simp [pT,ka (show k<8 by omega)]];simp [kh]
    rw [<-e];exact R
   ·intro q Vv;rcases F q Vv with e | e
    ·exact p q e
    ·have:=j.size;omega
  ·have g:k=8:=by omega
   subst g;rw [Uv,bC (x:=(i:Int)+1) (by omega) (by omega)];refine ⟨ws.length - (i+1),by omega,i+1,V,W,_,rfl,by omega,rfl,j,?_,p⟩;have e:pR ws i 8=oW (ws.take (i+1)):=by
    have X:ws.take (i+1)=ws.take i++[x]:=by rw [e7,N];rfl
    unfold pR oW;rw [D,X,iX,AU,hO (i:=8) (by rw [LX];omega)];simp
   rw [e] at l;exact l
 ·have H:i=ws.length:=by omega
  subst H;rw [Uu];rw [hv] at t;refine aC (Iu t.rd (JS ws).symm (by omega)) ?_;rintro v VD ⟨rfl,K⟩;exact ⟨_,rfl,rfl,h.new K⟩
end
section
def qF (lines n:Nat):bb:=(((List.replicate (lines * 8) 0).set 0 1).set 1 1).set 8 (od 1 1 (ng n))
def pH:Nat->Nat->bb->bb
 | 0,_,ws=>ws
 |k+1,c,ws=>pH k (c+1) (ws.set (24+c) 1)
def pI:Nat->Nat->bb->bb
 | 0,_,ws=>ws
 |k+1,l,ws=>pI k (l+1) (ws.set (l * 8) 256)
def fmt (lines n:Nat):bb:=pI (lines - 96) 96 (pH 6 0 (qF lines n))
theorem N0 (n:Nat) (x:Int):List.replicate n (Value.int .u64 x)=us (List.replicate n x):=by simp [us]
theorem Np (h:n<=5):0<=od 1 1 (ng n)/\od 1 1 (ng n)<18446744073709551616:=by have:=Em h;unfold od;omega
def pJ (ws:bb):Prop:=∀ x ∈ ws,0<=x/\x<18446744073709551616
theorem pJ.set {ws:bb} (h:pJ ws) {x:Int} (b:0<=x/\x<18446744073709551616) (i:Nat):pJ (ws.set i x):=λy c=>by
 rcases nQ c with a | rfl
 ·exact h y a
 ·exact b
abbrev tG:TypeId:=30
theorem uL {u w0:ak} {len:Nat} {i:Int} {K:aU->aE} (au:av u b (us ws) tG) (g:ai w0 u) (c:w0.heap.size<=b) (a:0<=i) (j:i<ws.length) (hlen:len=ws.length)
  (f:∀ bw bq,av bq b (us (ws.set i.toNat x)) tG->ai w0 bq->K bw bq):bk (some ⟨b,0,none⟩) len i 1 λbw=>(∃ bq,u.cell? bw=some bq)/\u.frozen? bw=false/\∀ w',w'=u.setCell bw (.int .u64 x)->K bw w':=by
 refine ed a (by omega) ?_;have e:0+i.toNat * 1=i.toNat:=by omega
 rw [e];have d:∃ y,ws[i.toNat]?=some y:=⟨_,bF (by omega)⟩;obtain ⟨y,h⟩:=d;refine ⟨⟨_,au.cell (s_ h)⟩,au.frozen,?_⟩;rintro w' rfl;refine f _ _ ?_ (ao.setCell g (.inr c) _);have:=au.setCell (i:=i.toNat) (.int .u64 x);rwa [show (us ws).set i.toNat (.int .u64 x)=us (ws.set i.toNat x) by simp [us,il]] at this
theorem K_ {aI:Nat} {s:a0} (h:dY w b aI s) (X:s.words.length=lines * 8) (U:98<=lines) (Q:lines<=256) (ar:s.down=false) (T:1<=n) (J:n<=5) :
  a_ 75 [ptr b,.int .i64 n] w λv w'=>v=.int .i64 0/\dY w' b aI ⟨fmt lines n,false⟩/\ao (λk=>k=aI) w w':=by
 have hdiv:s.words.length / 8=lines:=by omega
 have N:=Em J;refine bc Tryz.func75 ?_;rw [ptr,UR];refine aC (Ko _ T J) ?_;rintro v w1 ⟨rfl,rfl⟩;refine ⟨_,_,rfl,cR rfl ?_⟩;refine aC (xy h) ?_;rintro v w1 ⟨rfl,rfl⟩;refine ⟨_,rfl,a' (λL=>by omega) λ_=>?_⟩
 refine aC (EF h) ?_;rintro v w1 ⟨rfl,rfl⟩;refine ⟨_,rfl,cR (by simp [ar]) ?_⟩;refine aC (xy h) ?_;rintro v w1 ⟨rfl,rfl⟩;refine ⟨_,rfl,?_⟩;rw [hdiv];refine aC (Ms _ (by omega) (by omega)) ?_;rintro v w1 ⟨rfl,rfl⟩;refine ⟨_,rfl,by omega,by omega,by omega,by omega,?_⟩;have S:Int.toNat ((lines:Int) * 8)=lines * 8:=by omega
 rw [S,CM,N0];rintro b1 Z K E;obtain ⟨d,g⟩:=bl K E;replace d:av Z b1 (us (List.replicate (lines * 8) 0)) tG:=d;clear E;have j:w1.heap.size<=b1:=by omega
 refine aC (NY _) ?_;rintro v Vr ⟨rfl,rfl⟩;refine ⟨_,_,rfl,?_⟩;refine uL (len:=lines * 8) (i:=0) (x:=1) d g j (by omega) (by simp;omega) (by simp) ?_;intro bw Vs F z;refine uL F z j (by omega) (by simp;omega) (by simp) ?_;intro bw Vt G A;refine aC (Ik _ _) ?_;rintro v Vu ⟨rfl,q⟩;refine ⟨_,rfl,?_⟩;refine aC (Hx _ (by omega) (by omega) N.1) ?_;rintro v Vv ⟨e,rfl,rfl⟩;refine ⟨_,_,rfl,?_⟩;have M:wc 1 1 (ng n)=od 1 1 (ng n):=by unfold wc;rw [if_pos (by omega)]
 rw [M];refine uL (ai.aj q G) (A.new q) j (by decide) (by simp [nG];omega) (by simp) ?_;intro bw Vw r B;have y:(((List.replicate (lines * 8) 0).set (Int.toNat 0) 1).set (Int.toNat 1) 1).set (nG 1 16 0).toNat (od 1 1 (ng n))=qF lines n:=rfl;rw [y] at r;have p:(qF lines n).length=lines * 8:=by simp [qF]
 have O:pJ (qF lines n):=((pJ.set (pJ.set (λx Y=>by simp at Y <;> omega) (by omega) _) (by omega) _).set (Np J) _);clear y d F G g z A q;refine c2 mix (λm env u=>∃ (c:Nat) (ws:bb) (H:ax),m=6 - c/\c<=6/\env=wT ⟨b,0,none⟩ (some ⟨b1,0,none⟩) (lines * 8) (lines * 8) c H/\av u b1 (us ws) tG/\ai w1 u/\ws.length=lines * 8/\pJ ws/\pH (6 - c) c ws=pH 6 0 (qF lines n)) 6
  ⟨0,_,_,rfl,by omega,rfl,r,B,p,O,rfl⟩ ?_
 rintro m env u ⟨c,ws,H,rfl,L,rfl,au,l,hlen,hw,a⟩;rw [R8];refine a' (λI=>?_) (λI=>?_)
 ·refine aC (NZ _ _) ?_;rintro v bE ⟨rfl,C⟩;have D:nG 3 6 (c:Int)=24+c:=by unfold nG;rw [if_neg (by omega)];omega
  refine ⟨_,rfl,?_⟩;rw [D];refine uL (ai.aj C au) (l.new C) j (by omega) (by omega) (by omega) ?_;intro bw P d g;rw [bC (by omega) (by omega)];refine ⟨6 - (c+1),by omega,c+1,_,_,rfl,by omega,rfl,d,g,by simpa using hlen,hw.set (by omega) _,?_⟩;rw [show 6 - c=6 - (c+1)+1 by omega,pH] at a;rw [show Int.toNat (24+(c:Int))=24+c by omega];exact a
 ·have o:c=6:=by omega
  subst o;rw [Tu];rw [mU,pH] at a;have R:pI (lines - 96) 96 ws=fmt lines n:=by rw [fmt,<-a]
  clear a;refine c2 mix (λm env u=>∃ (c:Nat) (ws:bb) (H:ax),m=lines - c/\96<=c/\c<=lines/\env=wU ⟨b,0,none⟩ (some ⟨b1,0,none⟩) (lines * 8) (lines * 8) c H/\av u b1 (us ws) tG/\ai w1 u/\ws.length=lines * 8/\pJ ws/\pI (lines - c) c ws=fmt lines n) (lines - 96)
   ⟨96,_,_,rfl,by omega,by omega,rfl,au,l,hlen,hw,R⟩ ?_
  clear R au l hlen hw r B I L;rintro m env u ⟨c,ws,H,rfl,L,V,rfl,au,l,hlen,hw,a⟩;rw [R9];refine aC (xy (h.new l)) ?_;rintro v bE ⟨rfl,rfl⟩;refine ⟨_,rfl,?_⟩;rw [hdiv];refine a' (λI=>?_) (λI=>?_)
  ·refine aC (q4 _ (by omega) (by omega)) ?_;rintro v P ⟨rfl,rfl⟩;refine ⟨_,rfl,?_⟩;refine aC (I7 _) ?_;rintro v P ⟨rfl,rfl⟩;refine ⟨_,_,rfl,?_⟩;refine uL au l j (by omega) (by omega) (by omega) ?_;intro bw P d g;rw [bC (by omega) (by omega)];refine ⟨lines - (c+1),by omega,c+1,_,_,rfl,by omega,by omega,rfl,d,g,by simpa using hlen,hw.set (by omega) _,?_⟩;rw [show lines - c=lines - (c+1)+1 by omega,pI] at a;rw [show Int.toNat ((c:Int) * 8)=c * 8 by omega];exact a
  ·have o:c=lines:=by omega
   subst o;rw [Tv];rw [mU,pI] at a;rw [<-hlen];refine aC (C3 (h.new l) 0 (fk au (by rw [sW];exact hO (cO _))) hw (λh=>by cases h)) ?_;rintro v bu ⟨rfl,f,W⟩;have t:s.e3 0 ws.length=0:=by unfold a0.e3;rw [if_neg (by omega),if_neg (by simp [ar])]
   rw [t] at f ⊢;rw [if_pos rfl] at f;refine ⟨_,rfl,rfl,?_,(ao.b3 l).trans W (λ_ _ h=>h)⟩;have:s.write (Int.toNat 0) ws=⟨fmt c n,false⟩:=by unfold a0.write;rw [<-a];simp [ar,X,hlen]
   rw [<-this];exact f
theorem BO:∀ (k c:Nat) (ws:bb),(pH k c ws).length=ws.length
 | 0,_,_=>rfl
 |k+1,c,ws=>by rw [pH,BO];simp
theorem BP:∀ (k c:Nat) (ws:bb),(pI k c ws).length=ws.length
 | 0,_,_=>rfl
 |k+1,c,ws=>by rw [pI,BP];simp
theorem Dh (lines n:Nat):(fmt lines n).length=lines * 8:=by rw [fmt,BP,BO];simp [qF]
def aM.fmt (F:aM):aM:={ F with nodes:=F.nodes.map λ_=>⟨Go.Proofs.YtmkljjbioomepaaGreat.fmt F.lines F.nodes.length,false⟩ }
def CS (F:aM):Prop:=98<=F.lines/\F.lines<=256/\1<=F.nodes.length/\F.nodes.length<=5/\∀ n ∈ F.nodes,n.words.length=F.lines * 8/\n.down=false
theorem z3 (X:bQ):X.pure.nodes.length=X.nodes.length:=by simp [bQ.pure]
theorem H0 (h:bZ A aw w aN X) (I:CS X.pure) :
  a_ 47 [ptr aN] w λv w'=>v=.int .i64 0/\d8 A aw w aN X.pure.fmt w' λ_=>True:=by
 obtain ⟨f1,f2,f3,f4,f5⟩:=I;rw [z3] at f3 f4;refine bc Tryz.func47 ?_;rw [ptr,T6];refine aC (yM h) ?_;rintro v w1 ⟨rfl,rfl⟩;refine ⟨_,rfl,?_⟩;let a:Nat:=X.nodes.length;refine c2 mix (λm env u=>∃ (i:Nat) (A':a5) (χ':Nat->Tag) (b:bQ) (D:ax),m=a - i/\i<=a/\env=wO ⟨aN,0,none⟩ a i D/\Next A A' aw χ' w1 u/\bZ A' χ' u aN b/\b.nodes.length=a/\b.lines=X.lines/\(∀ x ∈ b.nodes,x.n.words.length=X.lines * 8/\x.n.down=false)/\
   b.pure={ X.pure with nodes:=List.replicate i ⟨fmt X.lines a,false⟩++X.pure.nodes.drop i }) a
  ⟨0,A,aw,X,_,rfl,by omega,rfl,h.refl (ao.refl _ _),h,rfl,rfl,λx f=>f5 x.n (cW.2 ⟨x,f,rfl⟩),by simp⟩ ?_
 rintro m env u ⟨i,A',χ',b,D,rfl,L,rfl,o,g,j,r,l,d⟩;rw [Rf];refine a' (λK=>?_) (λK=>?_)
 ·have t:i<b.nodes.length:=by omega
  obtain ⟨x,f⟩:∃ x,b.nodes[i]?=some x:=⟨_,bF t⟩;refine aC (Ax g f) ?_;rintro v bE ⟨rfl,rfl⟩;refine ⟨_,rfl,?_⟩;refine aC (yM g) ?_;rintro v bE ⟨rfl,rfl⟩;refine ⟨_,rfl,?_⟩;obtain ⟨z,B⟩:=l x (cg f);rw [j];refine aC (K_ (g.node i x f).node z f1 f2 B (by show 1<=a;omega) (by show a<=5;omega)) ?_;rintro v M ⟨rfl,c,J⟩;refine ⟨_,rfl,cR rfl ?_⟩;obtain ⟨E,p,q⟩:=g.setNode f (J.mono λk _ e=>.inr e) c;rw [bC (by omega) (by omega)];refine ⟨a - (i+1),by omega,i+1,E,χ',_,_,rfl,by omega,rfl,o.trans p,q,by simpa using j,r,?_,?_⟩
  ·intro y C;rcases nQ C with C | rfl
   ·exact l y C
   ·refine ⟨?_,rfl⟩;have:=c.len;show (fmt X.lines a).length=_;rw [Dh]
  ·have hlen:X.pure.nodes.length=a:=z3 X;have F:b.pure.nodes=List.replicate i ⟨fmt X.lines a,false⟩++X.pure.nodes.drop i:=by rw [d]
   have G:b.nodes.map g_.n=List.replicate i ⟨fmt X.lines a,false⟩++X.pure.nodes.drop i:=F;have H:({ b with nodes:=b.nodes.set i { x with n:=⟨fmt X.lines a,false⟩ } }:bQ).pure={ b.pure with nodes:=(b.nodes.map g_.n).set i ⟨fmt X.lines a,false⟩ }:=by simp [bQ.pure,il]
   rw [H,G,d];congr 1;rw [AO _ _ (by simp)];simp only [yc,mU];rw [List.replicate_succ',ln];congr 1;rw [oM (by omega)];rfl
 ·have s:i=a:=by omega
  subst s;rw [R5];refine ⟨rfl,A',χ',b,o,g,?_,trivial⟩;rw [d];unfold aM.fmt;have hlen:X.pure.nodes.length=a:=z3 X;congr 1;rw [List.drop_of_length_le (by omega),iW,hlen,<-hlen];rw [List.map_const'];rfl
theorem Iw (d:1<=n/\n<=5) (a:98<=lines/\lines<=256):CS (aM.init n c lines):=by refine ⟨a.1,a.2,by simp [aM.init];omega,by simp [aM.init];omega,?_⟩;intro x b;simp [aM.init] at b;rw [b.2];simp [sD,aM.init];omega
def aM.fresh (n c lines:Nat):aM:=⟨lines,List.replicate n ⟨Go.Proofs.YtmkljjbioomepaaGreat.fmt lines n,false⟩,(List.range c).map (hF n),[]⟩
theorem K' (n c lines:Nat):(aM.init n c lines).fmt=aM.fresh n c lines:=by simp [aM.fmt,aM.init,aM.fresh]
theorem Di (q:1<=n/\n<=5) (b:1<=c/\c<=6) (p:98<=lines/\lines<=256):a_ 23 [.int .i64 n,.int .i64 c,.int .i64 lines] w λv w'=>
  ∃ aN A aw X,v=.tuple #[ptr aN,.bool true]/\bZ A aw w' aN X/\ai w w'/\(∀ k,A k->w.heap.size<=k)/\X.pure=aM.fresh n c lines:=by
 refine bc Tryz.func23 ?_;rw [Ui];refine aC (NX q b ⟨by omega,p.2⟩) ?_;rintro v w1 ⟨aN,A,aw,X,rfl,g,d,e,l⟩;refine ⟨_,_,rfl,cR rfl (cR rfl ?_)⟩;refine aC (H0 g (by rw [l];exact Iw q p)) ?_;rintro v s ⟨rfl,A',χ',r,a,h,i,_⟩;refine ⟨_,rfl,cR rfl ⟨aN,A',χ',r,rfl,h,?_,?_,?_⟩⟩
 ·refine d.trans a.az (λk o f=>?_);have:=e k (g.fj k f);omega
 ·intro k o;by_cases j:k<w1.heap.size
  ·rcases (a.iff k).1 o with b | b
   ·exact e k (g.fj k (a.grow k j b))
   ·exact e k b.2.1
  ·have:=d.size;omega
 ·rw [i,l,K']
theorem vE (h:bZ A aw w aN X) {x:g_} (j:X.nodes[i]?=some x) {at_:Nat} (c:at_<x.n.words.length) (ar:x.n.down=false) :
  a_ 20 [ptr aN,.int .i64 i,.int .i64 at_] w λv w'=>v=.tuple #[.int .u64 (x.n.get at_),.bool true]/\ai w w':=by
 refine bc Tryz.func20 ?_;rw [ptr,UD];refine aC (Ax h j) ?_;rintro v bE ⟨rfl,rfl⟩;refine ⟨_,rfl,cR rfl ?_⟩;refine aC (vA (h.node i x j).node at_ 1) ?_;have e:x.n.e3 at_ 1=0:=by unfold a0.e3;rw [if_neg (by omega),if_neg (by simp [ar])]
 rintro v r (⟨k,_⟩ | ⟨_,a,cap,rfl,p,q,_⟩)
 ·exact absurd e k
 have f:=q.rd;have l:x.n.read at_ 1=[x.n.get at_]:=by
  unfold a0.read;have g:x.n.words[at_]?=some (x.n.get at_):=a0.get_some c
  simp only [fY];rw [oM c];have:x.n.words[at_]=x.n.get at_:=by rw [bF c] at g;exact nN g
  rw [this];rfl
 rw [l] at f;rcases f with f | ⟨b,o,he,d⟩
 ·cases f
 simp at he;subst he;refine ⟨_,_,_,_,rfl,cR rfl (cR rfl (ed (by omega) (by decide) ?_))⟩;have:=d 0 _ rfl;refine ⟨_,this,rfl,p⟩
end
end Go.Proofs.YtmkljjbioomepaaGreat
