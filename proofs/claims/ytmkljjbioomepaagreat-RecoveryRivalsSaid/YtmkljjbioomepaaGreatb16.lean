import Derived.Test.YtmkljjbioomepaaGreatProg
import Derived.Test.YtmkljjbioomepaaGreatb03
import Derived.Test.YtmkljjbioomepaaGreatb02
import Derived.Test.YtmkljjbioomepaaGreatb14
set_option linter.all false
set_option maxHeartbeats 4000000
set_option maxRecDepth 100000
namespace Go.Proofs.YtmkljjbioomepaaGreat
open Go.Proofs.Tryz Go.bu
variable {A M:a3} {G:List (List aO)} {X:bL} {b aI i n tb:Nat} {d:bO} {ds:List aO} {l ws:bd} {cl:List aG} {u w w' w0:ak} {v:aG} {vs:List aW} {x:Int} {aw:Nat->Tag}
section
open IntKind
variable (w:ak) (R:cB) {s t:an} {a b c d:Nat} {i k l m:Int} {A:aS} {j:aq}
theorem Ig:bf prog f84 [ae s a b] R w=(jq 113 #[ah 0,ae s a b] w λc d=>R (ah c) d):=by kernel_rfl
theorem H2:bf prog f113 [ah i,ae s a b] R w=(S3 147 #[] w λd h=>aQ h ((List.replicate 256 (ah 0)).toArray) 239 λe j=>a' j (af e 0) 0 d.cells λg=>jq 148 #[ah (hZ .u64 18446744073709551615 i),a_ e,ae s a b] g λc f=>R (ah (hZ .u64 18446744073709551615 c)) f):=by kernel_rfl
def xw (a:aS) (b:Int) (j:aq):aq:=.pointer (some a)::ag j 0 2 (ab b::ag j 2 20 [])
def G0 (a:aS) (j:aq):aq:=.pointer (some a)::ag j 0 23 []
def uA (a:aS) (s1 s2 b s8:Int) (j:aq):aq:=.pointer (some a)::ab s1::ah s2::ab b::ag j 0 4 (ab s8::ag j 4 15 [])
def ut (a:aS) (s1 s2 b:Int) (j:aq):aq:=.pointer (some a)::ab s1::ah s2::ab b::ag j 0 20 []
theorem Ih  : bf prog f147 [] R w=(aQ w ((List.replicate 256 (ah 0)).toArray) 239 λb1 w1=>cv prog (c0 f147 [1,0,1,0,0]) (xw (af b1 0) 0 (bb 22 [])) (aM 0 (aP f147 [1,1] R)) w1):=by kernel_rfl
theorem Um (a:aq->aE):W prog (sb f147 [1,0,1,0,0]) (xw A i j) (aU a (aM 0 (aP f147 [1,1] R))) w=(cond (i<256) (cv prog (c0 f147 [1,0,1,0,0,1,1,0,0,1,1,0,1,0,0]) (uA A i (u64.wrap i) i 0 (ad (i<256)::ab i::ab i::ah (u64.wrap i)::ag j 7 15 [])) (aM 2 (aU (λb w=>W prog (sb f147 [1,0,1,0,0,1,1,0,0,1,1,1]) b (aM 1 (aU (λb w=>W prog (sb f147 [1,0,1,0,0,1,1,1]) b (aU a (aM 0 (aP f147 [1,1] R))) w) (aU a (aM 0 (aP f147 [1,1] R))))) w) (aM 1 (aU (λb w=>W prog (sb f147 [1,0,1,0,0,1,1,1]) b (aU a (aM 0 (aP f147 [1,1] R))) w) (aU a (aM 0 (aP f147 [1,1] R))))))) w) (W prog (sb f147 [1,1]) (G0 A (aF j 0::aF j 1::ab i::ad (i<256)::ag j 3 19 [])) (bZ f147 R) w)):=by kernel_rfl
theorem U8:W prog (sb f147 [1,1]) (G0 A j) (bZ f147 R) w=(Gu w A λr=>a' w A 0 r.cells λa=>Gu a A λb=>a=a/\R b.val a):=by kernel_rfl
theorem t0 (b:aq->aE) (c:aq->aE):W prog (sb f147 [1,0,1,0,0,1,1,0,0,1,1,0,1,0,0]) (uA A i k l m j) (aU c (aM 2 (aU (λa w=>W prog (sb f147 [1,0,1,0,0,1,1,0,0,1,1,1]) a (aM 1 (aU (λa w=>W prog (sb f147 [1,0,1,0,0,1,1,1]) a (aU b (aM 0 (aP f147 [1,1] R))) w) (aU b (aM 0 (aP f147 [1,1] R))))) w) (aM 1 (aU (λa w=>W prog (sb f147 [1,0,1,0,0,1,1,1]) a (aU b (aM 0 (aP f147 [1,1] R))) w) (aU b (aM 0 (aP f147 [1,1] R)))))))) w=(cond (m<8) (cond (((fx .u64 k 1):Int) == 1) (c (uA A i (hZ .u64 (db .u64 k 1) 14514072000185962306) l (i64.wrap (m+1)) (ag j 0 4 (ad (m<8)::ah k::ah (fx .u64 k 1)::ad (((fx .u64 k 1):Int) == 1)::ah k::ah (db .u64 k 1)::ah (hZ .u64 (db .u64 k 1) 14514072000185962306)::aF j 11::aF j 12::ab (i64.wrap (m+1))::ag j 14 5 []))) w) (c (uA A i (db .u64 k 1) l (i64.wrap (m+1)) (ag j 0 4 (ad (m<8)::ah k::ah (fx .u64 k 1)::ad (((fx .u64 k 1):Int) == 1)::aF j 8::aF j 9::aF j 10::ah k::ah (db .u64 k 1)::ab (i64.wrap (m+1))::ag j 14 5 []))) w)) (W prog (sb f147 [1,0,1,0,0,1,1,0,0,1,1,1]) (ut A i k l (ag j 0 4 (ab m::ad (m<8)::ag j 5 14 []))) (aM 1 (aU (λa w=>W prog (sb f147 [1,0,1,0,0,1,1,1]) a (aU b (aM 0 (aP f147 [1,1] R))) w) (aU b (aM 0 (aP f147 [1,1] R))))) w)):=by kernel_rfl
theorem U9 (a:aq->aE):W prog (sb f147 [1,0,1,0,0,1,1,0,0,1,1,1]) (ut A i k l j) (aM 1 (aU (λd w=>W prog (sb f147 [1,0,1,0,0,1,1,1]) d (aU a (aM 0 (aP f147 [1,1] R))) w) (aU a (aM 0 (aP f147 [1,1] R))))) w=(kZ A 256 i 1 λb=>cI w b (ah k) λc=>a (xw A (i64.wrap (l+1)) (ab i::ah k::ag j 0 15 [ab i,ah k,jp b,ab (i64.wrap (l+1)),aF j 19])) c):=by kernel_rfl
def xD (e:Int) (s1:aS) (f:an) (a b:Nat) (c d:Int) (j:aq):aq:=ah e::.pointer (some s1)::ag j 0 7 (ae f a b::ab c::ab d::ag j 7 16 [])
def Hg (a:Int) (j:aq):aq:=ah a::ag j 0 27 []
theorem I4:bf prog f148 [ah i,a_ a,ae s b c] R w=(cv prog (c0 f148 [1,0,1,0,0]) (xD i (af a 0) s b c (b:Nat) 0 (ae s b c::bb 3 (ah 0::bb 18 []))) (aM 0 (aP f148 [1,1] R)) w):=by kernel_rfl
theorem UP (d:aq->aE):W prog (sb f148 [1,0,1,0,0]) (xD i A s a b k l j) (aU d (aM 0 (aP f148 [1,1] R))) w=(cond (l<k) (bm s a l 1 λe=>S4 w e λx=>kZ A 256 (hZ .u8 (IntKind.u8.wrap i) x) 1 λf=>dr w f λc=>d (xD (hZ .u64 (db .u64 i 8) c) A s a b k (i64.wrap (l+1)) (ag j 0 6 [.int .u8 x,ad (l<k),jp e,.int .u8 x,ah i,ah (db .u64 i 8),jp A,ah i,.int .u8 (IntKind.u8.wrap i),.int .u8 x,.int .u8 (hZ .u8 (IntKind.u8.wrap i) x),jp A,jp f,ah c,ah (hZ .u64 (db .u64 i 8) c),ab (i64.wrap (l+1)),aF j 22])) w) (W prog (sb f148 [1,1]) (Hg i (jp A::ag j 0 7 (ae s a b::ab k::ab l::ad (l<k)::ag j 8 15 []))) (bZ f148 R) w)):=by kernel_rfl
theorem VA:W prog (sb f148 [1,1]) (Hg i j) (bZ f148 R) w=(R (ah i) w):=by kernel_rfl
def xx (e:an) (a b:Nat) (c:an) (d f:Nat) (g h:Int) (j:aq):aq:=ag j 0 3 (ae e a b::ag j 3 6 (ae c d f::ab g::ab h::ag j 9 16 []))
def G1 (c:an) (a b:Nat) (j:aq):aq:=ag j 0 3 (ae c a b::ag j 3 25 [])
def xy (e:an) (a b:Nat) (k:Int) (c:an) (d f:Nat) (g h i:Int) (j:aq):aq:=ag j 0 3 (ae e a b::ag j 3 1 (ah k::ag j 4 4 (ae c d f::ab g::ab h::ag j 8 3 (ab i::ag j 11 12 []))))
def G2 (e:an) (a b:Nat) (c:an) (d f:Nat) (g h:Int) (j:aq):aq:=ag j 0 3 (ae e a b::ag j 3 6 (ae c d f::ab g::ab h::ag j 9 16 []))
theorem Ii:bf prog f239 [ae s a b] R w=(qR 0 (i64.wrap (8 * (a:Nat))) 1 (.cells (jt (Int.toNat (i64.wrap (8 * (a:Nat)))) [.int .u8 0]).toArray 5) w λc d=>cv prog (c0 f239 [1,1,0,1,0,0]) (xx (bn c) (Int.toNat 0) (Int.toNat (i64.wrap (8 * (a:Nat)))) s a b (a:Nat) 0 (ae s a b::undef::ah 0::bb 2 (ae s a b::cX a::ab (i64.wrap (8 * (a:Nat)))::ae (bn c) (Int.toNat 0) (Int.toNat (i64.wrap (8 * (a:Nat))))::bb 16 []))) (aM 0 (aP f239 [1,1,1] R)) d):=by kernel_rfl
theorem t6 (e:aq->aE):W prog (sb f239 [1,1,0,1,0,0]) (xx s a b t c d i k j) (aU e (aM 0 (aP f239 [1,1,1] R))) w=(cond (k<i) (bm t c k 1 λf=>dr w f λx=>cv prog (c0 f239 [1,1,0,1,0,0,1,1,0,0,1,1,0,0]) (xy s a b x t c d i k 0 (ag j 0 4 (ag j 5 4 (ad (k<i)::jp f::ah x::ag j 13 12 [])))) (aM 2 (aM 1 (aU (λg w=>W prog (sb f239 [1,1,0,1,0,0,1,1,1]) g (aU e (aM 0 (aP f239 [1,1,1] R))) w) (aU e (aM 0 (aP f239 [1,1,1] R)))))) w) (W prog (sb f239 [1,1,1]) (G1 s a b (ag j 0 9 (ae t c d::ab i::ab k::ad (k<i)::ag j 10 15 []))) (bZ f239 R) w)):=by kernel_rfl
theorem U_:W prog (sb f239 [1,1,1]) (G1 s a b j) (bZ f239 R) w=(jq 84 #[ae s a b] w λc d=>R (ah c) d):=by kernel_rfl
theorem t7 (g:aq->aE) (o:aq->aE):W prog (sb f239 [1,1,0,1,0,0,1,1,0,0,1,1,0,0]) (xy s a b i t c d k l m j) (aU o (aM 2 (aM 1 (aU (λr w=>W prog (sb f239 [1,1,0,1,0,0,1,1,1]) r (aU g (aM 0 (aP f239 [1,1,1] R))) w) (aU g (aM 0 (aP f239 [1,1,1] R))))))) w=(cond (m<8) (aQ w #[.int .u8 (IntKind.u8.wrap i)] 5 λn p=>c9 77 (ae s a b) (ae (bn n) 1 1) p λf h e q=>o (xy f h e (db .u64 i 8) t c d k l (i64.wrap (m+1)) (ag j 0 11 [ad (m<8),ae s a b,ah i,.int .u8 (IntKind.u8.wrap i),ae (bn n) 1 1,ae f h e,ah i,ah (db .u64 i 8),ab (i64.wrap (m+1)),aF j 20,aF j 21,aF j 22])) q) (W prog (sb f239 [1,1,0,1,0,0,1,1,1]) (G2 s a b t c d k l (ag j 0 4 (ah i::ag j 4 7 (ab m::ad (m<8)::ag j 12 11 [])))) (aU g (aM 0 (aP f239 [1,1,1] R))) w)):=by kernel_rfl
theorem Va (e:aq->aE):W prog (sb f239 [1,1,0,1,0,0,1,1,1]) (G2 s a b t c d i k j) (aU e (aM 0 (aP f239 [1,1,1] R))) w=(e (xx s a b t c d i (i64.wrap (k+1)) (ag j 0 22 [ab (i64.wrap (k+1)),aF j 23,aF j 24])) w):=by kernel_rfl
end
section
def MA (r:Int):Int:=if fx .u64 r 1=1 then hZ .u64 (db .u64 r 1) 14514072000185962306 else db .u64 r 1
def o3:Nat->Int->Int
 | 0,r=>r
 |n+1,r=>MA (o3 n r)
def vO (i:Nat):Int:=o3 8 i
def iV:bd:=(List.range 256).map vO
def nI (i:Nat):bd:=(List.range i).map vO++List.replicate (256 - i) 0
theorem LB (h:i<=256):(nI i).length=256:=by simp [nI];omega
theorem LC (h:i<256):(nI i).set i (vO i)=nI (i+1):=by
 unfold nI;rw [ki,ja,List.set_append];simp only [ft,ly,Nat.lt_irrefl,if_false,mV];obtain ⟨m,hm⟩:∃ m,256 - i=m+1:=⟨255 - i,by omega⟩;have e:256 - (i+1)=m:=by omega
 rw [hm,e,rj,ym];simp
theorem LD:nI 256=iV:=by simp [nI,iV]
theorem MB (n:Nat):us (List.replicate n 0)=List.replicate n (.int .u64 0):=by simp [us]
theorem MC (l:bd) (i:Nat) (x:Int):(us l).set i (.int .u64 x)=us (l.set i x):=by simp [us]
theorem Cb (l:bd):iz.cells ⟨l⟩=us l:=rfl
abbrev zQ:TypeId:=239
theorem I5 (w:ak):a9 147 [] w λv w'=>v=iz.val ⟨iV⟩/\ai w w':=by
 refine bc Tryz.func147 ?_;rw [Ih];rintro b1 w1 r n;obtain ⟨h,g⟩:=bl r n;have h:av w1 b1 (us (nI 0)) zQ:=by have e:us (nI 0)=List.replicate 256 (.int .u64 0):=MB 256;rw [e];exact h
 clear n;refine c2 mix (λm env u=>∃ (i:Nat) (p:ax),m=256 - i/\i<=256/\env=xw ⟨b1,0,none⟩ i p/\ai w u/\av u b1 (us (nI i)) zQ) 256 ⟨0,_,rfl,by omega,rfl,g,h⟩ ?_;rintro m env u ⟨i,p,rfl,C,rfl,l,b⟩;rw [Um];refine a8 (λj=>?_) (λB=>?_)
 ·rw [kh (x:=(i:Int)) (by omega) (by omega)];refine c2 mix (λz c y=>∃ (k:Nat) (p:ax),z=8 - k/\k<=8/\c=uA ⟨b1,0,none⟩ i (o3 k i) i k p/\y=u) 8 ⟨0,_,rfl,by omega,rfl,rfl⟩ ?_;rintro z c y ⟨k,D,rfl,F,rfl,rfl⟩;rw [t0,bC (x:=(k:Int)+1) (by omega) (by omega)];refine a8 (λf=>?_) (λf=>?_)
  ·refine dY (λq=>?_) (λq=>?_)
   ·have e:o3 (k+1) i=hZ .u64 (db .u64 (o3 k i) 1) 14514072000185962306:=if_pos q;rw [<-e];exact ⟨8 - (k+1),by omega,k+1,_,rfl,by omega,rfl,rfl⟩
   ·have e:o3 (k+1) i=db .u64 (o3 k i) 1:=if_neg q;rw [<-e];exact ⟨8 - (k+1),by omega,k+1,_,rfl,by omega,rfl,rfl⟩
  ·have f:k=8:=by omega
   subst f;rw [U9,bC (x:=(i:Int)+1) (by omega) (by omega)];refine nC (by omega) (by omega) ?_;have A:0+(i:Int).toNat * 1=i:=by omega
   rw [A];refine rL b (o:=i) (by rw [hE,LB C];omega) λE a d=>?_
   rw [MC,show o3 8 (i:Int)=vO i from rfl,LC (by omega)] at a;have G:=g.size;exact ⟨256 - (i+1),by omega,i+1,_,rfl,by omega,rfl,l.trans d λk j e=>by omega,a⟩
 ·have s:i=256:=by omega
  subst s;rw [U8];rw [LD] at b;have t:iV.length=256:=by simp [iV]
  refine iz.aR ⟨iV⟩ t ⟨bJ b (by rw [Cb];exact hS (cQ _)),?_⟩;refine dQ (vs:=us iV) b rfl (pz _) λE a d=>?_
  exact iz.aR ⟨iV⟩ t ⟨bJ a (by rw [Cb];exact hS (cQ _)),rfl,rfl,l.trans d λk j e=>by have:=g.size;omega⟩
def nP (r x:Int):Int:=hZ .u64 (db .u64 r 8) (iV.getD (hZ .u8 (IntKind.u8.wrap r) x).toNat 0)
theorem PF (x:Int):0<=IntKind.u8.wrap x/\IntKind.u8.wrap x<256:=by simp only [IntKind.wrap,IntKind.bits,IntKind.signed];simp;omega
def ko (l:bd):ax:=l.map (Value.int .u8)
theorem MD (h:l[i]?=some x):(ko l)[i]?=some (.int .u8 x):=by simp [ko,h]
theorem I6 {f:Int->Int->Int} {r:Int} (h:l[i]?=some x):(l.take (i+1)).foldl f r=f ((l.take i).foldl f r) x:=by rw [fc,h,yv];rfl
theorem LF (r:Int) (C:av w tb (us iV) zQ) {a:an} {n c:Nat} (B:bh w a (ko l)) (A:n=l.length) (E:n<=1000000) :
  a9 148 [.int .u64 r,.pointer (some ⟨tb,0,none⟩),.slice a n c] w λv w'=>v=.int .u64 (l.foldl nP r)/\w'=w:=by
 subst A;refine bc Tryz.func148 ?_;rw [I4];refine c2 mix (λm env u=>∃ (i:Nat) (k:ax),m=l.length - i/\i<=l.length/\env=xD ((l.take i).foldl nP r) ⟨tb,0,none⟩ a l.length c l.length i k/\u=w) l.length ⟨0,_,rfl,by omega,rfl,rfl⟩ ?_;rintro m env u ⟨i,k,rfl,F,rfl,rfl⟩;rw [UP];refine a8 (λt=>?_) (λs=>?_)
 ·obtain ⟨x,h⟩:∃ x,l[i]?=some x:=⟨_,bD (by omega)⟩;rcases B with he | ⟨b,o,rfl,p⟩
  ·have D:l.length=0:=by have:=congrArg List.length he;rwa [ko,ft] at this
   omega
  refine ee (by omega) (by omega) ⟨x,by simpa using p i _ (MD h),?_⟩;have d:0<=hZ .u8 (IntKind.u8.wrap ((l.take i).foldl nP r)) x/\hZ .u8 (IntKind.u8.wrap ((l.take i).foldl nP r)) x<256:=PF _;have G:iV.length=256:=by simp [iV]
  refine nC d.1 d.2 ?_;generalize g:hZ .u8 (IntKind.u8.wrap ((l.take i).foldl nP r)) x=q at d ⊢;obtain ⟨y,j⟩:∃ y,iV[q.toNat]?=some y:=⟨_,bD (by omega)⟩;refine ⟨y,by rw [Nat.mul_one];exact av.cell C (by simpa using tu j),?_⟩;rw [bC (x:=(i:Int)+1) (by omega) (by omega)];have e:(l.take (i+1)).foldl nP r=hZ .u64 (db .u64 ((l.take i).foldl nP r) 8) y:=by rw [I6 h];generalize (l.take i).foldl nP r=z at g;show hZ .u64 (db .u64 z 8) (iV.getD (hZ .u8 (IntKind.u8.wrap z) x).toNat 0)=_;rw [g,dF,j];rfl
  dsimp only;rw [<-e];exact ⟨l.length - (i+1),by omega,i+1,_,rfl,by omega,rfl,rfl⟩
 ·have f:i=l.length:=by omega
  subst f;rw [VA,hx];exact ⟨rfl,rfl⟩
def vP (r:Int) (l:bd):Int:=hZ .u64 18446744073709551615 (l.foldl nP (hZ .u64 18446744073709551615 r))
theorem Iw (r:Int) {a:an} {n c:Nat} (i:bh w a (ko l)) (h:n=l.length) (g:n<=1000000) :
  a9 113 [.int .u64 r,.slice a n c] w λv w'=>v=.int .u64 (vP r l)/\ai w w':=by
 refine bc Tryz.func113 ?_;rw [H2];refine aC (I5 w) ?_;rintro v w1 ⟨rfl,d⟩;have f:iV.length=256:=by simp [iV]
 refine iz.aR ⟨iV⟩ f ⟨rfl,?_⟩;refine ea (zs:=List.replicate 256 (.int .u64 0)) (vs:=us iV) (by rw [hE,yy];exact f) (pz _) λb k j au e=>?_
 refine aC (LF _ au (i.new (d.new e)) h g) ?_;rintro v o ⟨rfl,rfl⟩;exact ⟨_,rfl,rfl,d.new e⟩
theorem I7 {a:an} {n c:Nat} (f:bh w a (ko l)) (e:n=l.length) (d:n<=1000000) :
  a9 84 [.slice a n c] w λv w'=>v=.int .u64 (vP 0 l)/\ai w w':=by
 refine bc Tryz.func84 ?_;rw [Ig];refine aC (Iw 0 f e d) ?_;rintro v w1 ⟨rfl,b⟩;exact ⟨_,rfl,rfl,b⟩
def sN:Nat->Int->Int
 | 0,x=>x
 |k+1,x=>db .u64 (sN k x) 8
def pX (x:Int):bd:=(List.range 8).map λk=>IntKind.u8.wrap (sN k x)
theorem ME (x:Int):(pX x).length=8:=by unfold pX;rw [ft,ly]
def o4 (ws:bd):bd:=(ws.map pX).flatten
def sd (ws:bd):Int:=vP 0 (o4 ws)
theorem Kh (ws:bd):(o4 ws).length=8 * ws.length:=by
 induction ws with
 |nil=>rfl
 |cons x ws a=>have:o4 (x::ws)=pX x++o4 ws:=rfl;rw [this,dI,a];simp [pX];omega
theorem KV (ws:bd):ca (sd ws):=by unfold sd vP ca;generalize (List.foldl nP _ _)=z;simp only [hZ,IntKind.wrap,IntKind.bits,IntKind.signed];simp;omega
abbrev tX:TypeId:=5
def pU (ws:bd) (i k:Nat):bd:=o4 (ws.take i)++((pX (ws.getD i 0)).take k)
theorem I8 {a:an} {n c:Nat} (V5:bh w a (us ws)) (V3:n=ws.length) (V9:n<=10000) :
  a9 239 [.slice a n c] w λv w'=>v=.int .u64 (sd ws)/\ai w w':=by
 subst V3;refine bc Tryz.func239 ?_;rw [Ii,bC (x:=8 * (ws.length:Int)) (by omega) (by omega)];refine ⟨by omega,by omega,by omega,by omega,?_⟩;rintro b1 w1 G C;obtain ⟨O,J⟩:=bl G C;clear C;obtain ⟨inf,s,P,d,X⟩:=fO (T:=tX) (z:=.int .u8 0) (n:=1) (m:=1) (by kernel_rfl);have Q:Int.toNat (8 * (ws.length:Int))=8 * ws.length:=by omega
 have A:a0 w1 tX 1 (some ⟨b1,0,none⟩) 0 (8 * ws.length) (ko []):=by refine ⟨rfl,.inr ⟨b1,_,rfl,O,by omega,by unfold maxLen;omega,?_,by simp [ko]⟩⟩;rw [Q];simp [jt]
 refine c2 mix (λm env u=>∃ (i:Nat) (pa:an) (pc:Nat) (E:ax),m=ws.length - i/\i<=ws.length/\env=xx pa (8 * i) pc a ws.length c ws.length i E/\ai w u/\a0 u tX 1 pa (8 * i) pc (ko (o4 (ws.take i)))/\∀ k,aL pa k->w.heap.size<=k) ws.length
  ⟨0,some ⟨b1,0,none⟩,8 * ws.length,_,rfl,by omega,by rw [Q];rfl,J,A,λk S=>?_⟩ ?_
 ·obtain ⟨o,t⟩:=S;simp at t <;> omega
 rintro m env u ⟨i,pa,pc,E,rfl,V_,rfl,h,t,L⟩;rw [t6];refine a8 (λV2=>?_) (λZ=>?_)
 ·obtain ⟨x,N⟩:∃ x,ws[i]?=some x:=⟨_,bD (by omega)⟩;have D:ws.getD i 0=x:=by rw [dF,N];rfl
  have M:=V5.new h;rcases M with he | ⟨b,o,rfl,Y⟩
  ·have V8:ws.length=0:=by have:=congrArg List.length he;rwa [us,ft] at this
   omega
  refine ee (by omega) (by omega) ⟨x,by simpa using Y i _ (tu N),?_⟩;refine c2 mix (λU f y=>∃ (k:Nat) (pa:an) (pc:Nat) (E:ax),U=8 - k/\k<=8/\f=xy pa (8 * i+k) pc (sN k x) (some ⟨b,o,none⟩) ws.length c ws.length i k E/\ai w y/\a0 y tX 1 pa (8 * i+k) pc (ko (pU ws i k))/\∀ k,aL pa k->w.heap.size<=k) 8
   ⟨0,pa,pc,_,rfl,by omega,rfl,h,by simpa [pU] using t,L⟩ ?_
  rintro U f y ⟨k,gP,hb,V6,rfl,S,rfl,j,l,p⟩;rw [t7];refine a8 (λg=>?_) (λg=>?_)
  ·have B:a0 y tX inf.size gP (8 * i+k) hb (ko (pU ws i k)):=by rw [d];exact l
   refine oD (vs:=[.int .u8 (IntKind.u8.wrap (sN k x))]) Tryz.underlying77 s P (by rw [d];rfl) (by omega) B (by rw [d];rfl) (by intro v al;simp at al;subst al;rfl) (by omega) (by omega) ?_;intro V7 ap r V' W R I F;rw [d] at R;rw [bC (x:=(k:Int)+1) (by omega) (by omega)];refine ⟨8 - (k+1),by omega,k+1,ap,r,_,rfl,by omega,rfl,sv j I p,?_,?_⟩
   ·have e:ko (pU ws i k)++[Value.int .u8 (IntKind.u8.wrap (sN k x))]=ko (pU ws i (k+1)):=by unfold pU;rw [D,fc,show (pX x)[k]?=some (IntKind.u8.wrap (sN k x)) by simp [pX,kk (show k<8 by omega)]];simp [ko]
    rw [<-e];exact R
   ·intro q V4;rcases F q V4 with e | e
    ·exact p q e
    ·have:=j.size;omega
  ·have g:k=8:=by omega
   subst g;rw [Va,bC (x:=(i:Int)+1) (by omega) (by omega)];refine ⟨ws.length - (i+1),by omega,i+1,gP,hb,_,rfl,by omega,rfl,j,?_,p⟩;have e:pU ws i 8=o4 (ws.take (i+1)):=by
    have V:ws.take (i+1)=ws.take i++[x]:=by rw [fc,N];rfl
    unfold pU o4;rw [D,V,ja,Bi,hS (i:=8) (by rw [ME];omega)];simp
   rw [e] at l;exact l
 ·have H:i=ws.length:=by omega
  subst H;rw [U_];rw [hx] at t;refine aC (I7 t.rd (Kh ws).symm (by omega)) ?_;rintro v Wa ⟨rfl,K⟩;exact ⟨_,rfl,rfl,h.new K⟩
end
section
def qM (lines n:Nat):bd:=(((List.replicate (lines * 8) 0).set 0 1).set 1 1).set 8 (ou 1 1 (nt n))
def pP:Nat->Nat->bd->bd
 | 0,_,ws=>ws
 |k+1,c,ws=>pP k (c+1) (ws.set (24+c) 1)
def pQ:Nat->Nat->bd->bd
 | 0,_,ws=>ws
 |k+1,l,ws=>pQ k (l+1) (ws.set (l * 8) 256)
def fmt (lines n:Nat):bd:=pQ (lines - 96) 96 (pP 6 0 (qM lines n))
theorem NN (n:Nat) (x:Int):List.replicate n (Value.int .u64 x)=us (List.replicate n x):=by simp [us]
theorem Nu (h:n<=5):0<=ou 1 1 (nt n)/\ou 1 1 (nt n)<18446744073709551616:=by have:=EI h;unfold ou;omega
def pS (ws:bd):Prop:=∀ x ∈ ws,0<=x/\x<18446744073709551616
theorem pS.set {ws:bd} (h:pS ws) {x:Int} (b:0<=x/\x<18446744073709551616) (i:Nat):pS (ws.set i x):=λy c=>by
 rcases n0 c with a | rfl
 ·exact h y a
 ·exact b
abbrev tY:TypeId:=30
theorem u4 {len:Nat} {i:Int} {K:aS->aE} (au:av u b (us ws) tY) (g:ai w0 u) (c:w0.heap.size<=b) (a:0<=i) (j:i<ws.length) (hlen:len=ws.length)
  (f:∀ bx bs,av bs b (us (ws.set i.toNat x)) tY->ai w0 bs->K bx bs):bm (some ⟨b,0,none⟩) len i 1 λbx=>(∃ bs,u.cell? bx=some bs)/\u.frozen? bx=false/\∀ w',w'=u.setCell bx (.int .u64 x)->K bx w':=by
 refine ee a (by omega) ?_;have e:0+i.toNat * 1=i.toNat:=by omega
 rw [e];have d:∃ y,ws[i.toNat]?=some y:=⟨_,bD (by omega)⟩;obtain ⟨y,h⟩:=d;refine ⟨⟨_,au.cell (tu h)⟩,au.frozen,?_⟩;rintro w' rfl;refine f _ _ ?_ (ao.setCell g (.inr c) _);have:=au.setCell (i:=i.toNat) (.int .u64 x);rwa [show (us ws).set i.toNat (.int .u64 x)=us (ws.set i.toNat x) by simp [us,iv]] at this
theorem KW {aJ:Nat} {s:aZ} (h:dZ w b aJ s) {lines:Nat} (X:s.words.length=lines * 8) (U:98<=lines) (Q:lines<=256) (ar:s.down=false) (T:1<=n) (J:n<=5) :
  a9 75 [ptr b,.int .i64 n] w λv w'=>v=.int .i64 0/\dZ w' b aJ ⟨fmt lines n,false⟩/\ao (λk=>k=aJ) w w':=by
 have hdiv:s.words.length / 8=lines:=by omega
 have N:=EI J;refine bc Tryz.func75 ?_;rw [ptr,Vf];refine aC (Kz _ T J) ?_;rintro v w1 ⟨rfl,rfl⟩;refine ⟨_,_,rfl,cV rfl ?_⟩;refine aC (xV h) ?_;rintro v w1 ⟨rfl,rfl⟩;refine ⟨_,rfl,a8 (λL=>by omega) λ_=>?_⟩
 refine aC (E5 h) ?_;rintro v w1 ⟨rfl,rfl⟩;refine ⟨_,rfl,cV (by simp [ar]) ?_⟩;refine aC (xV h) ?_;rintro v w1 ⟨rfl,rfl⟩;refine ⟨_,rfl,?_⟩;rw [hdiv];refine aC (Mw _ (by omega) (by omega)) ?_;rintro v w1 ⟨rfl,rfl⟩;refine ⟨_,rfl,by omega,by omega,by omega,by omega,?_⟩;have S:Int.toNat ((lines:Int) * 8)=lines * 8:=by omega
 rw [S,CP,NN];rintro b1 Z K E;obtain ⟨d,g⟩:=bl K E;replace d:av Z b1 (us (List.replicate (lines * 8) 0)) tY:=d;clear E;have j:w1.heap.size<=b1:=by omega
 refine aC (NL _) ?_;rintro v V2 ⟨rfl,rfl⟩;refine ⟨_,_,rfl,?_⟩;refine u4 (len:=lines * 8) (i:=0) (x:=1) d g j (by omega) (by simp;omega) (by simp) ?_;intro bx V3 F z;refine u4 F z j (by omega) (by simp;omega) (by simp) ?_;intro bx V4 G A;refine aC (Iv _ _) ?_;rintro v V5 ⟨rfl,q⟩;refine ⟨_,rfl,?_⟩;refine aC (Ic _ (by omega) (by omega) N.1) ?_;rintro v V6 ⟨e,rfl,rfl⟩;refine ⟨_,_,rfl,?_⟩;have M:wF 1 1 (nt n)=ou 1 1 (nt n):=by unfold wF;rw [if_pos (by omega)]
 rw [M];refine u4 (ai.aj q G) (A.new q) j (by decide) (by simp [nS];omega) (by simp) ?_;intro bx V7 r B;have y:(((List.replicate (lines * 8) 0).set (Int.toNat 0) 1).set (Int.toNat 1) 1).set (nS 1 16 0).toNat (ou 1 1 (nt n))=qM lines n:=rfl;rw [y] at r;have p:(qM lines n).length=lines * 8:=by simp [qM]
 have O:pS (qM lines n):=((pS.set (pS.set (λx Y=>by simp at Y <;> omega) (by omega) _) (by omega) _).set (Nu J) _);clear y d F G g z A q;refine c2 mix (λm env u=>∃ (c:Nat) (ws:bd) (H:ax),m=6 - c/\c<=6/\env=xg ⟨b,0,none⟩ (some ⟨b1,0,none⟩) (lines * 8) (lines * 8) c H/\av u b1 (us ws) tY/\ai w1 u/\ws.length=lines * 8/\pS ws/\pP (6 - c) c ws=pP 6 0 (qM lines n)) 6
  ⟨0,_,_,rfl,by omega,rfl,r,B,p,O,rfl⟩ ?_
 rintro m env u ⟨c,ws,H,rfl,L,rfl,au,l,hlen,hw,a⟩;rw [SS];refine a8 (λI=>?_) (λI=>?_)
 ·refine aC (NM _ _) ?_;rintro v bE ⟨rfl,C⟩;have D:nS 3 6 (c:Int)=24+c:=by unfold nS;rw [if_neg (by omega)];omega
  refine ⟨_,rfl,?_⟩;rw [D];refine u4 (ai.aj C au) (l.new C) j (by omega) (by omega) (by omega) ?_;intro bx P d g;rw [bC (by omega) (by omega)];refine ⟨6 - (c+1),by omega,c+1,_,_,rfl,by omega,rfl,d,g,by simpa using hlen,hw.set (by omega) _,?_⟩;rw [show 6 - c=6 - (c+1)+1 by omega,pP] at a;rw [show Int.toNat (24+(c:Int))=24+c by omega];exact a
 ·have o:c=6:=by omega
  subst o;rw [TO];rw [mV,pP] at a;have R:pQ (lines - 96) 96 ws=fmt lines n:=by rw [fmt,<-a]
  clear a;refine c2 mix (λm env u=>∃ (c:Nat) (ws:bd) (H:ax),m=lines - c/\96<=c/\c<=lines/\env=xh ⟨b,0,none⟩ (some ⟨b1,0,none⟩) (lines * 8) (lines * 8) c H/\av u b1 (us ws) tY/\ai w1 u/\ws.length=lines * 8/\pS ws/\pQ (lines - c) c ws=fmt lines n) (lines - 96)
   ⟨96,_,_,rfl,by omega,by omega,rfl,au,l,hlen,hw,R⟩ ?_
  clear R au l hlen hw r B I L;rintro m env u ⟨c,ws,H,rfl,L,V,rfl,au,l,hlen,hw,a⟩;rw [ST];refine aC (xV (h.new l)) ?_;rintro v bE ⟨rfl,rfl⟩;refine ⟨_,rfl,?_⟩;rw [hdiv];refine a8 (λI=>?_) (λI=>?_)
  ·refine aC (ra _ (by omega) (by omega)) ?_;rintro v P ⟨rfl,rfl⟩;refine ⟨_,rfl,?_⟩;refine aC (Kf _) ?_;rintro v P ⟨rfl,rfl⟩;refine ⟨_,_,rfl,?_⟩;refine u4 au l j (by omega) (by omega) (by omega) ?_;intro bx P d g;rw [bC (by omega) (by omega)];refine ⟨lines - (c+1),by omega,c+1,_,_,rfl,by omega,by omega,rfl,d,g,by simpa using hlen,hw.set (by omega) _,?_⟩;rw [show lines - c=lines - (c+1)+1 by omega,pQ] at a;rw [show Int.toNat ((c:Int) * 8)=c * 8 by omega];exact a
  ·have o:c=lines:=by omega
   subst o;rw [TP];rw [mV,pQ] at a;rw [<-hlen];refine aC (Dn (h.new l) 0 (fm au (by rw [td];exact hS (cQ _))) hw (λh=>by cases h)) ?_;rintro v bk ⟨rfl,f,W⟩;have t:s.e_ 0 ws.length=0:=by unfold aZ.e_;rw [if_neg (by omega),if_neg (by simp [ar])]
   rw [t] at f ⊢;rw [if_pos rfl] at f;refine ⟨_,rfl,rfl,?_,(ao.b4 l).trans W (λ_ _ h=>h)⟩;have:s.write (Int.toNat 0) ws=⟨fmt c n,false⟩:=by unfold aZ.write;rw [<-a];simp [ar,X,hlen]
   rw [<-this];exact f
theorem Cc:∀ (k c:Nat) (ws:bd),(pP k c ws).length=ws.length
 | 0,_,_=>rfl
 |k+1,c,ws=>by rw [pP,Cc];simp
theorem Cd:∀ (k c:Nat) (ws:bd),(pQ k c ws).length=ws.length
 | 0,_,_=>rfl
 |k+1,c,ws=>by rw [pQ,Cd];simp
theorem DK (lines n:Nat):(fmt lines n).length=lines * 8:=by rw [fmt,Cd,Cc];simp [qM]
def aN.fmt (F:aN):aN:={ F with nodes:=F.nodes.map λ_=>⟨Go.Proofs.YtmkljjbioomepaaGreat.fmt F.lines F.nodes.length,false⟩ }
def CT (F:aN):Prop:=98<=F.lines/\F.lines<=256/\1<=F.nodes.length/\F.nodes.length<=5/\∀ n ∈ F.nodes,n.words.length=F.lines * 8/\n.down=false
theorem Ao (X:bL):X.pure.nodes.length=X.nodes.length:=by simp [bL.pure]
theorem Ix (h:b2 A aw w aI X) (I:CT X.pure) :
  a9 47 [ptr aI] w λv w'=>v=.int .i64 0/\dT A aw w aI X.pure.fmt w' λ_=>True:=by
 obtain ⟨f1,f2,f3,f4,f5⟩:=I;rw [Ao] at f3 f4;refine bc Tryz.func47 ?_;rw [ptr,Uq];refine aC (yU h) ?_;rintro v w1 ⟨rfl,rfl⟩;refine ⟨_,rfl,?_⟩;let a:Nat:=X.nodes.length;refine c2 mix (λm env u=>∃ (i:Nat) (A':a3) (χ':Nat->Tag) (b:bL) (D:ax),m=a - i/\i<=a/\env=w_ ⟨aI,0,none⟩ a i D/\Next A A' aw χ' w1 u/\b2 A' χ' u aI b/\b.nodes.length=a/\b.lines=X.lines/\(∀ x ∈ b.nodes,x.n.words.length=X.lines * 8/\x.n.down=false)/\
   b.pure={ X.pure with nodes:=List.replicate i ⟨fmt X.lines a,false⟩++X.pure.nodes.drop i }) a
  ⟨0,A,aw,X,_,rfl,by omega,rfl,h.refl (ao.refl _ _),h,rfl,rfl,λx f=>f5 x.n (cT.2 ⟨x,f,rfl⟩),by simp⟩ ?_
 rintro m env u ⟨i,A',χ',b,D,rfl,L,rfl,o,g,j,r,l,d⟩;rw [RF];refine a8 (λK=>?_) (λK=>?_)
 ·have t:i<b.nodes.length:=by omega
  obtain ⟨x,f⟩:∃ x,b.nodes[i]?=some x:=⟨_,bD t⟩;refine aC (AY g f) ?_;rintro v bE ⟨rfl,rfl⟩;refine ⟨_,rfl,?_⟩;refine aC (yU g) ?_;rintro v bE ⟨rfl,rfl⟩;refine ⟨_,rfl,?_⟩;obtain ⟨z,B⟩:=l x (b7 f);rw [j];refine aC (KW (g.node i x f).node z f1 f2 B (by show 1<=a;omega) (by show a<=5;omega)) ?_;rintro v M ⟨rfl,c,J⟩;refine ⟨_,rfl,cV rfl ?_⟩;obtain ⟨E,p,q⟩:=g.setNode f (J.mono λk _ e=>.inr e) c;rw [bC (by omega) (by omega)];refine ⟨a - (i+1),by omega,i+1,E,χ',_,_,rfl,by omega,rfl,o.trans p,q,by simpa using j,r,?_,?_⟩
  ·intro y C;rcases n0 C with C | rfl
   ·exact l y C
   ·refine ⟨?_,rfl⟩;have:=c.len;show (fmt X.lines a).length=_;rw [DK]
  ·have hlen:X.pure.nodes.length=a:=Ao X;have F:b.pure.nodes=List.replicate i ⟨fmt X.lines a,false⟩++X.pure.nodes.drop i:=by rw [d]
   have G:b.nodes.map g'.n=List.replicate i ⟨fmt X.lines a,false⟩++X.pure.nodes.drop i:=F;have H:({ b with nodes:=b.nodes.set i { x with n:=⟨fmt X.lines a,false⟩ } }:bL).pure={ b.pure with nodes:=(b.nodes.map g'.n).set i ⟨fmt X.lines a,false⟩ }:=by simp [bL.pure,iv]
   rw [H,G,d];congr 1;rw [Bc _ _ (by simp)];simp only [yy,mV];rw [List.replicate_succ',lr];congr 1;rw [oU (by omega)];rfl
 ·have s:i=a:=by omega
  subst s;rw [Sl];refine ⟨rfl,A',χ',b,o,g,?_,trivial⟩;rw [d];unfold aN.fmt;have hlen:X.pure.nodes.length=a:=Ao X;congr 1;rw [List.drop_of_length_le (by omega),i',hlen,<-hlen];rw [List.map_const'];rfl
theorem I9 {n c lines:Nat} (d:1<=n/\n<=5) (a:98<=lines/\lines<=256):CT (aN.init n c lines):=by refine ⟨a.1,a.2,by simp [aN.init];omega,by simp [aN.init];omega,?_⟩;intro x b;simp [aN.init] at b;rw [b.2];simp [sS,aN.init];omega
def aN.fresh (n c lines:Nat):aN:=⟨lines,List.replicate n ⟨Go.Proofs.YtmkljjbioomepaaGreat.fmt lines n,false⟩,(List.range c).map (hH n),[]⟩
theorem KX (n c lines:Nat):(aN.init n c lines).fmt=aN.fresh n c lines:=by simp [aN.fmt,aN.init,aN.fresh]
theorem DL {n c lines:Nat} (q:1<=n/\n<=5) (b:1<=c/\c<=6) (p:98<=lines/\lines<=256):a9 23 [.int .i64 n,.int .i64 c,.int .i64 lines] w λv w'=>
  ∃ aI A aw X,v=.tuple #[ptr aI,.bool true]/\b2 A aw w' aI X/\ai w w'/\(∀ k,A k->w.heap.size<=k)/\X.pure=aN.fresh n c lines:=by
 refine bc Tryz.func23 ?_;rw [UH];refine aC (NK q b ⟨by omega,p.2⟩) ?_;rintro v w1 ⟨aI,A,aw,X,rfl,g,d,e,l⟩;refine ⟨_,_,rfl,cV rfl (cV rfl ?_)⟩;refine aC (Ix g (by rw [l];exact I9 q p)) ?_;rintro v s ⟨rfl,A',χ',r,a,h,i,_⟩;refine ⟨_,rfl,cV rfl ⟨aI,A',χ',r,rfl,h,?_,?_,?_⟩⟩
 ·refine d.trans a.az (λk o f=>?_);have:=e k (g.e9 k f);omega
 ·intro k o;by_cases j:k<w1.heap.size
  ·rcases (a.iff k).1 o with b | b
   ·exact e k (g.e9 k (a.grow k j b))
   ·exact e k b.2.1
  ·have:=d.size;omega
 ·rw [i,l,KX]
theorem vQ (h:b2 A aw w aI X) {x:g'} (j:X.nodes[i]?=some x) {at_:Nat} (c:at_<x.n.words.length) (ar:x.n.down=false) :
  a9 20 [ptr aI,.int .i64 i,.int .i64 at_] w λv w'=>v=.tuple #[.int .u64 (x.n.get at_),.bool true]/\ai w w':=by
 refine bc Tryz.func20 ?_;rw [ptr,U0];refine aC (AY h j) ?_;rintro v bE ⟨rfl,rfl⟩;refine ⟨_,rfl,cV rfl ?_⟩;refine aC (vN (h.node i x j).node at_ 1) ?_;have e:x.n.e_ at_ 1=0:=by unfold aZ.e_;rw [if_neg (by omega),if_neg (by simp [ar])]
 rintro v r (⟨k,_⟩ | ⟨_,a,cap,rfl,p,q,_⟩)
 ·exact absurd e k
 have f:=q.rd;have l:x.n.read at_ 1=[x.n.get at_]:=by
  unfold aZ.read;have g:x.n.words[at_]?=some (x.n.get at_):=aZ.get_some c
  simp only [fU];rw [oU c];have:x.n.words[at_]=x.n.get at_:=by rw [bD c] at g;exact nX g
  rw [this];rfl
 rw [l] at f;rcases f with f | ⟨b,o,he,d⟩
 ·cases f
 simp at he;subst he;refine ⟨_,_,_,_,rfl,cV rfl (cV rfl (ee (by omega) (by decide) ?_))⟩;have:=d 0 _ rfl;refine ⟨_,this,rfl,p⟩
end
section
def d8 (d:aO):Int:=d.words.headD 0
def sj (v:aW) (d:aO):Bool:=if d.code=0 then decide ((d.words.length:Int)=v.v.iq) else if d.code=4\/d.code=5 then decide (d.words.length=0) else false
def kr (vs:List aW) (ds:List aO):Bool:=decide (vs.length=ds.length) && (vs.zip ds).all λp=>sj p.1 p.2
structure HM where
 done:List aO
 ok:Bool
 a4:List (List aO)
 ask:Option (List aW)
 dE:Bool
def batch (G:List (List aO)) (vs:List aW):HM:=
 if vs.length=0 then ⟨[],true,G,none,false⟩ else match G with
 | []=>⟨[],false,[],some vs,false⟩
 |d::a=>if kr vs d then ⟨d,true,a,none,false⟩ else ⟨[],false,d::a,none,true⟩
abbrev pe:TypeId:=244
theorem q9 {x:aO} (h:lf M w d x):a9 196 [d.val] w λv w'=>v=.int .u64 (d8 x)/\ai w w':=by
 refine bc Tryz.func196 ?_;refine Eq.mpr (HQ d.Code d.Words d.cK d.cD w _) ?_;rintro b1 w1 c f;obtain ⟨au,e⟩:=bl c f;have i:=h.len;refine ⟨_,_,_,au.cell rfl,dY (λj=>?_) (λj=>⟨_,_,_,au.cell rfl,?_⟩)⟩
 ·have:x.words=[]:=fI (by omega);refine ⟨by simp [d8,this],e⟩
 ·cases g:x.words with
  |nil=>rw [g] at i;simp at i <;> omega
  |cons y ys=>
   have a:=h.rd.new e;rw [g] at a;rcases a with a | ⟨b,o,he,k⟩
   ·cases a
   rw [he];refine ee (by omega) (by omega) ⟨y,?_,by simp [d8,g],e⟩;exact k 0 _ rfl
structure fV where
 gI:an
 dM:Nat
 gc:Nat
 aa:an
 c8:Nat
 ac:Nat
 dE:Bool
def fV.cells (T:fV):ax:=[.slice T.gI T.dM T.gc,.slice T.aa T.c8 T.ac,.bool T.dE]
structure Row where
 a:an
 c:Nat
 raw:List bO
def kJ (rows:List Row):ax:=rows.map λr=>.slice r.a r.raw.length r.c
def hI (A:a3) (w:ak) (a:an) (G:List (List aO)):Prop:=
 ∃ rows:List Row,rows.length=G.length/\bh w a (kJ rows)/\(kJ rows=[]\/gl A a)/\
  ∀ (i:Nat) (r:Row) (ds:List aO),rows[i]?=some r->G[i]?=some ds->bh w r.a (fP r.raw).flatten/\((fP r.raw).flatten=[]\/gl A r.a)/\gW A w r.raw ds/\ds.length<=1024
theorem hI.nil (A:a3) (w:ak) (a:an):hI A w a []:=⟨[],rfl,.inl rfl,.inl rfl,λi r ds h=>by simp at h⟩
theorem hI.head {a:an} {d:List aO} (h:hI A w a (d::G)) :
  ∃ (b o:Nat) (r:Row),a=some ⟨b,o,none⟩/\w.cell? ⟨b,o,none⟩=some (.slice r.a r.raw.length r.c)/\bh w r.a (fP r.raw).flatten/\gW A w r.raw d/\d.length<=1024/\hI A w (some ⟨b,o+1,none⟩) G:=by
 obtain ⟨rows,k,f,e,ar⟩:=h;cases rows with
 |nil=>simp at k
 |cons r rows=>
  rcases f with f | ⟨b,o,rfl,g⟩
  ·simp [kJ] at f
  ·obtain ⟨l,x,n,p⟩:=ar 0 r d rfl rfl;refine ⟨b,o,r,rfl,g 0 _ rfl,l,n,p,rows,by simpa using k,?_,?_,λi t ds q s=>ar (i+1) t ds (by simpa using q) (by simpa using s)⟩
   ·refine .inr ⟨b,o+1,rfl,λj u hu=>?_⟩;rw [u',Nat.add_comm 1 j];exact g (j+1) u (by simpa [kJ] using hu)
   ·rcases e with e | e
    ·simp [kJ] at e
    ·exact .inr e
theorem MF {x:aW} {y:aO} (al:cF M w v x) (h:lf A w' d y):fits v d=sj x y:=by unfold fits sj;rw [h.code,h.len,al.eq];rfl
theorem Ki {raw:List bO} (al:ep M w cl vs) (h:gW A w' raw ds):q' cl raw=kr vs ds:=by
 unfold q' kr;rw [h.1,al.1];congr 1;obtain ⟨a,e⟩:=h;obtain ⟨c,f⟩:=al;induction vs generalizing raw ds cl with
 |nil=>
  cases cl with
  |nil=>simp
  |cons=>simp at c
 |cons v vs g=>
  cases cl with
  |nil=>simp at c
  |cons c6 cl=>
   cases raw with
   |nil=>cases ds with
    |nil=>simp
    |cons=>simp at a
   |cons r raw=>cases ds with
    |nil=>simp at a
    |cons d ds=>simp only [List.zip_cons_cons,List.all_cons];rw [MF (f 0 c6 v rfl rfl) (e 0 r d rfl rfl),g (by simpa using a) (λi v x al b=>e (i+1) v x (by simpa using al) (by simpa using b)) (by simpa using c) λi v x al b=>f (i+1) v x (by simpa using al) (by simpa using b)]
theorem yf (h:kr vs ds=true):vs.length=ds.length:=by unfold kr at h;simp at h;exact h.1
theorem qT {G:List (List aO)} {vs:List aW}:(batch G vs).done.length<=vs.length:=by
 unfold batch;split
 ·simp
 ·cases G with
  |nil=>simp
  |cons d G=>
   simp only;split
   ·rename_i h;rw [yf h];exact cQ _
   ·simp
theorem DM {T:fV} (L:ai w0 u) (V3:w0.heap.size<=tb) (q:av u tb T.cells pe) (K:hI A w0 T.gI G) (n:T.dM=G.length) (w:T.dM<=T.gc)
  {aa:an} {ac:Nat} (Y:bh u aa (dP cl).flatten) (C:ep M u cl vs) (V2:vs.length<=1000000) :
  a9 116 [ptr tb,.slice aa cl.length ac] u λv bs=>∃ (e:fV) (dB:an) (dc:Nat) (raw:List bO),v=.tuple #[.slice dB raw.length dc,.bool (batch G vs).ok]/\av bs tb e.cells pe/\ao (λk=>k=tb) u bs/\
   bh w0 dB (fP raw).flatten/\gW A w0 raw (batch G vs).done/\hI A w0 e.gI (batch G vs).a4/\e.dM=(batch G vs).a4.length/\e.dM<=e.gc/\e.dE=(T.dE || (batch G vs).dE)/\
   (match (batch G vs).ask with | none=>e.aa=T.aa/\e.c8=T.c8/\e.ac=T.ac | some _=>e.aa=aa/\e.c8=vs.length/\e.ac=ac):=by
 refine bc Tryz.func116 ?_;rw [ptr,UJ];rw [C.1];have l:gW A w0 [] []:=⟨rfl,λi v x al=>by simp at al⟩;unfold batch;refine dY (λS=>?_) (λS=>⟨_,_,_,q.cell rfl,dY (λP=>?_) (λP=>?_)⟩)
 ·have p:vs.length=0:=by omega
  rw [if_pos p];exact ⟨T,none,0,[],rfl,q,ao.refl _ _,.inl rfl,l,K,n,w,by simp,rfl,rfl,rfl⟩
 ·have p:¬ vs.length=0:=by omega
  have V:G=[]:=fI (by omega);subst V;rw [if_neg p];refine ⟨⟨_,q.cell rfl⟩,q.frozen,?_⟩;rintro bE rfl;exact ⟨{ T with aa:=aa,c8:=vs.length,ac:=ac },none,0,[],rfl,q.setCell _,eY _ _ _ _,.inl rfl,l,hI.nil _ _ _,n,w,by simp,rfl,rfl,rfl⟩
 ·have p:¬ vs.length=0:=by omega
  rw [if_neg p];cases G with
  |nil=>simp at n <;> omega
  |cons d H=>
   simp only;obtain ⟨b,o,r,I,Q,F,t,W,N⟩:=K.head;have X:b≠tb:=by
    have P:b<w0.heap.size:=by
     have:=Q;unfold World.cell? at this;by_cases E:b<w0.heap.size
     ·exact E
     ·simp [yl (yo E)] at this
    omega
   have g:∀ z,ai w0 z->z.cell? ⟨b,o,none⟩=some (.slice r.a r.raw.length r.c):=by
    intro z au;have U:bh w0 (some ⟨b,o,none⟩) [.slice r.a r.raw.length r.c]:=.inr ⟨b,o,rfl,λj u hu=>by
     cases j with
     |zero=>simp at hu;subst hu;exact Q
     |succ j=>simp at hu⟩
    exact (U.new au).cell (j:=0) rfl
   refine ⟨_,_,_,q.cell rfl,?_⟩;rw [I];refine ee (by omega) (by omega) ?_;refine ⟨_,_,_,g u L,?_⟩;have D:q' cl r.raw=kr vs d:=Ki C t;have Z:=t.1;have hlen:cl.length=vs.length:=C.1;rw [<-hlen];refine aC (PD Y (F.new L) (by omega) (by omega)) ?_;rintro v V4 ⟨rfl,y⟩;rw [D];refine ⟨_,rfl,ev (λJ=>?_) (λJ=>?_)⟩
   ·have s:=ai.aj y q;rw [J];refine ⟨⟨_,s.cell rfl⟩,s.frozen,?_⟩;rintro bk rfl;exact ⟨{ T with dE:=true },none,0,[],rfl,s.setCell _,(ao.b4 y).trans (eY _ _ _ _) (λ_ _ h=>h),.inl rfl,l,K,n,w,by simp,rfl,rfl,rfl⟩
   ·rw [J];rintro bk O;have B:ai u bk:=by rw [O];exact y.drew
    have f:=ai.aj B q;refine ⟨λz=>ai bk z,ao.refl _ _,_,_,_,λz au=>(ai.aj au f).cell rfl,?_⟩;rw [I];refine ee (by omega) (by omega) ?_;refine ⟨_,_,_,λz au=>g z ((L.new B).new au),_,_,_,λz au=>(ai.aj au f).cell rfl,?_⟩;rw [I];refine ⟨by omega,by omega,by omega,by omega,by omega,⟨_,f.cell rfl⟩,f.frozen,?_⟩;rintro V5 rfl;have R:T.dM=H.length+1:=by simpa using n
    refine ⟨{ T with gI:=if (T.gc:Int)=1 then some ⟨b,o,none⟩ else (some ⟨b,o,none⟩:an).map (·.add (Int.toNat 1 * 1)),dM:=Int.toNat T.dM - Int.toNat 1,gc:=Int.toNat T.gc - Int.toNat 1 },r.a,r.c,r.raw,rfl,f.setCell _,(ao.b4 B).trans (eY _ _ _ _) (λ_ _ h=>h),F,t,?_,?_,?_,by simp,rfl,rfl,rfl⟩
    ·show hI A w0 (if (T.gc:Int)=1 then _ else _) H;split
     ·have:H=[]:=fI (by omega);rw [this];exact hI.nil _ _ _
     ·exact N
    ·show Int.toNat (T.dM:Int) - Int.toNat 1=H.length;omega
    ·show Int.toNat (T.dM:Int) - Int.toNat 1<=Int.toNat (T.gc:Int) - Int.toNat 1;omega
abbrev gx:TypeId:=125
theorem Mc {a:an} {cap:Nat} {xs:ax} (j:a0 u cz 9 a n cap xs) (h:n<=1000000000) {K:Nat->an->Nat->Nat->aE}
  (r:∀ b ap e g,b=u.heap.size->a0 g cz 9 ap (n+1) e (xs++v.cells)->ao (aL a) u g->(∀ k,aL ap k->aL a k\/u.heap.size<=k)->K b ap (n+1) e g) :
  ∀ b1 l,b1=u.heap.size->l=u.alloc (.cells v.cells.toArray cz)->∃ (ap:an) (d c:Nat),∃ g,(Builtin.append_ #[gx,gx] gx #[(.slice a n cap),(.slice (some ⟨b1,0,none⟩) 1 1)]).run prog l=.ok (.slice ap d c) g/\K b1 ap d c g:=by
 obtain ⟨inf,q,au,f,p⟩:=fO (T:=cz) (z:=.agg #[.int .i64 0,.int .i64 0,.int .i64 0,.int .i64 0,.int .u64 0,.int .u64 0,.slice none 0 0,.int .u64 0,.int .i64 0]) (n:=9) (m:=88) (by kernel_rfl);rw [<-f] at j;refine oD Tryz.underlying125 q au (by rw [f];rfl) (by omega) j (by rw [f];rfl) (aG.single v) h (by omega) ?_;intro b ap e g o i;rw [f] at i;exact r b ap e g o i
theorem Ce {ws:List aW} (h:(batch G vs).ask=some ws):ws=vs:=by
 unfold batch at h;split at h
 ·cases h
 ·cases G with
  |nil=>simp at h;exact h.symm
  |cons d a=>simp only at h;split at h<;>cases h
theorem CU (h:(batch G vs).ok=true):(batch G vs).ask=none/\(batch G vs).dE=false:=by
 unfold batch at h ⊢;split
 ·exact ⟨rfl,rfl⟩
 ·rename_i al;rw [if_neg al] at h;cases G with
  |nil=>simp at h
  |cons d b=>
   simp only at h ⊢;split
   ·exact ⟨rfl,rfl⟩
   ·rename_i a;rw [if_neg a] at h;simp at h
theorem Eg (w:ak) (gI:an) (dM gc:Nat):a9 115 [.slice gI dM gc] w λv w'=>∃ tb,v=ptr tb/\w.heap.size<=tb/\av w' tb (fV.cells ⟨gI,dM,gc,none,0,0,false⟩) pe/\ai w w':=by refine bc Tryz.func115 ?_;rw [Ir];rintro b1 w1 a b;obtain ⟨au,c⟩:=bl a b;exact ⟨b1,rfl,by omega,au,c⟩
end
end Go.Proofs.YtmkljjbioomepaaGreat
