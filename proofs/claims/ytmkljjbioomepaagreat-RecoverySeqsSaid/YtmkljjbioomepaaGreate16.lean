import Derived.Test.YtmkljjbioomepaaGreatProg
import Derived.Test.YtmkljjbioomepaaGreate03
import Derived.Test.YtmkljjbioomepaaGreate02
import Derived.Test.YtmkljjbioomepaaGreate14
set_option linter.all false
set_option maxHeartbeats 4000000
set_option maxRecDepth 100000
namespace Go.Proofs.YtmkljjbioomepaaGreat
open Go.Proofs.Tryz Go.bn
variable {a:an} {b c i lines n:Nat} {l ws:a4} {w:al} {x:Int}
section
open IntKind
variable (w:al) (R:cp) {s t:an} {a b c d:Nat} {i k l m:Int} {A:aV} {j:aq}
theorem GQ:bd prog f84 [ae s a b] R w=(iV 113 #[ah 0,ae s a b] w λc d=>R (ah c) d):=by kernel_rfl
theorem Gs:bd prog f113 [ah i,ae s a b] R w=(RL 147 #[] w λd j=>aQ j ((List.replicate 256 (ah 0)).toArray) 239 λe f=>a_ f (af e 0) 0 d.cells λh=>iV 148 #[ah (hs .u64 18446744073709551615 i),a' e,ae s a b] h λc g=>R (ah (hs .u64 18446744073709551615 c)) g):=by kernel_rfl
def mt (a:aV) (b:Int) (j:aq):aq:=.pointer (some a)::ag j 0 2 (ab b::ag j 2 20 [])
def Fs (a:aV) (j:aq):aq:=.pointer (some a)::ag j 0 23 []
def sX (a:aV) (s1 s2 b s8:Int) (j:aq):aq:=.pointer (some a)::ab s1::ah s2::ab b::ag j 0 4 (ab s8::ag j 4 15 [])
def Ft (a:aV) (s1 s2 b:Int) (j:aq):aq:=.pointer (some a)::ab s1::ah s2::ab b::ag j 0 20 []
theorem GR  : bd prog f147 [] R w=(aQ w ((List.replicate 256 (ah 0)).toArray) 239 λb1 w1=>cx prog (cY f147 [1,0,1,0,0]) (mt (af b1 0) 0 (bx 22 [])) (aW 0 (aZ f147 [1,1] R)) w1):=by kernel_rfl
theorem SS (b:aq->aE):W prog (sb f147 [1,0,1,0,0]) (mt A i j) (a1 b (aW 0 (aZ f147 [1,1] R))) w=(cond (i<256) (cx prog (cY f147 [1,0,1,0,0,1,1,0,0,1,1,0,1,0,0]) (sX A i (u64.wrap i) i 0 (ad (i<256)::ab i::ab i::ah (u64.wrap i)::ag j 7 15 [])) (aW 2 (a1 (λa w=>W prog (sb f147 [1,0,1,0,0,1,1,0,0,1,1,1]) a (aW 1 (a1 (λa w=>W prog (sb f147 [1,0,1,0,0,1,1,1]) a (a1 b (aW 0 (aZ f147 [1,1] R))) w) (a1 b (aW 0 (aZ f147 [1,1] R))))) w) (aW 1 (a1 (λa w=>W prog (sb f147 [1,0,1,0,0,1,1,1]) a (a1 b (aW 0 (aZ f147 [1,1] R))) w) (a1 b (aW 0 (aZ f147 [1,1] R))))))) w) (W prog (sb f147 [1,1]) (Fs A (aN j 0::aN j 1::ab i::ad (i<256)::ag j 3 19 [])) (bW f147 R) w)):=by kernel_rfl
theorem wd:W prog (sb f147 [1,1]) (Fs A j) (bW f147 R) w=(EY w A λr=>a_ w A 0 r.cells λa=>EY a A λb=>a=a/\R b.val a):=by kernel_rfl
theorem ST (b:aq->aE) (c:aq->aE):W prog (sb f147 [1,0,1,0,0,1,1,0,0,1,1,0,1,0,0]) (sX A i k l m j) (a1 c (aW 2 (a1 (λa w=>W prog (sb f147 [1,0,1,0,0,1,1,0,0,1,1,1]) a (aW 1 (a1 (λa w=>W prog (sb f147 [1,0,1,0,0,1,1,1]) a (a1 b (aW 0 (aZ f147 [1,1] R))) w) (a1 b (aW 0 (aZ f147 [1,1] R))))) w) (aW 1 (a1 (λa w=>W prog (sb f147 [1,0,1,0,0,1,1,1]) a (a1 b (aW 0 (aZ f147 [1,1] R))) w) (a1 b (aW 0 (aZ f147 [1,1] R)))))))) w=(cond (m<8) (cond (((gw .u64 k 1):Int) == 1) (c (sX A i (hs .u64 (c5 .u64 k 1) 14514072000185962306) l (i64.wrap (m+1)) (ag j 0 4 (ad (m<8)::ah k::ah (gw .u64 k 1)::ad (((gw .u64 k 1):Int) == 1)::ah k::ah (c5 .u64 k 1)::ah (hs .u64 (c5 .u64 k 1) 14514072000185962306)::aN j 11::aN j 12::ab (i64.wrap (m+1))::ag j 14 5 []))) w) (c (sX A i (c5 .u64 k 1) l (i64.wrap (m+1)) (ag j 0 4 (ad (m<8)::ah k::ah (gw .u64 k 1)::ad (((gw .u64 k 1):Int) == 1)::aN j 8::aN j 9::aN j 10::ah k::ah (c5 .u64 k 1)::ab (i64.wrap (m+1))::ag j 14 5 []))) w)) (W prog (sb f147 [1,0,1,0,0,1,1,0,0,1,1,1]) (Ft A i k l (ag j 0 4 (ab m::ad (m<8)::ag j 5 14 []))) (aW 1 (a1 (λa w=>W prog (sb f147 [1,0,1,0,0,1,1,1]) a (a1 b (aW 0 (aZ f147 [1,1] R))) w) (a1 b (aW 0 (aZ f147 [1,1] R))))) w)):=by kernel_rfl
theorem TA (a:aq->aE):W prog (sb f147 [1,0,1,0,0,1,1,0,0,1,1,1]) (Ft A i k l j) (aW 1 (a1 (λc w=>W prog (sb f147 [1,0,1,0,0,1,1,1]) c (a1 a (aW 0 (aZ f147 [1,1] R))) w) (a1 a (aW 0 (aZ f147 [1,1] R))))) w=(ow A 256 i 1 λb=>cE w b (ah k) λd=>a (mt A (i64.wrap (l+1)) (ab i::ah k::ag j 0 15 [ab i,ah k,jp b,ab (i64.wrap (l+1)),aN j 19])) d):=by kernel_rfl
def vU (e:Int) (s1:aV) (f:an) (a b:Nat) (c d:Int) (j:aq):aq:=ah e::.pointer (some s1)::ag j 0 7 (ae f a b::ab c::ab d::ag j 7 16 [])
def FR (a:Int) (j:aq):aq:=ah a::ag j 0 27 []
theorem Im:bd prog f148 [ah i,a' a,ae s b c] R w=(cx prog (cY f148 [1,0,1,0,0]) (vU i (af a 0) s b c (b:Nat) 0 (ae s b c::bx 3 (ah 0::bx 18 []))) (aW 0 (aZ f148 [1,1] R)) w):=by kernel_rfl
theorem Tq (d:aq->aE):W prog (sb f148 [1,0,1,0,0]) (vU i A s a b k l j) (a1 d (aW 0 (aZ f148 [1,1] R))) w=(cond (l<k) (bB s a l 1 λe=>RM w e λx=>ow A 256 (hs .u8 (IntKind.u8.wrap i) x) 1 λf=>dN w f λc=>d (vU (hs .u64 (c5 .u64 i 8) c) A s a b k (i64.wrap (l+1)) (ag j 0 6 [.int .u8 x,ad (l<k),jp e,.int .u8 x,ah i,ah (c5 .u64 i 8),jp A,ah i,.int .u8 (IntKind.u8.wrap i),.int .u8 x,.int .u8 (hs .u8 (IntKind.u8.wrap i) x),jp A,jp f,ah c,ah (hs .u64 (c5 .u64 i 8) c),ab (i64.wrap (l+1)),aN j 22])) w) (W prog (sb f148 [1,1]) (FR i (jp A::ag j 0 7 (ae s a b::ab k::ab l::ad (l<k)::ag j 8 15 []))) (bW f148 R) w)):=by kernel_rfl
theorem TT:W prog (sb f148 [1,1]) (FR i j) (bW f148 R) w=(R (ah i) w):=by kernel_rfl
def vO (e:an) (a b:Nat) (c:an) (d f:Nat) (g h:Int) (j:aq):aq:=ag j 0 3 (ae e a b::ag j 3 6 (ae c d f::ab g::ab h::ag j 9 16 []))
def Fu (c:an) (a b:Nat) (j:aq):aq:=ag j 0 3 (ae c a b::ag j 3 25 [])
def vP (e:an) (a b:Nat) (k:Int) (c:an) (d f:Nat) (g h i:Int) (j:aq):aq:=ag j 0 3 (ae e a b::ag j 3 1 (ah k::ag j 4 4 (ae c d f::ab g::ab h::ag j 8 3 (ab i::ag j 11 12 []))))
def Fv (e:an) (a b:Nat) (c:an) (d f:Nat) (g h:Int) (j:aq):aq:=ag j 0 3 (ae e a b::ag j 3 6 (ae c d f::ab g::ab h::ag j 9 16 []))
theorem GS:bd prog f239 [ae s a b] R w=(pN 0 (i64.wrap (8 * (a:Nat))) 1 (.cells (iY (Int.toNat (i64.wrap (8 * (a:Nat)))) [.int .u8 0]).toArray 5) w λc d=>cx prog (cY f239 [1,1,0,1,0,0]) (vO (bj c) (Int.toNat 0) (Int.toNat (i64.wrap (8 * (a:Nat)))) s a b (a:Nat) 0 (ae s a b::undef::ah 0::bx 2 (ae s a b::du a::ab (i64.wrap (8 * (a:Nat)))::ae (bj c) (Int.toNat 0) (Int.toNat (i64.wrap (8 * (a:Nat))))::bx 16 []))) (aW 0 (aZ f239 [1,1,1] R)) d):=by kernel_rfl
theorem Sw (e:aq->aE):W prog (sb f239 [1,1,0,1,0,0]) (vO s a b t c d i k j) (a1 e (aW 0 (aZ f239 [1,1,1] R))) w=(cond (k<i) (bB t c k 1 λf=>dN w f λx=>cx prog (cY f239 [1,1,0,1,0,0,1,1,0,0,1,1,0,0]) (vP s a b x t c d i k 0 (ag j 0 4 (ag j 5 4 (ad (k<i)::jp f::ah x::ag j 13 12 [])))) (aW 2 (aW 1 (a1 (λg w=>W prog (sb f239 [1,1,0,1,0,0,1,1,1]) g (a1 e (aW 0 (aZ f239 [1,1,1] R))) w) (a1 e (aW 0 (aZ f239 [1,1,1] R)))))) w) (W prog (sb f239 [1,1,1]) (Fu s a b (ag j 0 9 (ae t c d::ab i::ab k::ad (k<i)::ag j 10 15 []))) (bW f239 R) w)):=by kernel_rfl
theorem TB:W prog (sb f239 [1,1,1]) (Fu s a b j) (bW f239 R) w=(iV 84 #[ae s a b] w λc d=>R (ah c) d):=by kernel_rfl
theorem Sx (g:aq->aE) (o:aq->aE):W prog (sb f239 [1,1,0,1,0,0,1,1,0,0,1,1,0,0]) (vP s a b i t c d k l m j) (a1 o (aW 2 (aW 1 (a1 (λp w=>W prog (sb f239 [1,1,0,1,0,0,1,1,1]) p (a1 g (aW 0 (aZ f239 [1,1,1] R))) w) (a1 g (aW 0 (aZ f239 [1,1,1] R))))))) w=(cond (m<8) (aQ w #[.int .u8 (IntKind.u8.wrap i)] 5 λn r=>cZ 77 (ae s a b) (ae (bj n) 1 1) r λf h e q=>o (vP f h e (c5 .u64 i 8) t c d k l (i64.wrap (m+1)) (ag j 0 11 [ad (m<8),ae s a b,ah i,.int .u8 (IntKind.u8.wrap i),ae (bj n) 1 1,ae f h e,ah i,ah (c5 .u64 i 8),ab (i64.wrap (m+1)),aN j 20,aN j 21,aN j 22])) q) (W prog (sb f239 [1,1,0,1,0,0,1,1,1]) (Fv s a b t c d k l (ag j 0 4 (ah i::ag j 4 7 (ab m::ad (m<8)::ag j 12 11 [])))) (a1 g (aW 0 (aZ f239 [1,1,1] R))) w)):=by kernel_rfl
theorem TC (e:aq->aE):W prog (sb f239 [1,1,0,1,0,0,1,1,1]) (Fv s a b t c d i k j) (a1 e (aW 0 (aZ f239 [1,1,1] R))) w=(e (vO s a b t c d i (i64.wrap (k+1)) (ag j 0 22 [ab (i64.wrap (k+1)),aN j 23,aN j 24])) w):=by kernel_rfl
end
section
def L1 (r:Int):Int:=if gw .u64 r 1=1 then hs .u64 (c5 .u64 r 1) 14514072000185962306 else c5 .u64 r 1
def n3:Nat->Int->Int
 | 0,r=>r
 |n+1,r=>L1 (n3 n r)
def uD (i:Nat):Int:=n3 8 i
def iu:a4:=(List.range 256).map uD
def mX (i:Nat):a4:=(List.range i).map uD++List.replicate (256 - i) 0
theorem KK (h:i<=256):(mX i).length=256:=by simp [mX];omega
theorem KL (h:i<256):(mX i).set i (uD i)=mX (i+1):=by
 unfold mX;rw [k0,jx,List.set_append];simp only [fc,mj,Nat.lt_irrefl,if_false,m3];obtain ⟨m,hm⟩:∃ m,256 - i=m+1:=⟨255 - i,by omega⟩;have e:256 - (i+1)=m:=by omega
 rw [hm,e,o6,tM];simp
theorem KM:mX 256=iu:=by simp [mX,iu]
theorem L2 (n:Nat):us (List.replicate n 0)=List.replicate n (.int .u64 0):=by simp [us]
theorem Ll (l:a4) (i:Nat) (x:Int):(us l).set i (.int .u64 x)=us (l.set i x):=by simp [us]
theorem Aj (l:a4):h0.cells ⟨l⟩=us l:=rfl
abbrev yq:TypeId:=239
theorem Io (w:al):ba 147 [] w λv w'=>v=h0.val ⟨iu⟩/\ai w w':=by
 refine bc Tryz.func147 ?_;rw [GR];rintro b1 w1 r n;obtain ⟨h,g⟩:=bk r n;have h:av w1 b1 (us (mX 0)) yq:=by have e:us (mX 0)=List.replicate 256 (.int .u64 0):=L2 256;rw [e];exact h
 clear n;refine c1 mix (λm env u=>∃ (i:Nat) (p:aw),m=256 - i/\i<=256/\env=mt ⟨b1,0,none⟩ i p/\ai w u/\av u b1 (us (mX i)) yq) 256 ⟨0,_,rfl,by omega,rfl,g,h⟩ ?_;rintro m env u ⟨i,p,rfl,C,rfl,l,b⟩;rw [SS];refine a9 (λj=>?_) (λB=>?_)
 ·rw [jV (x:=(i:Int)) (by omega) (by omega)];refine c1 mix (λz c y=>∃ (k:Nat) (p:aw),z=8 - k/\k<=8/\c=sX ⟨b1,0,none⟩ i (n3 k i) i k p/\y=u) 8 ⟨0,_,rfl,by omega,rfl,rfl⟩ ?_;rintro z c y ⟨k,D,rfl,F,rfl,rfl⟩;rw [ST,bA (x:=(k:Int)+1) (by omega) (by omega)];refine a9 (λf=>?_) (λf=>?_)
  ·refine dJ (λq=>?_) (λq=>?_)
   ·have e:n3 (k+1) i=hs .u64 (c5 .u64 (n3 k i) 1) 14514072000185962306:=if_pos q;rw [<-e];exact ⟨8 - (k+1),by omega,k+1,_,rfl,by omega,rfl,rfl⟩
   ·have e:n3 (k+1) i=c5 .u64 (n3 k i) 1:=if_neg q;rw [<-e];exact ⟨8 - (k+1),by omega,k+1,_,rfl,by omega,rfl,rfl⟩
  ·have f:k=8:=by omega
   subst f;rw [TA,bA (x:=(i:Int)+1) (by omega) (by omega)];refine tx (by omega) (by omega) ?_;have A:0+(i:Int).toNat * 1=i:=by omega
   rw [A];refine rT b (o:=i) (by rw [hg,KK C];omega) λE a d=>?_
   rw [Ll,show n3 8 (i:Int)=uD i from rfl,KL (by omega)] at a;have G:=g.size;exact ⟨256 - (i+1),by omega,i+1,_,rfl,by omega,rfl,l.trans d λk j e=>by omega,a⟩
 ·have s:i=256:=by omega
  subst s;rw [wd];rw [KM] at b;have t:iu.length=256:=by simp [iu]
  refine h0.aS ⟨iu⟩ t ⟨bI b (by rw [Aj];exact gb (dd _)),?_⟩;refine dC (vs:=us iu) b rfl (oB _) λE a d=>?_
  exact h0.aS ⟨iu⟩ t ⟨bI a (by rw [Aj];exact gb (dd _)),rfl,rfl,l.trans d λk j e=>by have:=g.size;omega⟩
def mW (r x:Int):Int:=hs .u64 (c5 .u64 r 8) (iu.getD (hs .u8 (IntKind.u8.wrap r) x).toNat 0)
theorem NK (x:Int):0<=IntKind.u8.wrap x/\IntKind.u8.wrap x<256:=by simp only [IntKind.wrap,IntKind.bits,IntKind.signed];simp;omega
def j4 (l:a4):aw:=l.map (Value.int .u8)
theorem Lm (h:l[i]?=some x):(j4 l)[i]?=some (.int .u8 x):=by simp [j4,h]
theorem Fr {f:Int->Int->Int} {r:Int} (h:l[i]?=some x):(l.take (i+1)).foldl f r=f ((l.take i).foldl f r) x:=by rw [eT,h,wW];rfl
theorem KN (r:Int) {tb:Nat} (C:av w tb (us iu) yq) (B:bg w a (j4 l)) (A:n=l.length) (E:n<=1000000) :
  ba 148 [.int .u64 r,.pointer (some ⟨tb,0,none⟩),.slice a n c] w λv w'=>v=.int .u64 (l.foldl mW r)/\w'=w:=by
 subst A;refine bc Tryz.func148 ?_;rw [Im];refine c1 mix (λm env u=>∃ (i:Nat) (k:aw),m=l.length - i/\i<=l.length/\env=vU ((l.take i).foldl mW r) ⟨tb,0,none⟩ a l.length c l.length i k/\u=w) l.length ⟨0,_,rfl,by omega,rfl,rfl⟩ ?_;rintro m env u ⟨i,k,rfl,F,rfl,rfl⟩;rw [Tq];refine a9 (λt=>?_) (λs=>?_)
 ·obtain ⟨x,h⟩:∃ x,l[i]?=some x:=⟨_,bM (by omega)⟩;rcases B with he | ⟨b,o,rfl,p⟩
  ·have D:l.length=0:=by have:=congrArg List.length he;rwa [j4,fc] at this
   omega
  refine dT (by omega) (by omega) ⟨x,by simpa using p i _ (Lm h),?_⟩;have d:0<=hs .u8 (IntKind.u8.wrap ((l.take i).foldl mW r)) x/\hs .u8 (IntKind.u8.wrap ((l.take i).foldl mW r)) x<256:=NK _;have G:iu.length=256:=by simp [iu]
  refine tx d.1 d.2 ?_;generalize g:hs .u8 (IntKind.u8.wrap ((l.take i).foldl mW r)) x=q at d ⊢;obtain ⟨y,j⟩:∃ y,iu[q.toNat]?=some y:=⟨_,bM (by omega)⟩;refine ⟨y,by rw [Nat.mul_one];exact av.cell C (by simpa using r' j),?_⟩;rw [bA (x:=(i:Int)+1) (by omega) (by omega)];have e:(l.take (i+1)).foldl mW r=hs .u64 (c5 .u64 ((l.take i).foldl mW r) 8) y:=by rw [Fr h];generalize (l.take i).foldl mW r=z at g;show hs .u64 (c5 .u64 z 8) (iu.getD (hs .u8 (IntKind.u8.wrap z) x).toNat 0)=_;rw [g,cK,j];rfl
  dsimp only;rw [<-e];exact ⟨l.length - (i+1),by omega,i+1,_,rfl,by omega,rfl,rfl⟩
 ·have f:i=l.length:=by omega
  subst f;rw [TT,hq];exact ⟨rfl,rfl⟩
def uE (r:Int) (l:a4):Int:=hs .u64 18446744073709551615 (l.foldl mW (hs .u64 18446744073709551615 r))
theorem Hv (r:Int) (i:bg w a (j4 l)) (h:n=l.length) (g:n<=1000000) :
  ba 113 [.int .u64 r,.slice a n c] w λv w'=>v=.int .u64 (uE r l)/\ai w w':=by
 refine bc Tryz.func113 ?_;rw [Gs];refine aD (Io w) ?_;rintro v w1 ⟨rfl,d⟩;have f:iu.length=256:=by simp [iu]
 refine h0.aS ⟨iu⟩ f ⟨rfl,?_⟩;refine dU (zs:=List.replicate 256 (.int .u64 0)) (vs:=us iu) (by rw [hg,w2];exact f) (oB _) λb k j au e=>?_
 refine aD (KN _ au (i.new (d.new e)) h g) ?_;rintro v o ⟨rfl,rfl⟩;exact ⟨_,rfl,rfl,d.new e⟩
theorem Ip (f:bg w a (j4 l)) (e:n=l.length) (d:n<=1000000) :
  ba 84 [.slice a n c] w λv w'=>v=.int .u64 (uE 0 l)/\ai w w':=by
 refine bc Tryz.func84 ?_;rw [GQ];refine aD (Hv 0 f e d) ?_;rintro v w1 ⟨rfl,b⟩;exact ⟨_,rfl,rfl,b⟩
def rA:Nat->Int->Int
 | 0,x=>x
 |k+1,x=>c5 .u64 (rA k x) 8
def oZ (x:Int):a4:=(List.range 8).map λk=>IntKind.u8.wrap (rA k x)
theorem Ln (x:Int):(oZ x).length=8:=by unfold oZ;rw [fc,mj]
def n2 (ws:a4):a4:=(ws.map oZ).flatten
def qO (ws:a4):Int:=uE 0 (n2 ws)
theorem Iy (ws:a4):(n2 ws).length=8 * ws.length:=by
 induction ws with
 |nil=>rfl
 |cons x ws a=>have:n2 (x::ws)=oZ x++n2 ws:=rfl;rw [this,c8,a];simp [oZ];omega
theorem KO (ws:a4):b3 (qO ws):=by unfold qO uE b3;generalize (List.foldl mW _ _)=z;simp only [hs,IntKind.wrap,IntKind.bits,IntKind.signed];simp;omega
abbrev sB:TypeId:=5
def oT (ws:a4) (i k:Nat):a4:=n2 (ws.take i)++((oZ (ws.getD i 0)).take k)
theorem Iq (Un:bg w a (us ws)) (Ul:n=ws.length) (Ur:n<=10000) :
  ba 239 [.slice a n c] w λv w'=>v=.int .u64 (qO ws)/\ai w w':=by
 subst Ul;refine bc Tryz.func239 ?_;rw [GS,bA (x:=8 * (ws.length:Int)) (by omega) (by omega)];refine ⟨by omega,by omega,by omega,by omega,?_⟩;rintro b1 w1 G C;obtain ⟨O,J⟩:=bk G C;clear C;obtain ⟨inf,s,P,d,Z⟩:=fp (T:=sB) (z:=.int .u8 0) (n:=1) (m:=1) (by kernel_rfl);have Q:Int.toNat (8 * (ws.length:Int))=8 * ws.length:=by omega
 have A:aY w1 sB 1 (some ⟨b1,0,none⟩) 0 (8 * ws.length) (j4 []):=by refine ⟨rfl,.inr ⟨b1,_,rfl,O,by omega,by unfold maxLen;omega,?_,by simp [j4]⟩⟩;rw [Q];simp [iY]
 refine c1 mix (λm env u=>∃ (i:Nat) (aX:an) (pc:Nat) (E:aw),m=ws.length - i/\i<=ws.length/\env=vO aX (8 * i) pc a ws.length c ws.length i E/\ai w u/\aY u sB 1 aX (8 * i) pc (j4 (n2 (ws.take i)))/\∀ k,aL aX k->w.heap.size<=k) ws.length
  ⟨0,some ⟨b1,0,none⟩,8 * ws.length,_,rfl,by omega,by rw [Q];rfl,J,A,λk S=>?_⟩ ?_
 ·obtain ⟨o,t⟩:=S;simp at t <;> omega
 rintro m env u ⟨i,aX,pc,E,rfl,Us,rfl,h,t,L⟩;rw [Sw];refine a9 (λUk=>?_) (λUj=>?_)
 ·obtain ⟨x,N⟩:∃ x,ws[i]?=some x:=⟨_,bM (by omega)⟩;have D:ws.getD i 0=x:=by rw [cK,N];rfl
  have M:=Un.new h;rcases M with he | ⟨b,o,rfl,Ui⟩
  ·have Uq:ws.length=0:=by have:=congrArg List.length he;rwa [us,fc] at this
   omega
  refine dT (by omega) (by omega) ⟨x,by simpa using Ui i _ (r' N),?_⟩;refine c1 mix (λU f y=>∃ (k:Nat) (aX:an) (pc:Nat) (E:aw),U=8 - k/\k<=8/\f=vP aX (8 * i+k) pc (rA k x) (some ⟨b,o,none⟩) ws.length c ws.length i k E/\ai w y/\aY y sB 1 aX (8 * i+k) pc (j4 (oT ws i k))/\∀ k,aL aX k->w.heap.size<=k) 8
   ⟨0,aX,pc,_,rfl,by omega,rfl,h,by simpa [oT] using t,L⟩ ?_
  rintro U f y ⟨k,V,W,Uo,rfl,S,rfl,j,l,p⟩;rw [Sx];refine a9 (λg=>?_) (λg=>?_)
  ·have B:aY y sB inf.size V (8 * i+k) W (j4 (oT ws i k)):=by rw [d];exact l
   refine nI (vs:=[.int .u8 (IntKind.u8.wrap (rA k x))]) Tryz.underlying77 s P (by rw [d];rfl) (by omega) B (by rw [d];rfl) (by intro v aj;simp at aj;subst aj;rfl) (by omega) (by omega) ?_;intro Up ap r Ut Y R I F;rw [d] at R;rw [bA (x:=(k:Int)+1) (by omega) (by omega)];refine ⟨8 - (k+1),by omega,k+1,ap,r,_,rfl,by omega,rfl,q8 j I p,?_,?_⟩
   ·have e:j4 (oT ws i k)++[Value.int .u8 (IntKind.u8.wrap (rA k x))]=j4 (oT ws i (k+1)):=by unfold oT;rw [D,eT,show (oZ x)[k]?=some (IntKind.u8.wrap (rA k x)) by simp [oZ,lA (show k<8 by omega)]];simp [j4]
    rw [<-e];exact R
   ·intro q Um;rcases F q Um with e | e
    ·exact p q e
    ·have:=j.size;omega
  ·have g:k=8:=by omega
   subst g;rw [TC,bA (x:=(i:Int)+1) (by omega) (by omega)];refine ⟨ws.length - (i+1),by omega,i+1,V,W,_,rfl,by omega,rfl,j,?_,p⟩;have e:oT ws i 8=n2 (ws.take (i+1)):=by
    have X:ws.take (i+1)=ws.take i++[x]:=by rw [eT,N];rfl
    unfold oT n2;rw [D,X,jx,List.flatten_append,gb (i:=8) (by rw [Ln];omega)];simp
   rw [e] at l;exact l
 ·have H:i=ws.length:=by omega
  subst H;rw [TB];rw [hq] at t;refine aD (Ip t.rd (Iy ws).symm (by omega)) ?_;rintro v Uu ⟨rfl,K⟩;exact ⟨_,rfl,rfl,h.new K⟩
end
section
def pH (lines n:Nat):a4:=(((List.replicate (lines * 8) 0).set 0 1).set 1 1).set 8 (nA 1 1 (mE n))
def oM:Nat->Nat->a4->a4
 | 0,_,ws=>ws
 |k+1,c,ws=>oM k (c+1) (ws.set (24+c) 1)
def oN:Nat->Nat->a4->a4
 | 0,_,ws=>ws
 |k+1,l,ws=>oN k (l+1) (ws.set (l * 8) 256)
def fmt (lines n:Nat):a4:=oN (lines - 96) 96 (oM 6 0 (pH lines n))
theorem M8 (n:Nat) (x:Int):List.replicate n (Value.int .u64 x)=us (List.replicate n x):=by simp [us]
theorem M9 (h:n<=5):0<=nA 1 1 (mE n)/\nA 1 1 (mE n)<18446744073709551616:=by have:=Dm h;unfold nA;omega
def oO (ws:a4):Prop:=∀ x ∈ ws,0<=x/\x<18446744073709551616
theorem oO.set {ws:a4} (h:oO ws) {x:Int} (b:0<=x/\x<18446744073709551616) (i:Nat):oO (ws.set i x):=λy c=>by
 rcases ks c with a | rfl
 ·exact h y a
 ·exact b
abbrev sC:TypeId:=30
theorem tI {u w0:al} {len:Nat} {i:Int} {K:aV->aE} (au:av u b (us ws) sC) (g:ai w0 u) (c:w0.heap.size<=b) (a:0<=i) (j:i<ws.length) (hlen:len=ws.length)
  (f:∀ bu bo,av bo b (us (ws.set i.toNat x)) sC->ai w0 bo->K bu bo):bB (some ⟨b,0,none⟩) len i 1 λbu=>(∃ bo,u.cell? bu=some bo)/\u.frozen? bu=false/\∀ w',w'=u.setCell bu (.int .u64 x)->K bu w':=by
 refine dT a (by omega) ?_;have e:0+i.toNat * 1=i.toNat:=by omega
 rw [e];have d:∃ y,ws[i.toNat]?=some y:=⟨_,bM (by omega)⟩;obtain ⟨y,h⟩:=d;refine ⟨⟨_,au.cell (r' h)⟩,au.frozen,?_⟩;rintro w' rfl;refine f _ _ ?_ (ao.setCell g (.inr c) _);have:=au.setCell (i:=i.toNat) (.int .u64 x);rwa [show (us ws).set i.toNat (.int .u64 x)=us (ws.set i.toNat x) by simp [us,iD]] at this
theorem KP {aK:Nat} {s:aH} (h:dK w b aK s) (W:s.words.length=lines * 8) (T:98<=lines) (P:lines<=256) (aA:s.down=false) (S:1<=n) (J:n<=5) :
  ba 75 [ptr b,.int .i64 n] w λv w'=>v=.int .i64 0/\dK w' b aK ⟨fmt lines n,false⟩/\ao (λk=>k=aK) w w':=by
 have hdiv:s.words.length / 8=lines:=by omega
 have N:=Dm J;refine bc Tryz.func75 ?_;rw [ptr,Ts];refine aD (JL _ S J) ?_;rintro v w1 ⟨rfl,rfl⟩;refine ⟨_,_,rfl,dw rfl ?_⟩;refine aD (wh h) ?_;rintro v w1 ⟨rfl,rfl⟩;refine ⟨_,rfl,a9 (λL=>by omega) λ_=>?_⟩
 refine aD (DH h) ?_;rintro v w1 ⟨rfl,rfl⟩;refine ⟨_,rfl,dw (by simp [aA]) ?_⟩;refine aD (wh h) ?_;rintro v w1 ⟨rfl,rfl⟩;refine ⟨_,rfl,?_⟩;rw [hdiv];refine aD (LX _ (by omega) (by omega)) ?_;rintro v w1 ⟨rfl,rfl⟩;refine ⟨_,rfl,by omega,by omega,by omega,by omega,?_⟩;have R:Int.toNat ((lines:Int) * 8)=lines * 8:=by omega
 rw [R,Bx,M8];rintro b1 Y K E;obtain ⟨d,g⟩:=bk K E;replace d:av Y b1 (us (List.replicate (lines * 8) 0)) sC:=d;clear E;have j:w1.heap.size<=b1:=by omega
 refine aD (M6 _) ?_;rintro v Z ⟨rfl,rfl⟩;refine ⟨_,_,rfl,?_⟩;refine tI (len:=lines * 8) (i:=0) (x:=1) d g j (by omega) (by simp;omega) (by simp) ?_;intro bu Ui F z;refine tI F z j (by omega) (by simp;omega) (by simp) ?_;intro bu Uj G A;refine aD (Hu _ _) ?_;rintro v Uk ⟨rfl,q⟩;refine ⟨_,rfl,?_⟩;refine aD (GN _ (by omega) (by omega) N.1) ?_;rintro v Ul ⟨e,rfl,rfl⟩;refine ⟨_,_,rfl,?_⟩;have M:u4 1 1 (mE n)=nA 1 1 (mE n):=by unfold u4;rw [if_pos (by omega)]
 rw [M];refine tI (ai.ak q G) (A.new q) j (by decide) (by simp [m5];omega) (by simp) ?_;intro bu Um r B;have y:(((List.replicate (lines * 8) 0).set (Int.toNat 0) 1).set (Int.toNat 1) 1).set (m5 1 16 0).toNat (nA 1 1 (mE n))=pH lines n:=rfl;rw [y] at r;have p:(pH lines n).length=lines * 8:=by simp [pH]
 have O:oO (pH lines n):=((oO.set (oO.set (λx X=>by simp at X <;> omega) (by omega) _) (by omega) _).set (M9 J) _);clear y d F G g z A q;refine c1 mix (λm env u=>∃ (c:Nat) (ws:a4) (H:aw),m=6 - c/\c<=6/\env=vE ⟨b,0,none⟩ (some ⟨b1,0,none⟩) (lines * 8) (lines * 8) c H/\av u b1 (us ws) sC/\ai w1 u/\ws.length=lines * 8/\oO ws/\oM (6 - c) c ws=oM 6 0 (pH lines n)) 6
  ⟨0,_,_,rfl,by omega,rfl,r,B,p,O,rfl⟩ ?_
 rintro m env u ⟨c,ws,H,rfl,L,rfl,au,l,hlen,hw,a⟩;rw [Q7];refine a9 (λI=>?_) (λI=>?_)
 ·refine aD (M7 _ _) ?_;rintro v bH ⟨rfl,C⟩;have D:m5 3 6 (c:Int)=24+c:=by unfold m5;rw [if_neg (by omega)];omega
  refine ⟨_,rfl,?_⟩;rw [D];refine tI (ai.ak C au) (l.new C) j (by omega) (by omega) (by omega) ?_;intro bu bY d g;rw [bA (by omega) (by omega)];refine ⟨6 - (c+1),by omega,c+1,_,_,rfl,by omega,rfl,d,g,by simpa using hlen,hw.set (by omega) _,?_⟩;rw [show 6 - c=6 - (c+1)+1 by omega,oM] at a;rw [show Int.toNat (24+(c:Int))=24+c by omega];exact a
 ·have o:c=6:=by omega
  subst o;rw [R5];rw [m3,oM] at a;have Q:oN (lines - 96) 96 ws=fmt lines n:=by rw [fmt,<-a]
  clear a;refine c1 mix (λm env u=>∃ (c:Nat) (ws:a4) (H:aw),m=lines - c/\96<=c/\c<=lines/\env=vF ⟨b,0,none⟩ (some ⟨b1,0,none⟩) (lines * 8) (lines * 8) c H/\av u b1 (us ws) sC/\ai w1 u/\ws.length=lines * 8/\oO ws/\oN (lines - c) c ws=fmt lines n) (lines - 96)
   ⟨96,_,_,rfl,by omega,by omega,rfl,au,l,hlen,hw,Q⟩ ?_
  clear Q au l hlen hw r B I L;rintro m env u ⟨c,ws,H,rfl,L,U,rfl,au,l,hlen,hw,a⟩;rw [Q8];refine aD (wh (h.new l)) ?_;rintro v bH ⟨rfl,rfl⟩;refine ⟨_,rfl,?_⟩;rw [hdiv];refine a9 (λI=>?_) (λI=>?_)
  ·refine aD (p2 _ (by omega) (by omega)) ?_;rintro v bY ⟨rfl,rfl⟩;refine ⟨_,rfl,?_⟩;refine aD (Iw _) ?_;rintro v bY ⟨rfl,rfl⟩;refine ⟨_,_,rfl,?_⟩;refine tI au l j (by omega) (by omega) (by omega) ?_;intro bu bY d g;rw [bA (by omega) (by omega)];refine ⟨lines - (c+1),by omega,c+1,_,_,rfl,by omega,by omega,rfl,d,g,by simpa using hlen,hw.set (by omega) _,?_⟩;rw [show lines - c=lines - (c+1)+1 by omega,oN] at a;rw [show Int.toNat ((c:Int) * 8)=c * 8 by omega];exact a
  ·have o:c=lines:=by omega
   subst o;rw [R6];rw [m3,oN] at a;rw [<-hlen];refine aD (GE (h.new l) 0 (e9 au (by rw [tS];exact gb (dd _))) hw (λh=>by cases h)) ?_;rintro v br ⟨rfl,f,V⟩;have t:s.e3 0 ws.length=0:=by unfold aH.e3;rw [if_neg (by omega),if_neg (by simp [aA])]
   rw [t] at f ⊢;rw [if_pos rfl] at f;refine ⟨_,rfl,rfl,?_,(ao.bZ l).trans V (λ_ _ h=>h)⟩;have:s.write (Int.toNat 0) ws=⟨fmt c n,false⟩:=by unfold aH.write;rw [<-a];simp [aA,W,hlen]
   rw [<-this];exact f
theorem z':∀ (k c:Nat) (ws:a4),(oM k c ws).length=ws.length
 | 0,_,_=>rfl
 |k+1,c,ws=>by rw [oM,z'];simp
theorem Aa:∀ (k c:Nat) (ws:a4),(oN k c ws).length=ws.length
 | 0,_,_=>rfl
 |k+1,c,ws=>by rw [oN,Aa];simp
theorem BS (lines n:Nat):(fmt lines n).length=lines * 8:=by rw [fmt,Aa,z'];simp [pH]
def aB.fmt (F:aB):aB:={ F with nodes:=F.nodes.map λ_=>⟨Go.Proofs.YtmkljjbioomepaaGreat.fmt F.lines F.nodes.length,false⟩ }
def BB (F:aB):Prop:=98<=F.lines/\F.lines<=256/\1<=F.nodes.length/\F.nodes.length<=5/\∀ n ∈ F.nodes,n.words.length=F.lines * 8/\n.down=false
theorem y6 (X:bl):X.pure.nodes.length=X.nodes.length:=by simp [bl.pure]
theorem Hx {A:a2} {ar:Nat->Tag} {aM:Nat} {X:bl} (h:bX A ar w aM X) (I:BB X.pure) :
  ba 47 [ptr aM] w λv w'=>v=.int .i64 0/\dD A ar w aM X.pure.fmt w' λ_=>True:=by
 obtain ⟨f1,f2,f3,f4,f5⟩:=I;rw [y6] at f3 f4;refine bc Tryz.func47 ?_;rw [ptr,S5];refine aD (BY h) ?_;rintro v w1 ⟨rfl,rfl⟩;refine ⟨_,rfl,?_⟩;let a:Nat:=X.nodes.length;refine c1 mix (λm env u=>∃ (i:Nat) (A':a2) (χ':Nat->Tag) (b:bl) (D:aw),m=a - i/\i<=a/\env=vx ⟨aM,0,none⟩ a i D/\Next A A' ar χ' w1 u/\bX A' χ' u aM b/\b.nodes.length=a/\b.lines=X.lines/\(∀ x ∈ b.nodes,x.n.words.length=X.lines * 8/\x.n.down=false)/\
   b.pure={ X.pure with nodes:=List.replicate i ⟨fmt X.lines a,false⟩++X.pure.nodes.drop i }) a
  ⟨0,A,ar,X,_,rfl,by omega,rfl,h.refl (ao.refl _ _),h,rfl,rfl,λx f=>f5 x.n (cD.2 ⟨x,f,rfl⟩),by simp⟩ ?_
 rintro m env u ⟨i,A',χ',b,D,rfl,L,rfl,o,g,j,r,l,d⟩;rw [Ql];refine a9 (λK=>?_) (λK=>?_)
 ·have t:i<b.nodes.length:=by omega
  obtain ⟨x,f⟩:∃ x,b.nodes[i]?=some x:=⟨_,bM t⟩;refine aD (Ae g f) ?_;rintro v bH ⟨rfl,rfl⟩;refine ⟨_,rfl,?_⟩;refine aD (BY g) ?_;rintro v bH ⟨rfl,rfl⟩;refine ⟨_,rfl,?_⟩;obtain ⟨z,B⟩:=l x (cj f);rw [j];refine aD (KP (g.node i x f).node z f1 f2 B (by show 1<=a;omega) (by show a<=5;omega)) ?_;rintro v bY ⟨rfl,c,J⟩;refine ⟨_,rfl,dw rfl ?_⟩;obtain ⟨E,p,q⟩:=g.setNode f (J.mono λk _ e=>.inr e) c;rw [bA (by omega) (by omega)];refine ⟨a - (i+1),by omega,i+1,E,χ',_,_,rfl,by omega,rfl,o.trans p,q,by simpa using j,r,?_,?_⟩
  ·intro y C;rcases ks C with C | rfl
   ·exact l y C
   ·refine ⟨?_,rfl⟩;have:=c.len;show (fmt X.lines a).length=_;rw [BS]
  ·have hlen:X.pure.nodes.length=a:=y6 X;have F:b.pure.nodes=List.replicate i ⟨fmt X.lines a,false⟩++X.pure.nodes.drop i:=by rw [d]
   have G:b.nodes.map iz.n=List.replicate i ⟨fmt X.lines a,false⟩++X.pure.nodes.drop i:=F;have H:({ b with nodes:=b.nodes.set i { x with n:=⟨fmt X.lines a,false⟩ } }:bl).pure={ b.pure with nodes:=(b.nodes.map iz.n).set i ⟨fmt X.lines a,false⟩ }:=by simp [bl.pure,iD]
   rw [H,G,d];congr 1;rw [wO _ _ (by simp)];simp only [w2,m3];rw [List.replicate_succ',jW];congr 1;rw [qa (by omega)];rfl
 ·have s:i=a:=by omega
  subst s;rw [Q4];refine ⟨rfl,A',χ',b,o,g,?_,trivial⟩;rw [d];unfold aB.fmt;have hlen:X.pure.nodes.length=a:=y6 X;congr 1;rw [List.drop_of_length_le (by omega),g_,hlen,<-hlen];rw [List.map_const'];rfl
theorem Ir (d:1<=n/\n<=5) (a:98<=lines/\lines<=256):BB (aB.init n c lines):=by refine ⟨a.1,a.2,by simp [aB.init];omega,by simp [aB.init];omega,?_⟩;intro x b;simp [aB.init] at b;rw [b.2];simp [ry,aB.init];omega
def aB.fresh (n c lines:Nat):aB:=⟨lines,List.replicate n ⟨Go.Proofs.YtmkljjbioomepaaGreat.fmt lines n,false⟩,(List.range c).map (jN n),[]⟩
theorem KQ (n c lines:Nat):(aB.init n c lines).fmt=aB.fresh n c lines:=by simp [aB.fmt,aB.init,aB.fresh]
theorem Ca (q:1<=n/\n<=5) (b:1<=c/\c<=6) (p:98<=lines/\lines<=256):ba 23 [.int .i64 n,.int .i64 c,.int .i64 lines] w λv w'=>
  ∃ aM A ar X,v=.tuple #[ptr aM,.bool true]/\bX A ar w' aM X/\ai w w'/\(∀ k,A k->w.heap.size<=k)/\X.pure=aB.fresh n c lines:=by
 refine bc Tryz.func23 ?_;rw [SY];refine aD (M5 q b ⟨by omega,p.2⟩) ?_;rintro v w1 ⟨aM,A,ar,X,rfl,g,d,e,l⟩;refine ⟨_,_,rfl,dw rfl (dw rfl ?_)⟩;refine aD (Hx g (by rw [l];exact Ir q p)) ?_;rintro v s ⟨rfl,A',χ',r,a,h,i,_⟩;refine ⟨_,rfl,dw rfl ⟨aM,A',χ',r,rfl,h,?_,?_,?_⟩⟩
 ·refine d.trans a.ax (λk o f=>?_);have:=e k (g.eO k f);omega
 ·intro k o;by_cases j:k<w1.heap.size
  ·rcases (a.iff k).1 o with b | b
   ·exact e k (g.eO k (a.grow k j b))
   ·exact e k b.2.1
  ·have:=d.size;omega
 ·rw [i,l,KQ]
end
end Go.Proofs.YtmkljjbioomepaaGreat
