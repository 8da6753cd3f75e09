import Derived.Test.YtmkljjbioomepaaGreatProg
import Derived.Test.YtmkljjbioomepaaGreatf02
import Derived.Test.YtmkljjbioomepaaGreatf01
import Derived.Laws.StructEq
import Derived.RangeFuncNested
import Derived.RangeFuncBound
import Derived.RangeFuncCalls
import Derived.RangeFuncLeaves
set_option linter.all false
set_option maxHeartbeats 4000000
set_option maxRecDepth 100000
namespace Go.Proofs.YtmkljjbioomepaaGreat
open Go.Proofs.Tryz Go.bd
section
open IntKind
variable (w:aj)(R:bg){s t:an}{a b c d:Nat}{i k l m:Int}{A:aw}{j:al}
theorem K4:bc prog f84 [af s a b] R w=(iJ 113 #[ag 0,af s a b] w λc d=>R (ag c) d):=by kernel_rfl
theorem KL:bc prog f113 [ag i,af s a b] R w=(WF 147 #[] w λd h=>aR h ((List.replicate 256 (ag 0)).toArray) 239 λe j=>a8 j (ah e 0) 0 d.cells λf=>iJ 148 #[ag (fc .u64 18446744073709551615 i),bb e,af s a b] f λc g=>R (ag (fc .u64 18446744073709551615 c)) g):=by kernel_rfl
def yN (a:aw)(b:Int)(j:al):al:=.pointer (some a)::ae j 0 2 (ab b::ae j 2 20 [])
def Ja (a:aw)(j:al):al:=.pointer (some a)::ae j 0 23 []
def vo (a:aw)(s1 s2 b s8:Int)(j:al):al:=.pointer (some a)::ab s1::ag s2::ab b::ae j 0 4 (ab s8::ae j 4 15 [])
def Jb (a:aw)(s1 s2 b:Int)(j:al):al:=.pointer (some a)::ab s1::ag s2::ab b::ae j 0 20 []
theorem K5  : bc prog f147 [] R w=(aR w ((List.replicate 256 (ag 0)).toArray) 239 λb1 w1=>cj prog (cN f147 [1,0,1,0,0]) (yN (ah b1 0) 0 (a1 22 [])) (aL 0 (aS f147 [1,1] R)) w1):=by kernel_rfl
theorem Zh (b:al->aK):W prog (sb f147 [1,0,1,0,0]) (yN A i j) (aM b (aL 0 (aS f147 [1,1] R))) w=(cond (i<256) (cj prog (cN f147 [1,0,1,0,0,1,1,0,0,1,1,0,1,0,0]) (vo A i (u64.wrap i) i 0 (ad (i<256)::ab i::ab i::ag (u64.wrap i)::ae j 7 15 [])) (aL 2 (aM (λa w=>W prog (sb f147 [1,0,1,0,0,1,1,0,0,1,1,1]) a (aL 1 (aM (λa w=>W prog (sb f147 [1,0,1,0,0,1,1,1]) a (aM b (aL 0 (aS f147 [1,1] R))) w) (aM b (aL 0 (aS f147 [1,1] R))))) w) (aL 1 (aM (λa w=>W prog (sb f147 [1,0,1,0,0,1,1,1]) a (aM b (aL 0 (aS f147 [1,1] R))) w) (aM b (aL 0 (aS f147 [1,1] R))))))) w) (W prog (sb f147 [1,1]) (Ja A (aB j 0::aB j 1::ab i::ad (i<256)::ae j 3 19 [])) (bV f147 R) w)):=by kernel_rfl
theorem Jz:W prog (sb f147 [1,1]) (Ja A j) (bV f147 R) w=(Ip w A λr=>a8 w A 0 r.cells λa=>Ip a A λb=>a=a/\R b.val a):=by kernel_rfl
theorem Zi (b:al->aK)(c:al->aK):W prog (sb f147 [1,0,1,0,0,1,1,0,0,1,1,0,1,0,0]) (vo A i k l m j) (aM c (aL 2 (aM (λa w=>W prog (sb f147 [1,0,1,0,0,1,1,0,0,1,1,1]) a (aL 1 (aM (λa w=>W prog (sb f147 [1,0,1,0,0,1,1,1]) a (aM b (aL 0 (aS f147 [1,1] R))) w) (aM b (aL 0 (aS f147 [1,1] R))))) w) (aL 1 (aM (λa w=>W prog (sb f147 [1,0,1,0,0,1,1,1]) a (aM b (aL 0 (aS f147 [1,1] R))) w) (aM b (aL 0 (aS f147 [1,1] R)))))))) w=(cond (m<8) (cond (((ee .u64 k 1):Int) == 1) (c (vo A i (fc .u64 (cD .u64 k 1) 14514072000185962306) l (i64.wrap (m+1)) (ae j 0 4 (ad (m<8)::ag k::ag (ee .u64 k 1)::ad (((ee .u64 k 1):Int) == 1)::ag k::ag (cD .u64 k 1)::ag (fc .u64 (cD .u64 k 1) 14514072000185962306)::aB j 11::aB j 12::ab (i64.wrap (m+1))::ae j 14 5 []))) w) (c (vo A i (cD .u64 k 1) l (i64.wrap (m+1)) (ae j 0 4 (ad (m<8)::ag k::ag (ee .u64 k 1)::ad (((ee .u64 k 1):Int) == 1)::aB j 8::aB j 9::aB j 10::ag k::ag (cD .u64 k 1)::ab (i64.wrap (m+1))::ae j 14 5 []))) w)) (W prog (sb f147 [1,0,1,0,0,1,1,0,0,1,1,1]) (Jb A i k l (ae j 0 4 (ab m::ad (m<8)::ae j 5 14 []))) (aL 1 (aM (λa w=>W prog (sb f147 [1,0,1,0,0,1,1,1]) a (aM b (aL 0 (aS f147 [1,1] R))) w) (aM b (aL 0 (aS f147 [1,1] R))))) w)):=by kernel_rfl
theorem JA (a:al->aK):W prog (sb f147 [1,0,1,0,0,1,1,0,0,1,1,1]) (Jb A i k l j) (aL 1 (aM (λc w=>W prog (sb f147 [1,0,1,0,0,1,1,1]) c (aM a (aL 0 (aS f147 [1,1] R))) w) (aM a (aL 0 (aS f147 [1,1] R))))) w=(gC A 256 i 1 λb=>cM w b (ag k) λd=>a (yN A (i64.wrap (l+1)) (ab i::ag k::ae j 0 15 [ab i,ag k,jp b,ab (i64.wrap (l+1)),aB j 19])) d):=by kernel_rfl
def yY (e:Int)(s1:aw)(f:an)(a b:Nat)(c d:Int)(j:al):al:=ag e::.pointer (some s1)::ae j 0 7 (af f a b::ab c::ab d::ae j 7 16 [])
def CB (a:Int)(j:al):al:=ag a::ae j 0 27 []
theorem L8:bc prog f148 [ag i,bb a,af s b c] R w=(cj prog (cN f148 [1,0,1,0,0]) (yY i (ah a 0) s b c (b:Nat) 0 (af s b c::a1 3 (ag 0::a1 18 []))) (aL 0 (aS f148 [1,1] R)) w):=by kernel_rfl
theorem aae (d:al->aK):W prog (sb f148 [1,0,1,0,0]) (yY i A s a b k l j) (aM d (aL 0 (aS f148 [1,1] R))) w=(cond (l<k) (bk s a l 1 λe=>Iq w e λx=>gC A 256 (fc .u8 (IntKind.u8.wrap i) x) 1 λf=>dp w f λc=>d (yY (fc .u64 (cD .u64 i 8) c) A s a b k (i64.wrap (l+1)) (ae j 0 6 [.int .u8 x,ad (l<k),jp e,.int .u8 x,ag i,ag (cD .u64 i 8),jp A,ag i,.int .u8 (IntKind.u8.wrap i),.int .u8 x,.int .u8 (fc .u8 (IntKind.u8.wrap i) x),jp A,jp f,ag c,ag (fc .u64 (cD .u64 i 8) c),ab (i64.wrap (l+1)),aB j 22])) w) (W prog (sb f148 [1,1]) (CB i (jp A::ae j 0 7 (af s a b::ab k::ab l::ad (l<k)::ae j 8 15 []))) (bV f148 R) w)):=by kernel_rfl
theorem Kb:W prog (sb f148 [1,1]) (CB i j) (bV f148 R) w=(R (ag i) w):=by kernel_rfl
def yO (e:an)(a b:Nat)(c:an)(d f:Nat)(g h:Int)(j:al):al:=ae j 0 3 (af e a b::ae j 3 6 (af c d f::ab g::ab h::ae j 9 16 []))
def Jc (c:an)(a b:Nat)(j:al):al:=ae j 0 3 (af c a b::ae j 3 25 [])
def yP (e:an)(a b:Nat)(k:Int)(c:an)(d f:Nat)(g h i:Int)(j:al):al:=ae j 0 3 (af e a b::ae j 3 1 (ag k::ae j 4 4 (af c d f::ab g::ab h::ae j 8 3 (ab i::ae j 11 12 []))))
def Jd (e:an)(a b:Nat)(c:an)(d f:Nat)(g h:Int)(j:al):al:=ae j 0 3 (af e a b::ae j 3 6 (af c d f::ab g::ab h::ae j 9 16 []))
theorem K6:bc prog f239 [af s a b] R w=(pM 0 (i64.wrap (8*(a:Nat))) 1 (.cells (ju (Int.toNat (i64.wrap (8*(a:Nat)))) [.int .u8 0]).toArray 5) w λc d=>cj prog (cN f239 [1,1,0,1,0,0]) (yO (bs c) (Int.toNat 0) (Int.toNat (i64.wrap (8*(a:Nat)))) s a b (a:Nat) 0 (af s a b::undef::ag 0::a1 2 (af s a b::cd a::ab (i64.wrap (8*(a:Nat)))::af (bs c) (Int.toNat 0) (Int.toNat (i64.wrap (8*(a:Nat))))::a1 16 []))) (aL 0 (aS f239 [1,1,1] R)) d):=by kernel_rfl
theorem Zj (e:al->aK):W prog (sb f239 [1,1,0,1,0,0]) (yO s a b t c d i k j) (aM e (aL 0 (aS f239 [1,1,1] R))) w=(cond (k<i) (bk t c k 1 λf=>dp w f λx=>cj prog (cN f239 [1,1,0,1,0,0,1,1,0,0,1,1,0,0]) (yP s a b x t c d i k 0 (ae j 0 4 (ae j 5 4 (ad (k<i)::jp f::ag x::ae j 13 12 [])))) (aL 2 (aL 1 (aM (λg w=>W prog (sb f239 [1,1,0,1,0,0,1,1,1]) g (aM e (aL 0 (aS f239 [1,1,1] R))) w) (aM e (aL 0 (aS f239 [1,1,1] R)))))) w) (W prog (sb f239 [1,1,1]) (Jc s a b (ae j 0 9 (af t c d::ab i::ab k::ad (k<i)::ae j 10 15 []))) (bV f239 R) w)):=by kernel_rfl
theorem JB:W prog (sb f239 [1,1,1]) (Jc s a b j) (bV f239 R) w=(iJ 84 #[af s a b] w λc d=>R (ag c) d):=by kernel_rfl
theorem Zk (g:al->aK)(n:al->aK):W prog (sb f239 [1,1,0,1,0,0,1,1,0,0,1,1,0,0]) (yP s a b i t c d k l m j) (aM n (aL 2 (aL 1 (aM (λp w=>W prog (sb f239 [1,1,0,1,0,0,1,1,1]) p (aM g (aL 0 (aS f239 [1,1,1] R))) w) (aM g (aL 0 (aS f239 [1,1,1] R))))))) w=(cond (m<8) (aR w #[.int .u8 (IntKind.u8.wrap i)] 5 λo q=>da 77 (af s a b) (af (bs o) 1 1) q λf h e r=>n (yP f h e (cD .u64 i 8) t c d k l (i64.wrap (m+1)) (ae j 0 11 [ad (m<8),af s a b,ag i,.int .u8 (IntKind.u8.wrap i),af (bs o) 1 1,af f h e,ag i,ag (cD .u64 i 8),ab (i64.wrap (m+1)),aB j 20,aB j 21,aB j 22])) r) (W prog (sb f239 [1,1,0,1,0,0,1,1,1]) (Jd s a b t c d k l (ae j 0 4 (ag i::ae j 4 7 (ab m::ad (m<8)::ae j 12 11 [])))) (aM g (aL 0 (aS f239 [1,1,1] R))) w)):=by kernel_rfl
theorem JC (e:al->aK):W prog (sb f239 [1,1,0,1,0,0,1,1,1]) (Jd s a b t c d i k j) (aM e (aL 0 (aS f239 [1,1,1] R))) w=(e (yO s a b t c d i (i64.wrap (k+1)) (ae j 0 22 [ab (i64.wrap (k+1)),aB j 23,aB j 24])) w):=by kernel_rfl
end
section
def PO (r:Int):Int:=if ee .u64 r 1=1 then fc .u64 (cD .u64 r 1) 14514072000185962306 else cD .u64 r 1
def ka:Nat->Int->Int
 | 0,r=>r
 |n+1,r=>PO (ka n r)
def If (i:Nat):Int:=ka 8 i
def jo:ba:=(List.range 256).map If
def nU (i:Nat):ba:=(List.range i).map If++List.replicate (256-i) 0
theorem Nx {i:Nat}(h:i<=256):(nU i).length=256:=by grind[nU]
theorem Ny {i:Nat}(h:i<256):(nU i).set i (If i)=nU (i+1):=by
 unfold nU;rw[o1,lG,List.set_append];simp only[jc,rH,Nat.lt_irrefl,if_false,rC];obtain⟨m,hm⟩:∃ m,256-i=m+1:=⟨255-i,by omega⟩
 grind
theorem Nz:nU 256=jo:=by simp[nU,jo]
theorem PQ (n:Nat):us (List.replicate n 0)=List.replicate n (.int .u64 0):=by simp[us]
theorem PR (l:ba)(i:Nat)(x:Int):(us l).set i (.int .u64 x)=us (l.set i x):=by simp[us]
theorem DA (l:ba):iC.cells ⟨l⟩=us l:=rfl
abbrev Bl:bU:=239
theorem L9 (w:aj):a9 147 [] w λv w'=>v=iC.val ⟨jo⟩/\ai w w':=by
 refine a' Tryz.func147 ?_;rw[K5];rintro b1 w1 r l;obtain⟨n,h⟩:=bo r l;have n:aq w1 b1 (us (nU 0)) Bl:=by
  grind[us,nU,PQ]
 clear l;refine cP mix (λm env u=>∃ (i:Nat) (p:au),m=256-i/\i<=256/\env=yN ⟨b1,0,none⟩ i p/\ai w u/\aq u b1 (us (nU i)) Bl) 256 ⟨0,_,rfl,by omega,rfl,h,n⟩ ?_;rintro m env u ⟨i,p,rfl,E,rfl,j,b⟩;rw[Zh];refine a5 (λg=>?_) (λB=>?_)
 ·rw[jx (x:=(i:Int)) (by omega) (by omega)];refine cP mix (λz c y=>∃ (k:Nat) (p:au),z=8-k/\k<=8/\c=vo ⟨b1,0,none⟩ i (ka k i) i k p/\y=u) 8 ⟨0,_,rfl,by omega,rfl,rfl⟩ ?_;rintro z c y ⟨k,C,rfl,F,rfl,rfl⟩;rw[Zi,bq (x:=(k:Int)+1) (by omega) (by omega)];refine a5 (λf=>?_) (λf=>?_)
  ·refine dJ (λq=>?_) (λq=>?_)
   ·have e:ka (k+1) i=fc .u64 (cD .u64 (ka k i) 1) 14514072000185962306:=bm q;rw[<-e];exact⟨8-(k+1),by omega,k+1,_,rfl,by omega,rfl,rfl⟩
   ·have e:ka (k+1) i=cD .u64 (ka k i) 1:=aW q;rw[<-e];exact⟨8-(k+1),by omega,k+1,_,rfl,by omega,rfl,rfl⟩
  ·have f:k=8:=by omega
   subst f;rw[JA,bq (x:=(i:Int)+1) (by omega) (by omega)];refine iY (by omega) (by omega) ?_;have A:0+(i:Int).toNat*1=i:=by omega
   rw[A];refine nX b (o:=i) (by grind[ht,Nx]) λD a d=>?_
   rw[PR,show ka 8 (i:Int)=If i from rfl,Ny (by omega)]at a;have G:=h.size;exact⟨256-(i+1),by omega,i+1,_,rfl,by omega,rfl,j.trans d λk g e=>by omega,a⟩
 ·have s:i=256:=by omega
  subst s;rw[Jz];rw[Nz]at b;have t:jo.length=256:=by simp[jo]
  refine iC.aT ⟨jo⟩ t ⟨bJ b (by rw[DA];grind),?_⟩;refine dI (vs:=us jo) b rfl (oJ _) λD a d=>?_
  exact iC.aT ⟨jo⟩ t ⟨bJ a (by rw[DA];grind),rfl,rfl,j.trans d λk g e=>by grind⟩
def nY (r x:Int):Int:=fc .u64 (cD .u64 r 8) (jo.getD (fc .u8 (IntKind.u8.wrap r) x).toNat 0)
theorem Tc (x:Int):0<=IntKind.u8.wrap x/\IntKind.u8.wrap x<256:=by
 simp only[IntKind.wrap,IntKind.bits,IntKind.signed]
 grind
def hl (l:ba):au:=l.map (Value.int .u8)
theorem E9 {l:ba}{i:Nat}{x:Int}(h:l[i]?=some x):(hl l)[i]?=some (.int .u8 x):=by grind[hl]
theorem zE {f:Int->Int->Int}{l:ba}{i:Nat}{x r:Int}(h:l[i]?=some x):(l.take (i+1)).foldl f r=f ((l.take i).foldl f r) x:=by
 grind[List.take_add_one]
theorem Oq {w:aj}(r:Int){tb:Nat}(p:aq w tb (us jo) Bl){a:an}{n c:Nat}{l:ba}(k:bh w a (hl l))(j:n=l.length)(z:n<=1000000) :
  a9 148 [.int .u64 r,.pointer (some ⟨tb,0,none⟩),.slice a n c] w λv w'=>v=.int .u64 (l.foldl nY r)/\w'=w:=by
 subst j;refine a' Tryz.func148 ?_;rw[L8];refine cP mix (λm env u=>∃ (i:Nat) (f:au),m=l.length-i/\i<=l.length/\env=yY ((l.take i).foldl nY r) ⟨tb,0,none⟩ a l.length c l.length i f/\u=w) l.length ⟨0,_,rfl,by omega,rfl,rfl⟩ ?_;rintro m env u ⟨i,f,rfl,A,rfl,rfl⟩;rw[aae];refine a5 (λh=>?_) (λg=>?_)
 ·obtain⟨x,D⟩:∃ x,l[i]?=some x:=⟨_,bW (by omega)⟩;rcases k with he | ⟨b,o,rfl,t⟩
  ·have s:l.length=0:=by
    have:=eh List.length he
    grind[hl,List.length_map]
   omega
  refine dM (by omega) (by omega) ⟨x,by grind[E9],?_⟩;have d:0<=fc .u8 (IntKind.u8.wrap ((l.take i).foldl nY r)) x/\fc .u8 (IntKind.u8.wrap ((l.take i).foldl nY r)) x<256:=Tc _;have B:jo.length=256:=by simp[jo]
  refine iY d.1 d.2 ?_;generalize C:fc .u8 (IntKind.u8.wrap ((l.take i).foldl nY r)) x=q at d ⊢;obtain⟨y,E⟩:∃ y,jo[q.toNat]?=some y:=⟨_,bW (by omega)⟩;refine⟨y,by rw[Nat.mul_one];exact aq.cell p (by grind[ue]),?_⟩;rw[bq (x:=(i:Int)+1) (by omega) (by omega)];have e:(l.take (i+1)).foldl nY r=fc .u64 (cD .u64 ((l.take i).foldl nY r) 8) y:=by
   grind[zE,nY]
  dsimp only;rw[<-e];exact⟨l.length-(i+1),by omega,i+1,_,rfl,by omega,rfl,rfl⟩
 grind[Kb,List.take_length]
def w4 (r:Int)(l:ba):Int:=fc .u64 18446744073709551615 (l.foldl nY (fc .u64 18446744073709551615 r))
theorem Lr {w:aj}(r:Int){a:an}{n c:Nat}{l:ba}(i:bh w a (hl l))(h:n=l.length)(f:n<=1000000) :
  a9 113 [.int .u64 r,.slice a n c] w λv w'=>v=.int .u64 (w4 r l)/\ai w w':=by
 refine a' Tryz.func113 ?_;rw[KL];refine aE (L9 w) ?_;rintro v w1 ⟨rfl,d⟩;have g:jo.length=256:=by simp[jo]
 refine iC.aT ⟨jo⟩ g ⟨rfl,?_⟩;refine dP (zs:=List.replicate 256 (.int .u64 0)) (vs:=us jo) (by grind[ht,List.length_replicate]) (oJ _) λb k j ax e=>?_
 refine aE (Oq _ ax (i.new (d.new e)) h f) ?_;rintro v o ⟨rfl,rfl⟩;exact⟨_,rfl,rfl,d.new e⟩
theorem L_ {w:aj}{a:an}{n c:Nat}{l:ba}(e:bh w a (hl l))(d:n=l.length)(b:n<=1000000) :
  a9 84 [.slice a n c] w λv w'=>v=.int .u64 (w4 0 l)/\ai w w':=by
 refine a' Tryz.func84 ?_;rw[K4];refine aE (Lr 0 e d b) ?_
 grind
def te:Nat->Int->Int
 | 0,x=>x
 |k+1,x=>cD .u64 (te k x) 8
def tp (x:Int):ba:=(List.range 8).map λk=>IntKind.u8.wrap (te k x)
theorem PC (x:Int):(tp x).length=8:=by grind[tp,List.length_map,List.length_range]
def qx (ws:ba):ba:=(ws.map tp).flatten
def sE (ws:ba):Int:=w4 0 (qx ws)
theorem M3 (ws:ba):(qx ws).length=8*ws.length:=by
 induction ws with
 |nil=>rfl
 |cons x ws a=>
  grind[qx,tp,List.length_append]
theorem Ot (ws:ba):ch (sE ws):=by
 unfold sE w4 ch;generalize (List.foldl nY _ _)=z;simp only[fc,IntKind.wrap,IntKind.bits,IntKind.signed]
 grind
abbrev uM:bU:=5
def p3 (ws:ba)(i k:Nat):ba:=qx (ws.take i)++((tp (ws.getD i 0)).take k)
theorem L' {w:aj}{a:an}{n c:Nat}{ws:ba}(ad:bh w a (us ws))(Y:n=ws.length)(aB:n<=10000) :
  a9 239 [.slice a n c] w λv w'=>v=.int .u64 (sE ws)/\ai w w':=by
 subst Y;refine a' Tryz.func239 ?_;rw[K6,bq (x:=8*(ws.length:Int)) (by omega) (by omega)];refine⟨by omega,by omega,by omega,by omega,?_⟩;rintro b1 w1 D A;obtain⟨L,G⟩:=bo D A;clear A;obtain⟨inf,l,M,t,V⟩:=ft (T:=uM) (z:=.int .u8 0) (n:=1) (m:=1) (by kernel_rfl);have N:Int.toNat (8*(ws.length:Int))=8*ws.length:=by omega
 have p:aZ w1 uM 1 (some ⟨b1,0,none⟩) 0 (8*ws.length) (hl []):=by refine⟨rfl,.inr ⟨b1,_,rfl,L,by omega,by unfold maxLen;omega,?_,by simp[hl]⟩⟩;rw[N];simp[ju]
 refine cP mix (λm env u=>∃ (i:Nat) (a2:an) (pc:Nat) (B:au),m=ws.length-i/\i<=ws.length/\env=yO a2 (8*i) pc a ws.length c ws.length i B/\ai w u/\aZ u uM 1 a2 (8*i) pc (hl (qx (ws.take i)))/\∀ k,aP a2 k->w.heap.size<=k) ws.length
  ⟨0,some ⟨b1,0,none⟩,8*ws.length,_,rfl,by omega,by rw[N];rfl,G,p,λk O=>?_⟩ ?_
 ·obtain⟨o,I⟩:=O
  grind
 rintro m env u ⟨i,a2,pc,B,rfl,aI,rfl,g,I,J⟩;rw[Zj];refine a5 (λX=>?_) (λW=>?_)
 ·obtain⟨x,aL⟩:∃ x,ws[i]?=some x:=⟨_,bW (by omega)⟩;have ae:ws.getD i 0=x:=by grind
  have K:=ad.new g;rcases K with he | ⟨b,o,rfl,aq⟩
  ·have ao:ws.length=0:=by
    have:=eh List.length he
    grind[us,List.length_map]
   omega
  refine dM (by omega) (by omega) ⟨x,by grind[ue],?_⟩;refine cP mix (λP d y=>∃ (k:Nat) (a2:an) (pc:Nat) (B:au),P=8-k/\k<=8/\d=yP a2 (8*i+k) pc (te k x) (some ⟨b,o,none⟩) ws.length c ws.length i k B/\ai w y/\aZ y uM 1 a2 (8*i+k) pc (hl (p3 ws i k))/\∀ k,aP a2 k->w.heap.size<=k) 8
   ⟨0,a2,pc,_,rfl,by omega,rfl,g,by grind[p3],J⟩ ?_
  rintro P d y ⟨k,Q,R,af,rfl,O,rfl,h,Z,s⟩;rw[Zk];refine a5 (λf=>?_) (λf=>?_)
  ·have r:aZ y uM inf.size Q (8*i+k) R (hl (p3 ws i k)):=by grind
   refine oN (vs:=[.int .u8 (IntKind.u8.wrap (te k x))]) Tryz.underlying77 l M (by rw[t];rfl) (by omega) r (by grind) (by intro v ar;simp at ar;subst ar;rfl) (by omega) (by omega) ?_;intro ag ap j aM U S F C;rw[t]at S;rw[bq (x:=(k:Int)+1) (by omega) (by omega)];refine⟨8-(k+1),by omega,k+1,ap,j,_,rfl,by omega,rfl,ti h F s,?_,?_⟩
   ·have e:hl (p3 ws i k)++[Value.int .u8 (IntKind.u8.wrap (te k x))]=hl (p3 ws i (k+1)):=by
     unfold p3
     grind[List.take_add_one,tp,te,List.getElem?_range,hl]
    grind
   ·intro q ab;rcases C q ab with e | e
    ·grind
    ·have:=h.size;omega
  ·have f:k=8:=by omega
   subst f;rw[JC,bq (x:=(i:Int)+1) (by omega) (by omega)];refine⟨ws.length-(i+1),by omega,i+1,Q,R,_,rfl,by omega,rfl,h,?_,s⟩;have e:p3 ws i 8=qx (ws.take (i+1)):=by
    have ah:ws.take (i+1)=ws.take i++[x]:=by grind[List.take_add_one]
    unfold p3 qx
    grind[List.flatten_append,List.take_of_length_le,PC]
   grind
 ·have E:i=ws.length:=by omega
  subst E;rw[JB];rw[jC]at I;refine aE (L_ I.rd (M3 ws).symm (by omega)) ?_;rintro v aR ⟨rfl,H⟩;exact⟨_,rfl,rfl,g.new H⟩
end
end Go.Proofs.YtmkljjbioomepaaGreat
namespace Go.gg
open Go.bd
def w5 (sz:bU->Nat)(f:bU->Option (List Bool)):List Field->Nat->Option (List Bool)
 | [],off=>some []
 |fd::b,off=>match f fd.type with
  |some a=>match fd.name != "_" && (Nat.beq fd.offset off && Nat.beq (sz fd.type) a.length) with
   |true=>match w5 sz f b (off+a.length)with
    |some r=>some (a++r)
    |none=>none
   |false=>none
  |none=>none
def kl (P:c7):Nat->bU->Option (List Bool)
 | 0,_=>none
 |d+1,t=>match P.underlying t with
  |some (.int _)=>some [false]
  |some .bool=>some [true]
  |some (.struct b)=>match P.stoodInHeld t with
   |true=>none
   |false=>w5 (qq P) (kl P d) b.toList 0
  |some (.array len e)=>match kl P d e with
   |some a=>match Nat.beq (qq P e) a.length with
    |true=>some (List.replicate len a).flatten
    |false=>none
   |none=>none
  | _=>none
def G4:Bool->bl->bl->Prop
 |false,.int k _,.int j _=>k=j
 |true,.bool _,.bool _=>True
 | _,_,_=>False
def jD:List Bool->au->au->Prop
 | [],[],[]=>True
 |k::a,x::xs,y::ys=>G4 k x y/\jD a xs ys
 | _,_,_=>False
def pE:bl->bl->Bool
 |.int _ a,.int _ b=>a == b
 |.bool a,.bool b=>a == b
 | _,_=>true
def fW:au->au->Bool
 |x::xs,y::ys=>pE x y && fW xs ys
 | _,_=>true
theorem jD.len:∀ {a:List Bool}{xs ys:au},jD a xs ys->xs.length=a.length/\ys.length=a.length
 | [],[],[],_=>⟨rfl,rfl⟩
 | _::_,_::_,_::_,⟨_,h⟩=>by simp[jD.len h]
theorem jD.split:∀ {b ls:List Bool}{xs ys:au},jD (b++ls) xs ys->jD b (xs.take b.length) (ys.take b.length)/\jD ls (xs.drop b.length) (ys.drop b.length)/\
  fW xs ys=(fW (xs.take b.length) (ys.take b.length) && fW (xs.drop b.length) (ys.drop b.length))
 | [],ls,xs,ys,h=>⟨trivial,h,rfl⟩
 |k::b,ls,x::xs,y::ys,⟨a,h⟩=>by
  obtain⟨c,d,e⟩:=jD.split h;refine⟨⟨a,c⟩,d,?_⟩;show(pE x y && fW xs ys)=((pE x y && fW (xs.take b.length) (ys.take b.length)) && fW (xs.drop b.length) (ys.drop b.length))
  grind
theorem EZ {k:Bool}:∀ {xs ys:au},jD [k] xs ys->∃ x y,xs=[x]/\ys=[y]/\G4 k x y
 | [],[],h=>h.elim
 | [],_::_,h=>h.elim
 | _::_,[],h=>h.elim
 | [x],[y],h=>⟨x,y,rfl,rfl,h.1⟩
 | _::_::_,[_],h=>h.2.elim
 | [_],_::_::_,h=>h.2.elim
 | _::_::_,_::_::_,h=>h.2.elim
section
variable {P:c7}
def k0 (P:c7)(t:bU)(xs:au):bl:=if gD P t=true then .agg xs.toArray else xs.headD undef
theorem EE {t:bU}{i:TypeInfo}{a:TypeDesc}(d:P.info? t=some i)(dR:P.underlying t=some a){cs:au}{off n:Nat}(f:i.size=n)(h:off+n<=cs.length)(c:gD P t=false->n=1)(w:aj) :
  (part t cs.toArray off).run P w=.ok (k0 P t ((cs.drop off).take n)) w:=by
 unfold part k0;rw[Sem.run_bind,pQ dR];simp only[Result.andThen_ok];split
 ·simp only[Sem.run_bind,bd.run_sizeOf d,Result.andThen_ok,Sem.run_pure,f]
  grind
 ·rename_i g;have b:=c (by grind);subst b;have e:off<cs.length:=by omega
  have j:(cs.drop off).take 1=[cs[off]]:=by
   grind[List.drop_eq_getElem_cons]
  simp_all
theorem DB {d:Nat}{t:bU}{n:List Bool}(h:kl P d t=some n):∃ i a,P.info? t=some i/\P.underlying t=some a:=by
 cases d with
 |zero=>cases h
 |succ d=>
  unfold kl at h;cases hu:P.underlying t with
  |none=>grind
  |some a=>
   cases b:P.info? t with
   |some i=>grind
   |none=>simp[Program.underlying,b]at hu
theorem CM {d:Nat}{t:bU}{n:List Bool}(h:kl P d t=some n)(a:gD P t=false):n.length=1:=by
 cases d with
 |zero=>cases h
 |succ d=>
  unfold kl at h;unfold gD at a
  grind
def wQ (P:c7)(D:Nat)(t:bU)(a:List Bool):Prop:=∀ xs ys:au,jD a xs ys->∀ w,(Op.equalIn D t (k0 P t xs) (k0 P t ys)).run P w=.ok (fW xs ys) w
theorem E0 {t:bU}{a:List Bool}{D off:Nat}{xs ys:au}(aA:wQ P D t a){i:TypeInfo}{d:TypeDesc}(e:P.info? t=some i)(dR:P.underlying t=some d)(h:i.size=a.length)(f:gD P t=false->a.length=1)
  (c:jD a ((xs.drop off).take a.length) ((ys.drop off).take a.length)) (w:aj) {α:Type} (K:Bool->Sem α) :
  ((do K (<- Op.equalIn D t (<- part t xs.toArray off) (<- part t ys.toArray off))):Sem α).run P w=(K (fW ((xs.drop off).take a.length) ((ys.drop off).take a.length))).run P w:=by
 obtain⟨hb,l2⟩:=c.len;rw[zw,zt]at hb l2;cases g:a.length with
 |zero=>
  have:i.size=0:=by omega
  cases j:gD P t with
  |false=>grind
  |true=>
   have b:∀ cs:au,(part t cs.toArray off).run P w=.ok (k0 P t []) w:=by
    intro cs;unfold part k0;rw[Sem.run_bind,pQ dR,j];simp only[Result.andThen_ok,if_true,Sem.run_bind,bd.run_sizeOf e,Sem.run_pure,this]
    grind
   rw[g]at c;simp only[Sem.run_bind,b,Result.andThen_ok];rw[aA [] [] c];rfl
 |succ n=>rw[<-g];simp only[Sem.run_bind,EE (cs:=xs) (off:=off) e dR h (by omega) f w,EE (cs:=ys) (off:=off) e dR h (by omega) f w,Result.andThen_ok];rw[aA _ _ c];rfl
theorem DC {d D:Nat}(aA:∀ t b,kl P d t=some b->wQ P D t b){xs ys:au}:∀ (c:List Field) (off:Nat) (b:List Bool),w5 (qq P) (kl P d) c off=some b->jD b (xs.drop off) (ys.drop off)->
  ∀ w,(Op.eqFields D xs.toArray ys.toArray c).run P w=.ok (fW (xs.drop off) (ys.drop off)) w
 | [],off,b,h,e=>by cases h;intro w;have q:=e.len;rw[hh q.1];simp[Op.eqFields,fW]
 |fd::c,off,b,h,e=>by
  unfold w5 at h;split at h
  rotate_left
  ·cases h
  rename_i a hm;split at h
  rotate_left
  ·cases h
  rename_i n;split at h
  rotate_left
  ·cases h
  rename_i k x;cases h;simp only[fP,bne_iff_ne,ne_eq]at n;obtain⟨u,f,g⟩:=n;have f:fd.offset=off:=o0 f;have g:qq P fd.type=a.length:=o0 g;obtain⟨o,ig,l⟩:=e.split;rw[vQ,vQ]at ig l;have z:=DC aA c (off+a.length) k x ig;intro w;obtain⟨i,p,s,dR⟩:=DB hm;have j:i.size=a.length:=by unfold qq at g;grind
  unfold Op.eqFields;rw[bm (by grind),f];have:=E0 (K:=λr=>if(!r)=true then pure false else Op.eqFields D xs.toArray ys.toArray c) (aA _ _ hm) s dR j (CM hm) o w;refine Eq.trans this ?_;rw[l];cases y:fW ((xs.drop off).take a.length) ((ys.drop off).take a.length)with
  |false=>rfl
  |true=>
   grind
theorem EF {D:Nat}{e:bU}{b:List Bool}(aA:wQ P D e b){i:TypeInfo}{f:TypeDesc}(k:P.info? e=some i)(dR:P.underlying e=some f)(n:i.size=b.length)(h:gD P e=false->b.length=1){xs ys:au}(w:aj) :
  ∀ (l:cV) (a:Nat),l=List.range' a l.length->jD (List.replicate l.length b).flatten (xs.drop (a*b.length)) (ys.drop (a*b.length))->
   (forIn l ((none,()):Option Bool×Unit) (λi _=>do
    let r <- Op.equalIn D e (<- part e xs.toArray (i*b.length)) (<- part e ys.toArray (i*b.length))
    if(!r)=true then pure (ForInStep.done (some false,()))else pure (ForInStep.yield (none,()))):Sem (Option Bool×Unit)).run P w=.ok ((if fW (xs.drop (a*b.length)) (ys.drop (a*b.length))=true then none else some false),()) w
 | [],a,_,d=>by have p:=d.len;rw[hh p.1];simp[fW]
 |j::l,a,c,d=>by
  rw[jB,List.range'_succ]at c;simp only[List.cons.injEq]at c;obtain⟨rfl,c⟩:=c;rw[jB,rL,kR]at d;obtain⟨o,ig,g⟩:=d.split;rw[vQ,vQ,<-tE]at ig g;rw[List.forIn_cons,Sem.run_bind];have:=E0 (K:=λr=>if(!r)=true then(pure (ForInStep.done (some false,())):Sem (ForInStep (Option Bool×Unit)))else pure (ForInStep.yield (none,()))) aA k dR n h o w;rw[this,g];have q:=EF aA k dR n h w l (j+1) c ig;cases s:fW ((xs.drop (j*b.length)).take b.length) ((ys.drop (j*b.length)).take b.length)with
  |false=>rfl
  |true=>simp only[Bool.not_true,Cl,if_false,vY];exact q
theorem ur:∀ (d:Nat)(t:bU)(f:List Bool),kl P d t=some f->∀ D,d<=D->wQ P D t f
 | 0,_,_,h=>by cases h
 |d+1,t,f,h=>by
  intro D A xs ys l w;obtain⟨D,rfl⟩:∃ r,D=r+1:=⟨D-1,by omega⟩;have g:d<=D:=by omega
  unfold kl at h;split at h
  ·rename_i k hu;cases h;have a:gD P t=false:=by unfold gD;rw[hu]
   obtain⟨x,y,rfl,rfl,b⟩:=EZ l;unfold k0;rw[a];cases x<;>cases y<;>first | exact b.elim | skip
   have z:_=_:=b;subst z;refine(run_equalIn_int w D t _ k _ _ hu).trans ?_;simp[fW,pE]
  ·rename_i hu;cases h;have a:gD P t=false:=by unfold gD;rw[hu]
   obtain⟨x,y,rfl,rfl,b⟩:=EZ l;unfold k0;rw[a];cases x<;>cases y<;>first | exact b.elim | skip
   refine(run_equalIn_bool' w D t _ _ hu).trans ?_;simp[fW,pE]
  ·rename_i p hu;split at h
   ·cases h
   rename_i o;have a:gD P t=true:=by unfold gD;rw[hu]
   have u:P.fieldsOf t=p:=by unfold Program.fieldsOf;rw[hu]
   have:=DC (λt f h=>ur d t f h D g) p.toList 0 f h l w;unfold k0;rw[bm a,bm a,run_equalIn_struct w D t _ _ (by grind) o,u]
   grind
  ·rename_i len e hu;split at h
   rotate_left
   ·cases h
   rename_i c hm;split at h
   rotate_left
   ·cases h
   rename_i n;cases h;have n:qq P e=c.length:=o0 n;obtain⟨i,s,q,dR⟩:=DB hm;have j:i.size=c.length:=by unfold qq at n;grind
   have a:gD P t=true:=by unfold gD;rw[hu]
   have:=EF (ur d e c hm D g) q dR j (CM hm) (xs:=xs) (ys:=ys) w (List.range' 0 len) 0 (by simp) (by grind);unfold k0;rw[bm a,bm a];simp only[Op.equalIn,Sem.run_bind,run_underlying hu,Result.andThen_ok,bd.run_sizeOf q,j];simp only[Nat.zero_mul,List.drop_zero]at this;rw[Std.Legacy.Range.forIn_eq_forIn_range'];simp only[Std.Legacy.Range.size,Nat.sub_zero,Nat.add_one_sub_one,Nat.div_one];rw[this];cases fW xs ys<;>rfl
  grind
end
end Go.gg
namespace Go.Proofs.YtmkljjbioomepaaGreat
open Go.Proofs.Tryz Go.bd
section
open IntKind
variable (w:aj)(R:bg){i k:Int}
theorem aaf:bc prog f12 [ab i,ab k] R w=(cond (k<1) (R (ab 0) w) (IntKind.i64=IntKind.i64/\k≠0/\IntKind.i64=IntKind.i64/\k≠0/\R (ab (Int.tmod (i64.wrap ((Int.tmod i k)+k)) k)) w)):=by kernel_rfl
end
section
theorem Fn (w:aj)(x n:Int)(i:-9223372036854775808<=x/\x<9223372036854775808)(g:n<4611686018427387904):a9 12 [.int .i64 x,.int .i64 n] w λv w'=>v=.int .i64 (if n<1 then 0 else x % n)/\w'=w:=by
 refine a' Tryz.func12 ?_;rw[aaf];refine a5 (λh=>⟨by grind,rfl⟩) (λh=>⟨rfl,by omega,rfl,by omega,?_,rfl⟩);rw[aW h];have b:0<n:=by omega
 have key:∃ t k,Int.tmod x n=t/\-n<t/\t<n/\t+n*k=x:=by
  rcases Int.le_total 0 x with a | a
  ·refine⟨x % n,x / n,zj a,?_,zx x b,Int.emod_add_mul_ediv x n⟩;have:=zz x (Int.ne_of_gt b);omega
  ·refine⟨-((-x) % n),-((-x) / n),?_,?_,?_,?_⟩
   ·rw[<-zj (by omega),Int.neg_tmod,Int.neg_neg]
   ·have:=zx (-x) b;omega
   ·have:=zz (-x) (Int.ne_of_gt b);omega
   ·have:=Int.emod_add_mul_ediv (-x) n
    grind
 obtain⟨t,k,d,e,f,c⟩:=key;rw[d,bq (by omega) (by omega)];congr 1;rw[zj (by omega),Int.add_emod_right,<-c,Int.add_mul_emod_self_left]
end
section
open IntKind
variable (w:aj)(R:bg){i k l:Int}{A:aw}{s:an}{a b:Nat}{j:al}{X:bl}{F:Bool}
theorem Kc (n:c1):bc prog f125 [n.val] R w=(aR w n.cells.toArray 35 λm p=>aR p #[ab 0,ab 0,ad false] 116 λk e=>bY e (ah m 1) λa b c=>cond ((b:Int) == 0) (a8 e (ah k 0) 0 [ab 0,ab 0,ad false] λl=>iq l (ah k 0) λh=>l=l/\R (.tuple #[h.val,ad false]) l) (bY e (ah m 1) λd f g=>bk d f 0 3 λo=>iq e o λr=>a8 e (ah k 0) 0 r.cells λj=>iq j (ah k 0) λi=>j=j/\R (.tuple #[i.val,ad true]) j)):=by kernel_rfl
def vl (s1:Int)(s2:aw)(a:an)(b c:Nat)(d f:Int)(j:al):al:=ae j 0 1 (ab s1::.pointer (some s2)::ae j 1 25 (af a b c::ab d::ab f::ae j 26 50 []))
def I3 (a:aw)(j:al):al:=ae j 0 2 (.pointer (some a)::ae j 2 78 [])
def yI (s2:aw)(a:an)(b c:Nat)(d f:Int)(j:al):al:=ae j 0 2 (.pointer (some s2)::ae j 2 59 (af a b c::ab d::ab f::ae j 61 16 []))
def I4 (a:aw)(j:al):al:=ae j 0 2 (.pointer (some a)::ae j 2 78 [])
theorem KM (m:c1):bc prog f166 [m.val,ab i] R w=(aR w m.cells.toArray 35 λj n=>c6 200 #[ab i] n λa l=>cond (!a) (R (ab 1) l) (bN l (ah j 0) λb=>cond (b<0) (R (ab 2) l) (bN l (ah j 0) λc=>cond (c>=16) (R (ab 2) l) (bY l (ah j 1) λd f g=>cond ((f:Int) == 0) (R (ab 1) l) (bY l (ah j 1) λh e k=>cj prog (cN f166 [1,1,0,1,0,0]) (vl i (ah j 0) h e k (e:Nat) 0 (m.val::undef::ab 0::a1 4 (ad (!a)::ab i::ad a::ad (!a)::ad (c>=16)::jp (ah j 0)::ab b::ad (b<0)::ad false::jp (ah j 0)::ab c::ad (c>=16)::ad (c>=16)::ad ((f:Int) == 0)::jp (ah j 1)::af d f g::cd f::ad ((f:Int) == 0)::jp (ah j 1)::a1 50 []))) (aL 1 (aS f166 [1,1,1] R)) l))))):=by kernel_rfl
theorem YR (t:al->aK):W prog (sb f166 [1,1,0,1,0,0]) (vl i A s a b k l j) (aM t (aL 1 (aS f166 [1,1,1] R))) w=(cond (l<k) (bk s a l 3 λu=>iq w u λr=>aR w #[ab 0,ab 0,ad false] 116 λe v=>a8 v (ah e 0) 0 r.cells λx=>ck x λq p=>cA p (ah e 0) λg=>cond (g<0) (R (ab 1) q) (cA p (ah e 0) λh=>cond (h>=i) (R (ab 1) q) (cond (l>0) (cA p (ah e 0) λc=>dS p (br A 1) λf d m=>bk f d (i64.wrap (l-1)) 3 λo=>cA p o λn=>cond (c<=n) (R (ab 1) q) (t (vl i A s a b k (i64.wrap (l+1)) (aB j 0::aB j 1::aB j 2::ab l::jp (ah e 0)::ae j 5 21 (ad (l<k)::ab l::jp u::r.val::jp (ah e 0)::ab g::ad (g<0)::ad false::jp (ah e 0)::ab h::ab i::ad (h>=i)::ad (h>=i)::ad false::ab l::ad (l>0)::ad true::jp (ah e 0)::ab c::a7 A 1::af f d m::ab l::ab (i64.wrap (l-1))::jp o::jp o::ab n::ad (c<=n)::ad (c<=n)::ad (c<=n)::ab (i64.wrap (l+1))::ae j 56 20 []))) q)) (t (vl i A s a b k (i64.wrap (l+1)) (aB j 0::aB j 1::aB j 2::ab l::jp (ah e 0)::ae j 5 21 (ad (l<k)::ab l::jp u::r.val::jp (ah e 0)::ab g::ad (g<0)::ad false::jp (ah e 0)::ab h::ab i::ad (h>=i)::ad (h>=i)::ad false::ab l::ad (l>0)::ad false::a1 10 (ad false::ad false::ab (i64.wrap (l+1))::ae j 56 20 [])))) q)))) (W prog (sb f166 [1,1,1]) (I3 A (aB j 0::ab i::ae j 1 25 (af s a b::ab k::ab l::ad (l<k)::ae j 27 49 []))) (bV f166 R) w)):=by kernel_rfl
theorem aag:W prog (sb f166 [1,1,1]) (I3 A j) (bV f166 R) w=(bY w (br A 1) λb c d=>cj prog (cN f166 [1,1,1,0,1,0,0]) (yI A b c d (c:Nat) 0 (ae j 0 60 (a7 A 1::ae j 64 16 []))) (aL 3 (aS f166 [1,1,1,1] R)) w):=by kernel_rfl
theorem YS (f:al->aK):W prog (sb f166 [1,1,1,0,1,0,0]) (yI A s a b i k j) (aM f (aL 3 (aS f166 [1,1,1,1] R))) w=(cond (k<i) (bk s a k 3 λe=>iq w e λr=>aR w #[ab 0,ab 0,ad false] 116 λc l=>a8 l (ah c 0) 0 r.cells λd=>bN d (ah c 1) λg=>cond (g<1) (R (ab 2) d) (bN d (ah c 1) λh=>cond (h>31) (R (ab 2) d) (f (yI A s a b i (i64.wrap (k+1)) (ae j 0 7 (jp (ah c 0)::ae j 8 53 (ad (k<i)::jp e::r.val::jp (ah c 1)::ab g::ad (g<1)::ad false::jp (ah c 1)::ab h::ad (h>31)::ad (h>31)::ab (i64.wrap (k+1))::ae j 73 4 [])))) d))) (W prog (sb f166 [1,1,1,1]) (I4 A (ae j 0 61 (af s a b::ab i::ab k::ad (k<i)::ae j 62 15 []))) (bV f166 R) w)):=by kernel_rfl
theorem aah:W prog (sb f166 [1,1,1,1]) (I4 A j) (bV f166 R) w=(bY w (br A 1) λb c d=>c6 201 #[af b c d,.func (.func 202) #[] #[]] w λf a=>cond (!f) (R (ab 13) a) (R (ab 0) a)):=by kernel_rfl
theorem Kd:bc prog f200 [ab i] R w=(cond (i>=1) (R (ad (i<=5)) w) (R (ad false) w)):=by kernel_rfl
theorem TN:bc prog f201 [af s a b,X] R w=(cx 234 #[af s a b,X] w λc d=>R (ad (c>=0)) d):=by kernel_rfl
theorem Kq (b:aU):bc prog f202 [b.val] R w=(aR w b.cells.toArray 116 λd c=>js c (ah d 2) λa=>R (ad a) c):=by kernel_rfl
theorem Ke (l:c1):bc prog f216 [l.val] R w=(aR w l.cells.toArray 35 λj e=>bY e (ah j 1) λa b c=>cond ((b:Int) == 0) (R (a4) e) (bY e (ah j 1) λd f g=>g7 d f g 1 (f:Nat) (g:Nat) 3 λn o m=>eV 243 #[af n o m] e λh i k p=>R (af h i k) p)):=by kernel_rfl
def xz (c:an)(a b:Nat)(s1:bl)(d s8:Int)(j:al):al:=af c a b::s1::ae j 0 5 (ab d::ab s8::ae j 5 10 [])
def G5  (j:al):al:=ae j 0 19 []
theorem TH:bc prog f234 [af s a b,X] R w=(cj prog (cN f234 [1,0,1,0,0]) (xz s a b X (a:Nat) 0 (a1 2 (ab 0::undef::af s a b::a1 10 []))) (aL 0 (aS f234 [1,1] R)) w):=by kernel_rfl
theorem TF (d:al->aK):W prog (sb f234 [1,0,1,0,0]) (xz s a b X i k j) (aM d (aL 0 (aS f234 [1,1] R))) w=(cond (k<i) (bk s a k 3 λf=>iq w f λr=>i_ prog X #[r.val] w λe g=>∃ c,e=.returned (ad c)/\cond c (R (ab k) g) (d (xz s a b X i (i64.wrap (k+1)) [aB j 0,aB j 1,aB j 2,ab k,aB j 4,ad (k<i),ab k,X,af s a b,ab k,jp f,r.val,ad c,aB j 13,ab (i64.wrap (k+1))]) g)) (W prog (sb f234 [1,1]) (G5  (af s a b::X::ae j 0 5 (ab i::ab k::ad (k<i)::ae j 6 9 []))) (bV f234 R) w)):=by kernel_rfl
theorem TK:W prog (sb f234 [1,1]) (G5  j) (bV f234 R) w=(R (ab (-1)) w):=by kernel_rfl
theorem Kf (A:c1)(s:aU)(z:aI):bc prog f241 [A.val,s.val,ad F,z.val] R w=(aR w A.cells.toArray 35 λC H=>aR H s.cells.toArray 116 λt D=>aR D z.cells.toArray 158 λe G=>aR G #[ab 0,ab 0,ab 0,ab 0,ag 0,ag 0,a4,ag 0,ab 0] 158 λv B=>ck B λE j=>cA j (ah t 0) λa=>cA j (ah t 1) λb=>cM E (ah e 1) (ab a) λu=>j u/\cM u (ah e 8) (ab b) λy=>bN y (ah C 0) λc=>g6 103 #[ab c,ad F] y λd f bf=>cM bf (ah e 7) (ag d) λx=>bY x (ah e 6) λg h i=>eV 73 #[af g h i] x λk l m n=>cM n (ah e 6) (af k l m) λo=>lZ o (ah e 0) λr=>a8 o (ah v 0) 0 r.cells λp=>lZ p (ah v 0) λq=>p=p/\R q.val p):=by kernel_rfl
end
section
abbrev eF:bU:=116
abbrev nr:bU:=35
abbrev Bk:bU:=33
def gG (l:List aU):List au:=l.map aU.cells
theorem Ma (l:List aU)(m:aU):(gG (l++[m])).flatten=(gG l).flatten++m.cells:=by simp[gG]
structure jj where
 number:Int
 mem:List aU
def jL:aU:=⟨0,0,false⟩
def kb (n:Int)(l:List aU)(i:Nat):Bool:=
 decide (0<=(l.getD i jL).Node/\(l.getD i jL).Node<n) && (decide (i=0) || decide ((l.getD (i-1) jL).Node<(l.getD i jL).Node))
def mU (m:aU):Bool:=decide (1<=m.cB/\m.cB<=31)
def jj.valid (v:jj)(n:Int):Int:=
 if¬ (1<=n/\n<=5)then 1 else if v.number<0\/16<=v.number then 2 else if v.mem.length=0 then 1
 else if(List.range v.mem.length).all (kb n v.mem)=false then 1 else if v.mem.all mU=false then 2 else if v.mem.any aU.Full=false then 13 else 0
structure gi (M:a6)(w:aj)(r:c1)(v:jj):Prop where
 num:r.Number=v.number
 len:r.e_=v.mem.length
 cap:r.e_<=r.fS
 rd:bh w r.fr (gG v.mem).flatten
 off:(gG v.mem).flatten=[]\/gn M r.fr
 small:v.mem.length<=1000000
theorem gi.new {M:a6}{w w':aj}{r:c1}{v:jj}(h:gi M w r v)(a:ai w w'):gi M w' r v:=⟨h.num,h.len,h.cap,h.rd.new a,h.off,h.small⟩
theorem Mx (w:aj)(n:Int):a9 200 [.int .i64 n] w λv w'=>v=.bool (decide (1<=n/\n<=5))/\w'=w:=by
 refine a' Tryz.func200 ?_
 grind[Kd]
theorem Ou (w:aj)(m:aU):a9 202 [m.val] w λv w'=>v=.bool m.Full/\ai w w':=by refine a' Tryz.func202 ?_;rw[Kq];rintro b1 w1 a b;obtain⟨ax,c⟩:=bo a b;exact⟨_,ax.cell rfl,rfl,c⟩
theorem RR:iv prog 202=true:=by kernel_rfl
section
attribute [local irreducible] iv i_ l5
theorem Ls {w:aj}{a:an}{c:Nat}{l:List aU}(h:bh w a (gG l).flatten)(s:l.length<=1000000) :
  a9 234 [.slice a l.length c,.func (.func 202) #[] #[]] w λv w'=>∃ z:Int,v=.int .i64 z/\(decide (z>=0)=l.any aU.Full)/\ai w w':=by
 refine a' Tryz.func234 ?_;rw[TH];refine cP mix (λm env u=>∃ (i:Nat) (g:au),m=l.length-i/\i<=l.length/\env=xz a l.length c (.func (.func 202) #[] #[]) l.length i g/\ai w u/\(l.take i).any aU.Full=false) l.length
  ⟨0,_,by omega,by omega,rfl,ao.refl _ _,rfl⟩ ?_
 rintro m env u ⟨i,g,rfl,r,rfl,f,p⟩;rw[TF];refine a5 (λq=>?_) (λq=>?_)
 ·have e:i<l.length:=by omega
  have n:l[i]?=some l[i]:=bW e;refine ei (cells:=aU.cells) aU.len (by omega) (h.new f) n rfl rfl λb o j _=>aU.aT l[i] ⟨j,?_⟩
  refine rz RR (xs:=#[l[i].val]) (by simp) ?_;refine aE (Ou _ l[i]) ?_;rintro v bp ⟨rfl,d⟩;refine⟨_,rfl,ek (λk=>⟨i,rfl,?_,f.new d⟩) (λk=>?_)⟩
  ·grind
  ·rw[bq (by omega) (by omega)];refine⟨l.length-(i+1),by omega,i+1,_,rfl,by omega,rfl,f.new d,?_⟩
   grind[List.take_add_one]
 grind[TK,List.take_of_length_le]
end
theorem Kr {w:aj}{a:an}{c:Nat}{l:List aU}(h:bh w a (gG l).flatten)(b:l.length<=1000000) :
  a9 201 [.slice a l.length c,.func (.func 202) #[] #[]] w λv w'=>v=.bool (l.any aU.Full)/\ai w w':=by
 refine a' Tryz.func201 ?_;rw[TN];refine aE (Ls h b) ?_
 grind
theorem CC {p:Nat->Bool}{n i:Nat}(a:i<n)(h:p i=false):(List.range n).all p=false:=by
 grind
theorem oW {α:Type}{l:List α}{i:Nat}{x d:α}(h:l[i]?=some x):l.getD i d=x:=by grind
theorem EG {M:a6}{w:aj}{r:c1}{v:jj}(h:gi M w r v)(n:Int):a9 166 [r.val,.int .i64 n] w λx w'=>x=.int .i64 (v.valid n)/\ai w w':=by
 refine a' Tryz.func166 ?_;rw[KM];rintro b1 w1 O J;obtain⟨ax,g⟩:=bo O J;have ax:aq w1 b1 r.cells nr:=ax;clear J;have V:=h.small;have hlen:=h.len;have ad:=h.num;unfold jj.valid;refine aE (Mx _ n) ?_;rintro x ae ⟨rfl,rfl⟩;refine⟨_,rfl,eu (λag=>?_) (λag=>?_)⟩
 ·grind
 have H:1<=n/\n<=5:=by grind
 rw[aW (λe=>e H)];refine⟨_,ax.cell rfl,a5 (λaB=>?_) (λaB=>⟨_,ax.cell rfl,a5 (λS=>?_) (λS=>?_)⟩)⟩
 ·grind
 ·grind
 rw[aW (by omega)];refine⟨_,_,_,ax.cell rfl,dJ (λaf=>?_) (λaf=>⟨_,_,_,ax.cell rfl,?_⟩)⟩
 ·grind
 rw[aW (by omega)];refine cP mix (λm env u=>∃ (i:Nat) (K:au),m=v.mem.length-i/\i<=v.mem.length/\env=vl n ⟨b1,0,none⟩ r.fr r.e_ r.fS r.e_ i K/\ai ae u/\∀ k,k<i->kb n v.mem k=true) v.mem.length
  ⟨0,_,by omega,by omega,rfl,ao.refl _ _,λk ab=>by omega⟩ ?_
 rintro m env u ⟨i,K,rfl,Z,rfl,a,B⟩;rw[YR];refine a5 (λN=>?_) (λN=>?_)
 ·have p:i<v.mem.length:=by omega
  have L:v.mem[i]?=some v.mem[i]:=bW p;have ah:=oW (d:=jL) L;have f:kb n v.mem i=false->(List.range v.mem.length).all (kb n v.mem)=false:=CC p;refine ei (cells:=aU.cells) aU.len (by omega) ((h.rd.new g).new a) L rfl hlen λb o Q _=>aU.aT v.mem[i] ⟨Q,?_⟩
  refine dP (vs:=v.mem[i].cells) rfl (aU.single _) λaz b3 P s A=>?_
  rintro bz I;have j:ai b3 bz:=by rw[I];exact cC _
  clear I;have F:=ai.ak j s;have c:=(a.new A).new j;refine⟨λy=>ai bz y,ao.refl _ _,_,λy q=>(ai.ak q F).cell (i:=0) rfl,a5 (λC=>?_) (λC=>⟨_,λy q=>(ai.ak q F).cell (i:=0) rfl,a5 (λD=>?_) (λD=>a5 (λT=>?_) (λT=>?_))⟩)⟩
  ·rw[bm (f (by grind[kb]))];exact⟨rfl,g.new c⟩
  ·rw[bm (f (by grind[kb]))];exact⟨rfl,g.new c⟩
  ·have G:v.mem[i-1]?=some v.mem[i-1]:=bW (by omega);have Y:=oW (d:=jL) G;refine⟨_,λy q=>(ai.ak q F).cell (i:=0) rfl,_,_,_,λy q=>(ai.ak (c.new q) ax).cell (i:=1) rfl,?_⟩;refine io (cells:=aU.cells) aU.len (by omega) ((h.rd.new g).new c) G (by rw[bq (by omega) (by omega)];omega) hlen λb' aI R=>⟨_,λy q=>R y q 0 _ rfl,a5 (λU=>?_) (λU=>?_)⟩
   ·rw[bm (f (by grind[kb]))];exact⟨rfl,g.new c⟩
   ·rw[bq (by omega) (by omega)];refine⟨v.mem.length-(i+1),by omega,i+1,_,rfl,by omega,rfl,c,λk ab=>?_⟩
    grind[Nat.lt_succ_iff_lt_or_eq,kb]
  ·rw[bq (by omega) (by omega)];refine⟨v.mem.length-(i+1),by omega,i+1,_,rfl,by omega,rfl,c,λk ab=>?_⟩
   grind[Nat.lt_succ_iff_lt_or_eq,kb]
 have W:(List.range v.mem.length).all (kb n v.mem)=true:=by
  grind
 rw[aW (by grind)];rw[aag];have t:=ai.ak a ax;refine⟨_,_,_,t.cell (i:=1) rfl,?_⟩;refine cP mix (λm env z=>∃ (i:Nat) (K:au),m=v.mem.length-i/\i<=v.mem.length/\env=yI ⟨b1,0,none⟩ r.fr r.e_ r.fS r.e_ i K/\ai ae z/\(v.mem.take i).all mU=true) v.mem.length
  ⟨0,_,by omega,by omega,rfl,a,rfl⟩ ?_
 clear t a B Z N;rintro m env u ⟨i,K,rfl,Z,rfl,a,B⟩;rw[YS];refine a5 (λN=>?_) (λN=>?_)
 ·have p:i<v.mem.length:=by omega
  have L:v.mem[i]?=some v.mem[i]:=bW p;have f:mU v.mem[i]=false->v.mem.all mU=false:=λe=>by
   grind
  refine ei (cells:=aU.cells) aU.len (by omega) ((h.rd.new g).new a) L rfl hlen λb o Q _=>aU.aT v.mem[i] ⟨Q,?_⟩
  refine dP (vs:=v.mem[i].cells) rfl (aU.single _) λaz b3 P s A=>?_
  have l:=a.new A;refine⟨_,s.cell (i:=1) rfl,a5 (λC=>?_) (λC=>⟨_,s.cell (i:=1) rfl,a5 (λD=>?_) (λD=>?_)⟩)⟩
  ·rw[bm (f (by grind[mU]))];exact⟨rfl,g.new l⟩
  ·rw[bm (f (by grind[mU]))];exact⟨rfl,g.new l⟩
  ·rw[bq (by omega) (by omega)];refine⟨v.mem.length-(i+1),by omega,i+1,_,rfl,by omega,rfl,l,?_⟩
   grind[List.take_add_one,mU]
 have E:v.mem.take i=v.mem:=rM (by omega);rw[E]at B;rw[aW (by grind)];rw[aah];have t:=ai.ak a ax;refine⟨_,_,_,t.cell (i:=1) rfl,?_⟩;rw[hlen];refine aE (Kr ((h.rd.new g).new a) V) ?_;rintro x bz ⟨rfl,j⟩;refine⟨_,rfl,eu (λX=>?_) (λX=>?_)⟩
 ·rw[bm X];exact⟨rfl,g.new (a.new j)⟩
 ·rw[aW (by grind)];exact⟨rfl,g.new (a.new j)⟩
end
section
theorem PD {u:aj}{a:an}{n cap:Nat}{L:List aU}(h:aZ u eF 3 a n cap (gG L).flatten)(q:n=L.length){m:aU}(j:n<=1000000){K:Nat->an->Nat->Nat->aK}
  (p:∀ b ap e g,b=u.heap.size->aZ g eF 3 ap (n+1) e (gG (L++[m])).flatten->ao (aP a) u g->(∀ k,aP ap k->aP a k\/u.heap.size<=k)->K b ap (n+1) e g) :
  ∀ b1 i,b1=u.heap.size->i=u.alloc (.cells m.cells.toArray eF)->∃ (ap:an) (d c:Nat),∃ g,(Builtin.append_ #[Bk,Bk] Bk #[(.slice a n cap),(.slice (some ⟨b1,0,none⟩) 1 1)]).run prog i=.ok (.slice ap d c) g/\K b1 ap d c g:=by
 obtain⟨inf,o,ax,f,l⟩:=ft (T:=eF) (z:=.agg #[.int .i64 0,.int .i64 0,.bool false]) (n:=3) (m:=24) (by kernel_rfl);rw[<-f]at h;refine oN Tryz.underlying33 o ax (by rw[f];rfl) (by omega) h (by rw[f];rfl) (aU.single m) (by omega) (by omega) ?_
 grind[Ma]
end
section
open IntKind
variable (w:aj)(R:bg){i k:Int}{A B:aw}{j:al}
theorem Zw:bc prog f28 [ab i] R w=(aR w #[ab 0,a4] 35 λh k=>Calls prog 51 #[ab i] k λe l=>c1.ex λb=>∃ a,e=.returned (.tuple #[b.val,ab a])/\aR l #[ab 0,a4] 35 λg j=>a8 j (ah g 0) 0 b.cells λf=>l0 f (ah g 0) λr=>a8 f (ah h 0) 0 r.cells λd=>l0 d (ah h 0) λc=>d=d/\R c.val d):=by kernel_rfl
def x9 (a:Int)(s2 b:aw)(c:Int)(j:al):al:=ab a::ae j 0 1 (.pointer (some s2)::ae j 1 1 (.pointer (some b)::ab c::ae j 2 21 []))
def HE (a b:aw)(j:al):al:=ae j 0 2 (.pointer (some a)::ae j 2 1 (.pointer (some b)::ae j 3 22 []))
theorem YT:bc prog f51 [ab i] R w=(aR w #[ab 0,a4] 35 λc f=>cond (i<1) (a8 f (ah c 0) 0 [ab 0,a4] λe=>l0 e (ah c 0) λa=>e=e/\R (.tuple #[a.val,ab 1]) e) (cond (i>5) (a8 f (ah c 0) 0 [ab 0,a4] λd=>l0 d (ah c 0) λb=>d=d/\R (.tuple #[b.val,ab 1]) d) (aR f #[ab 0,a4] 35 λg h=>a8 h (ah g 0) 0 [ab 0,a4] λj=>cj prog (cN f51 [1,1,1,0,1,0,0]) (x9 i (ah c 0) (ah g 0) 0 (undef::ab 0::ab i::ad (i<1)::ad false::ab i::ad (i>5)::ad (i>5)::undef::.agg #[ab 0,a4]::a1 13 [])) (aL 0 (aS f51 [1,1,1,1] R)) j))):=by kernel_rfl
theorem Vz (g:al->aK):W prog (sb f51 [1,1,1,0,1,0,0]) (x9 i A B k j) (aM g (aL 0 (aS f51 [1,1,1,1] R))) w=(cond (k<i) (bY w (br B 1) λa b c=>aR w #[ab k,ab 1,ad true] 116 λh m=>da 33 (af a b c) (af (bs h) 1 1) m λe d f n=>cM n (br B 1) (af e d f) λl=>g (x9 i A B (i64.wrap (k+1)) (ae j 0 10 [ab k,ab i,ad (k<i),ab k,ab (i64.wrap (k+1)),a7 B 1,af a b c,ab k,.agg #[ab k,ab 1,ad true],af (bs h) 1 1,af e d f,a7 B 1,aB j 22])) l) (W prog (sb f51 [1,1,1,1]) (HE A B (ab i::aB j 0::aB j 1::ab k::ae j 2 8 (ab k::ab i::ad (k<i)::ae j 13 10 []))) (bV f51 R) w)):=by kernel_rfl
theorem XE:W prog (sb f51 [1,1,1,1]) (HE A B j) (bV f51 R) w=(l0 w B λr=>a8 w A 0 r.cells λa=>l0 a A λc=>a=a/\R (.tuple #[c.val,ab 0]) a):=by kernel_rfl
end
section
structure Td (v:jj):Prop where
 num:0<=v.number/\v.number<16
 eS:∀ m ∈ v.mem,1<=m.cB
 ne:v.mem≠[]
 ej:v.mem.length<=5
abbrev GA (A:Nat):a6:=λk=>k<A
theorem Te {w:aj}{n:Int}{a:an}{c A:Nat}{L:List aU}(b:aZ w eF 3 a L.length c (gG L).flatten)(f:L.length<=1000000)(d:∀ k,aP a k->A<=k):gi (GA A) w ⟨n,a,L.length,c⟩ ⟨n,L⟩:=
 ⟨rfl,rfl,b.le,b.rd,gF b.rd λk e h=>Nat.lt_irrefl _ (fQ h (d k e)),f⟩
theorem gi.mono {M M':a6}{w:aj}{r:c1}{v:jj}(h:gi M w r v)(hm:∀ k,k<w.heap.size->M' k->M k):gi M' w r v:=by
 refine⟨h.num,h.len,h.cap,h.rd,?_,h.small⟩;rcases h.off with e | e
 ·grind
 ·rcases h.rd with a | ⟨b,o,a,d⟩
  ·grind
  ·by_cases he:(gG v.mem).flatten=[]
   ·grind
   ·rw[a]at e ⊢;refine .inr λc=>e (hm _ ?_ c)
    cases f:(gG v.mem).flatten with
    |nil=>grind
    |cons x xs=>exact wP (d 0 x (by grind))
theorem gi.aC {M N:a6}{w w':aj}{r:c1}{v:jj}(h:gi M w r v)(d:ao N w w')(b:∀ k,N k->M k):gi M w' r v:=
 ⟨h.num,h.len,h.cap,h.rd.aC d (h.off.imp id λe=>by cases c:r.fr with
  |none=>exact trivial
  |some a=>rw[c]at e;exactλf=>e (b _ f)),h.off,h.small⟩
def stM (n:Nat):List aU:=(List.range n).map λ(i:Nat)=>⟨(i:Int),1,true⟩
theorem E1 (n:Nat):(stM n).length=n:=by simp[stM]
theorem Ov (n:Nat):stM (n+1)=stM n++[⟨(n:Int),1,true⟩]:=by simp[stM,o1]
theorem Ow {n:Nat}{m:aU}(h:m ∈ stM n):1<=m.cB:=by
 simp only[stM,dD]at h
 grind
theorem Mb (w:aj){n:Int}(J:1<=n)(ab:n<=5):a9 51 [.int .i64 n] w λx w'=>∃ (a:an) (c:Nat) (L:List aU),x=.tuple #[c1.val ⟨0,a,L.length,c⟩,.int .i64 0]/\aZ w' eF 3 a L.length c (gG L).flatten/\ai w w'/\L=stM n.toNat/\(∀ k,aP a k->w.heap.size<=k):=by
 refine a' Tryz.func51 ?_;rw[YT];rintro b1 w1 E C;obtain⟨f,s⟩:=bo E C;have f:aq w1 b1 (c1.cells ⟨0,none,0,0⟩) nr:=f;clear C;refine a5 (λH=>b_ H (by omega)) (λ_=>a5 (λH=>b_ H (by omega)) (λ_=>?_))
 refine dP (vs:=c1.cells ⟨0,none,0,0⟩) rfl (c1.single _) λaz af Q I t=>?_
 have D:=ai.ak t f;have r:=s.new t;have X:=s.size;have K:=f.lt;refine cP mix (λm env u=>∃ (i:Nat) (a:an) (c:Nat) (L:List aU) (M:au),m=n.toNat-i/\i<=n.toNat/\env=x9 n ⟨b1,0,none⟩ ⟨az,0,none⟩ i M/\ai w u/\aq u b1 (c1.cells ⟨0,none,0,0⟩) nr/\aq u az (c1.cells ⟨0,a,L.length,c⟩) nr/\aZ u eF 3 a L.length c (gG L).flatten/\(∀ k,aP a k->az<k)/\L=stM i) n.toNat
  ⟨0,none,0,[],_,by omega,by omega,rfl,r,D,I,aZ.nil _ _ _,(λk h=>by obtain⟨o,V⟩:=h;cases V),rfl⟩ ?_
 rintro m env u ⟨i,a,c,L,M,rfl,ad,rfl,y,p,d,g,S,O⟩;have N:L.length=i:=by grind[E1]
 rw[Vz];refine a5 (λW=>?_) (λW=>?_)
 ·refine⟨_,_,_,d.cell (i:=1) rfl,?_⟩;refine PD g rfl (m:=⟨i,1,true⟩) (by omega) ?_;intro Z ap cap bz R G j P;have z:=j.ak p λe=>by grind
  have A:=j.ak d λe=>by grind
  have Y:=d.lt;have q:∀ k,aP ap k->az<k:=λk h=>by
   grind
  refine nX (b:=az) A (o:=0+1) (by simp[c1.cells]) λae B l=>?_
  rw[bq (by omega) (by omega)];refine⟨n.toNat-(i+1),by omega,i+1,ap,cap,L++[⟨i,1,true⟩],_,rfl,by omega,rfl,?_,l.ak z (by omega),?_,?_,q,by grind[Ov]⟩
  ·have J:ai w bz:=ti y j λk h=>by grind
   exact J.trans l λk F e=>by omega
  ·rw[hi];exact B
  ·rw[hi];exact aZ.aC l G λk h e=>by grind
 ·have T:i=n.toNat:=by omega
  rw[XE];refine c1.aT ⟨0,a,L.length,c⟩ ⟨bJ d rfl,?_⟩;refine⟨fU p (by simp[c1.cells]) (c1.single _),λb3 hu=>?_⟩;have h:ao (λk=>k=b1) u b3:=by rw[hu];exact hD _ _ _ _ _
  have ax:aq b3 b1 (c1.cells ⟨0,a,L.length,c⟩) nr:=by rw[hu];exact p.cv
  refine c1.aT ⟨0,a,L.length,c⟩ ⟨bJ ax rfl,rfl,a,c,L,rfl,?_,?_,by grind,?_⟩
  ·exact aZ.aC h g λk U e=>by grind
  ·exact y.trans h λk F e=>by omega
  grind
theorem E2 (w:aj){n:Int}(E:1<=n)(F:n<=5):a9 28 [.int .i64 n] w λx w'=>∃ r v,x=c1.val r/\gi (GA w.heap.size) w' r v/\ai w w'/\Td v/\v=⟨0,stM n.toNat⟩:=by
 refine a' Tryz.func28 ?_;rw[Zw];rintro b1 w1 u t;obtain⟨j,p⟩:=bo u t;have j:aq w1 b1 (c1.cells ⟨0,none,0,0⟩) nr:=j;clear t;refine aE (Mb w1 E F) ?_;rintro v M ⟨a,c,L,rfl,s,q,l,z⟩;have G:(L.length:Int)=n:=by grind[E1]
 have y:∀ m ∈ L,1<=m.cB:=λm hm=>Ow (l▸hm)
 refine c1.aT ⟨0,a,L.length,c⟩ ⟨_,rfl,?_⟩;refine dP (vs:=c1.cells ⟨0,a,L.length,c⟩) rfl (c1.single _) λaz K H C i=>?_
 refine c1.aT ⟨0,a,L.length,c⟩ ⟨bJ C rfl,?_⟩;have d:=ai.ak (q.new i) j;have b:=aZ.new i s;refine⟨fU d (by simp[c1.cells]) (c1.single _),λb3 hu=>?_⟩;have D:ao (λk=>k=b1) K b3:=by rw[hu];exact hD _ _ _ _ _
 have ax:aq b3 b1 (c1.cells ⟨0,a,L.length,c⟩) nr:=by rw[hu];exact d.cv
 have A:∀ k,aP a k->k≠b1:=λk f e=>by
  subst e;obtain⟨o,B⟩:=f;rcases b.2 with⟨h,_⟩ | ⟨g,cur,he,I,_⟩
  ·grind
  ·rw[he]at B;simp at B;exact b_ (I.uniq (B.1▸d)).2 (by decide)
 refine c1.aT ⟨0,a,L.length,c⟩ ⟨bJ ax rfl,rfl,_,⟨0,L⟩,rfl,Te (aZ.aC D b A) (by omega) (λk f=>by have:=z k f;have:=p.size;omega),?_,⟨⟨by simp,by simp⟩,y,λe=>?_,?_⟩,by rw[l]⟩
 ·exact(p.new (q.new i)).trans D λk J e=>by omega
 ·grind
 grind
end
section
open IntKind
variable (w:aj)(R:bg){X:bl}{a:Nat}{i k:Int}{j:al}
theorem KN (a b c d f g:Int)(h:an)(i k:Nat)(l m:Int)(w:aj)(R:bg):bc prog f130 [.agg #[ab a,ab b,ab c,ab d,ag f,ag g,af h i k,ag l,ab m]] R w=(aR w #[ab a,ab b,ab c,ab d,ag f,ag g,af h i k,ag l,ab m] 158 λb1 w1=>bN w1 (ah b1 0) λn=>cond (n == 1) (bN w1 (ah b1 3) λe=>R (ab e) w1) (cond (n == 2) (bY w1 (ah b1 6) λo p q=>R (ab (p:Nat)) w1) (cond (n == 3) (cond (n == 3) (R (ab 1) w1) (R (ab 0) w1)) (cond (n == 4) (R (ab 1) w1) (R (ab 0) w1))))):=by kernel_rfl
theorem Ks (a b c d f g:Int)(h:an)(i k:Nat)(l m:Int)(w:aj)(R:bg):bc prog f138 [.agg #[ab a,ab b,ab c,ab d,ag f,ag g,af h i k,ag l,ab m]] R w=(aR w #[ab a,ab b,ab c,ab d,ag f,ag g,af h i k,ag l,ab m] 158 λb1 w1=>R (.func (.func 186) #[] #[bb b1]) w1):=by kernel_rfl
def yD (a:bl)(b c:Int)(j:al):al:=a::ae j 0 2 (ab b::ab c::ae j 2 24 [])
theorem J7:bc prog f186 [X,bb a] R w=(ck w λq j=>cA j (ah a 2) λp=>mK j (ah a 0) λe b c n d f g h i k l=>cx 130 #[.agg #[ab e,ab b,ab c,ab n,ag d,ag f,af g h i,ag k,ab l]] q λm o=>j o/\cj prog (cN f186 [1,0,0]) (yD X p m (jp (ah a 0)::a1 2 (jp (ah a 2)::ab p::.agg #[ab e,ab b,ab c,ab n,ag d,ag f,af g h i,ag k,ab l]::ab m::a1 19 []))) (aL 0 (bV f186 R)) o):=by kernel_rfl
theorem XW (b:al->aK):W prog (sb f186 [1,0,0]) (yD X i k j) (aM b (aL 0 (bV f186 R))) w=(cond (k>0) (i_ prog X #[.agg #[ab i,ab (if((i64.wrap (8-(Int.tmod i 8))):Int)<k then((i64.wrap (8-(Int.tmod i 8))):Int)else k)]] w λe c=>∃ a,e=.returned (ad a)/\cond (!a) (R (.tuple #[]) c) (b (yD X (i64.wrap (i+(if((i64.wrap (8-(Int.tmod i 8))):Int)<k then((i64.wrap (8-(Int.tmod i 8))):Int)else k))) (i64.wrap (k-(if((i64.wrap (8-(Int.tmod i 8))):Int)<k then((i64.wrap (8-(Int.tmod i 8))):Int)else k))) (aB j 0::aB j 1::ab (if((i64.wrap (8-(Int.tmod i 8))):Int)<k then((i64.wrap (8-(Int.tmod i 8))):Int)else k)::ae j 3 4 [ab k,ad (k>0),ab k,ab i,ab (Int.tmod i 8),ab (i64.wrap (8-(Int.tmod i 8))),ab (if((i64.wrap (8-(Int.tmod i 8))):Int)<k then((i64.wrap (8-(Int.tmod i 8))):Int)else k),X,ab i,ab (if((i64.wrap (8-(Int.tmod i 8))):Int)<k then((i64.wrap (8-(Int.tmod i 8))):Int)else k),.agg #[ab i,ab (if((i64.wrap (8-(Int.tmod i 8))):Int)<k then((i64.wrap (8-(Int.tmod i 8))):Int)else k)],ad a,ad (!a),ab i,ab (if((i64.wrap (8-(Int.tmod i 8))):Int)<k then((i64.wrap (8-(Int.tmod i 8))):Int)else k),ab (i64.wrap (i+(if((i64.wrap (8-(Int.tmod i 8))):Int)<k then((i64.wrap (8-(Int.tmod i 8))):Int)else k))),ab k,ab (if((i64.wrap (8-(Int.tmod i 8))):Int)<k then((i64.wrap (8-(Int.tmod i 8))):Int)else k),ab (i64.wrap (k-(if((i64.wrap (8-(Int.tmod i 8))):Int)<k then((i64.wrap (8-(Int.tmod i 8))):Int)else k)))])) c)) (R (.tuple #[]) w)):=by kernel_rfl
end
section
theorem i' {w:aj}{d:aw}{v:aI}{K:Int->Int->Int->Int->Int->Int->an->Nat->Nat->Int->Int->Prop}(h:b6 w d 0 v.cells)
  (e:K v.Kind v.Node v.cI v.N v.Old v.ai v.Words v.dd v.c0 v.Key v.cB) :
  ∃ (Kind:Int) (Node:Int) (a:Int) (N:Int) (Old:Int) (ai:Int) (Words:an) (c:Nat) (b:Nat) (Key:Int) (cB:Int),
   b6 w d 0 [.int .i64 Kind,.int .i64 Node,.int .i64 a,.int .i64 N,.int .u64 Old,.int .u64 ai,.slice Words c b,.int .u64 Key,.int .i64 cB]/\K Kind Node a N Old ai Words c b Key cB:=
 ⟨_,_,_,_,_,_,_,_,_,_,_,h,e⟩
theorem mV {S:aK}{d:aw}{v:aI}{K:Int->Int->Int->Int->Int->Int->an->Nat->Nat->Int->Int->Prop}(h:∀ u,S u->b6 u d 0 v.cells)
  (e:K v.Kind v.Node v.cI v.N v.Old v.ai v.Words v.dd v.c0 v.Key v.cB) :
  ∃ (Kind:Int) (Node:Int) (a:Int) (N:Int) (Old:Int) (ai:Int) (Words:an) (c:Nat) (b:Nat) (Key:Int) (cB:Int),
   (∀ u,S u->b6 u d 0 [.int .i64 Kind,.int .i64 Node,.int .i64 a,.int .i64 N,.int .u64 Old,.int .u64 ai,.slice Words c b,.int .u64 Key,.int .i64 cB])/\K Kind Node a N Old ai Words c b Key cB:=
 ⟨_,_,_,_,_,_,_,_,_,_,_,h,e⟩
abbrev cK:bU:=158
theorem g8 {w:aj}{b:Nat}{v:aI}(h:aq w b v.cells cK):b6 w ⟨b,0,none⟩ 0 v.cells:=bJ h (by grind)
theorem oY (w:aj)(v:aI):aq (w.alloc (.cells v.cells.toArray cK)) w.heap.size v.cells cK:=pR _ _ _
def aI.count (v:aI):Int:=if v.Kind=1 then v.N else if v.Kind=2 then v.dd else if v.Kind=3\/v.Kind=4 then 1 else 0
theorem wR (w:aj)(v:aI):a9 130 [v.val] w λx w'=>x=.int .i64 v.count/\ai w w':=by
 refine a' Tryz.func130 ?_;refine Eq.mpr (KN v.Kind v.Node v.cI v.N v.Old v.ai v.Words v.dd v.c0 v.Key v.cB w _) ?_;rintro b1 w1 rfl rfl;have b:=oY w v;have a:=hn w (.cells v.cells.toArray cK);refine⟨_,b.cell rfl,dJ (λd=>⟨_,b.cell rfl,?_,a⟩) (λd=>dJ (λe=>⟨_,_,_,b.cell rfl,?_,a⟩) (λe=>dJ (λc=>dJ (λ_=>⟨?_,a⟩) (λh=>b_ c h)) (λc=>dJ (λf=>⟨?_,a⟩) (λf=>⟨?_,a⟩))))⟩
 ·grind[aI.count]
 ·grind[aI.count]
 ·grind[aI.count]
 ·grind[aI.count]
 grind[aI.count]
end
section
open Go.RowKit
def G6 (x:Int×Int):en:=#[.agg #[.int .i64 x.1,.int .i64 x.2]]
def hC:Nat->Int->Int->List (Int×Int)
 | 0,_,_=>[]
 |f+1,at_,left=>if left<=0 then [] else (at_,if 8 - at_ % 8<left then 8 - at_ % 8 else left)::
   hC f (at_+(if 8-at_ % 8<left then 8-at_ % 8 else left)) (left-(if 8-at_ % 8<left then 8-at_ % 8 else left))
def aI.pieces (v:aI):List (Int×Int):=hC v.count.toNat v.cI v.count
theorem K7 {w w':aj}(h:Go.bd.ai w w'):w.grownBy w' none:=⟨h.os,h.tape,h.output,h.size,λk a _=>h.block k a id⟩
theorem Mc {m:Nat}{P:c7}{l:Nat}{args:en}{W:aj}{R:Ending->aK}(h:YieldAt Fence.wide m P l args W R)(k:Nat):YieldAt Fence.wide k P l args W R:=by obtain⟨fn,tmps,assign,body,b,a⟩:=h;exact⟨fn,tmps,assign,body,b,a.1,λc cs _=>a.2 c cs (room_wide _)⟩
theorem Md (n l g T:Nat)(v:aI)(a y:List (Int×Int)->aK)(B:0<=v.cI)(I:v.cI<=1000000)(J:1<=v.count)(K:v.count<=1000000)(W:aj)
  (G:AbidesFrom W.heap.size a) (H:∀ pre x W,a pre W->pre.length<v.pieces.length->YieldAt Fence.wide (n-1) prog l (G6 x) W λe W'=>
   (e=.returned (.bool true)/\a (pre++[x]) W'/\Below T W W')\/(e=.returned (.bool false)/\y (pre++[x]) W'))
  (i:∀ u,Below (g+1) W u->b6 u ⟨g,0,none⟩ 0 v.cells) (V:g+1<=W.heap.size) (F:a [] W) :
  CallsIn Fence.wide n prog 186 #[.func (.yield l) #[] #[],.pointer (some ⟨g,0,none⟩)] W λe W'=>(∃ v,e=.returned v)/\
   ((∃ ys,ys=v.pieces/\a ys W')\/(∃ pre,pre <+: v.pieces/\y pre W')):=by
 refine callsIn_wide.2 (Calls.mono (R:=λe w'=>∃ x,e=.returned x/\((∃ ys,ys=v.pieces/\a ys w')\/(∃ pre,pre <+: v.pieces/\y pre w'))) ?_ λe w' ⟨x,Q,P⟩=>⟨⟨x,Q⟩,P⟩);refine a' Tryz.func186 (args:=[.func (.yield l) #[] #[],.pointer (some ⟨g,0,none⟩)]) (R:=λ_ w'=>(∃ ys,ys=v.pieces/\a ys w')\/(∃ pre,pre <+: v.pieces/\y pre w')) ?_;rw[J7];intro w1 w;have s:Go.bd.ai W w1:=by rw[w];exact cC _
 clear w;have p:∀ u,Go.bd.ai w1 u->Below (g+1) W u:=λu hu=>(s.new hu).below (by omega) λ_ _ h=>h
 refine⟨λu=>Go.bd.ai w1 u,ao.refl _ _,v.cI,λu hu=>?_,?_⟩
 ·have:=i u (p u hu);exact this.2.2.1
 refine mV (v:=v) (λu hu=>i u (p u hu)) ?_;refine aE (wR _ v) ?_;rintro r U ⟨rfl,t⟩;refine⟨_,rfl,t,?_⟩;have z:a [] U:=G _ _ _ none F (K7 (s.new t)) (λ_ h=>by cases h);refine cP mix (λm env u=>∃ (f:Nat) (at_ left:Int) (E:au) (pre:List (Int×Int)),m=f/\left<=f/\0<=at_/\0<=left/\at_+left<=2000000/\env=yD (.func (.yield l) #[] #[]) at_ left E/\v.pieces=pre++hC f at_ left/\a pre u) v.count.toNat
  ⟨v.count.toNat,v.cI,v.count,_,[],rfl,by omega,B,by omega,by omega,rfl,rfl,z⟩ ?_
 rintro f env u ⟨_,at_,left,E,pre,rfl,N,C,hle,D,rfl,b,j⟩;rw[XW];refine a5 (λO=>?_) (λO=>?_)
 ·obtain⟨c,rfl⟩:∃ c,f=c+1:=⟨f-1,by omega⟩;have q:Int.tmod at_ 8=at_ % 8:=zj C
  rw[q,bq (x:=8-at_ % 8) (by omega) (by omega)];generalize L:(if 8-at_ % 8<left then 8-at_ % 8 else left)=k;have M:1<=k/\k<=left/\k<=8:=by grind
  have d:hC (c+1) at_ left=(at_,k)::hC c (at_+k) (left-k):=by rw[hC,aW (by omega),L]
  rw[d]at b;have S:=Mc (H pre (at_,k) u j (by grind)) 0;refine Exists.imp (λfn=>Exists.imp λtmps=>Exists.imp λassign=>Exists.imp λbody=>And.imp id λh=>RoundIn.mono h ?_) S;rintro e X (⟨rfl,A,_⟩ | ⟨rfl,o⟩)
  ·refine⟨_,rfl,dm rfl ?_⟩;rw[bq (by omega) (by omega),bq (by omega) (by omega)];refine⟨c,by omega,c,at_+k,left-k,_,pre++[(at_,k)],rfl,by omega,by omega,by omega,by omega,rfl,by grind,A⟩
  ·exact⟨_,rfl,fq rfl (.inr ⟨_,⟨hC c (at_+k) (left-k),by grind⟩,o⟩)⟩
 ·refine .inl ⟨pre,?_,j⟩;have:left=0:=by omega
  subst this;rw[b];cases f<;>simp[hC]
end
end Go.Proofs.YtmkljjbioomepaaGreat
