import Derived.Test.YtmkljjbioomepaaGreatProg
import Derived.Test.YtmkljjbioomepaaGreatf02
import Derived.Test.YtmkljjbioomepaaGreatf09
import Derived.Test.YtmkljjbioomepaaGreatf03
set_option linter.all false
set_option maxHeartbeats 4000000
set_option maxRecDepth 100000
namespace Go.Proofs.YtmkljjbioomepaaGreat
open Go.Proofs.Tryz Go.bd
variable {A M:a6}{K:Nat->an->Nat->Nat->aK}{cap i l n:Nat}{u w w':aj}
section
open IntKind
variable (w:aj)(R:bg){A:aw}{s:an}{a b:Nat}{i k l:Int}{j:al}{X:bl}
def sS (s1:aw)(a:an)(b c:Nat)(d f:Int)(j:al):al:=ae j 0 1 (.pointer (some s1)::ae j 1 46 (af a b c::ab d::ab f::ae j 47 45 []))
def IW (a:aw)(j:al):al:=ae j 0 1 (.pointer (some a)::ae j 1 94 [])
def vh (s1:aw)(a:an)(b c:Nat)(d f:Int)(j:al):al:=ae j 0 1 (.pointer (some s1)::ae j 1 60 (af a b c::ab d::ab f::ae j 61 31 []))
def IX  (j:al):al:=ae j 0 96 []
theorem Kj (B:cE):bc prog f124 [B.val] R w=(aR w B.cells.toArray 39 λe u=>bN u (ah e 0) λa=>cond (a<0) (R (ab 1) u) (bN u (ah e 0) λb=>cond (b>=6) (R (ab 1) u) (l0 u (ah e 3) λD=>cx 166 #[D.val,ab 5] u λc j=>cond (c != 0) (R (ab c) j) (bN j (ah e 2) λd=>cond (d<98) (R (ab 18) j) (bN j (ah e 2) λf=>cond (f>256) (R (ab 18) j) (bY j (ah e 6) λg h i=>cond ((h:Int)>0) (ck j λG C=>pW C (ah e 0) λr=>cA C (ah e 2) λk=>Im 168 #[r.val] G λF E=>C E/\cx 167 #[F.val,ab k] E λl A=>C A/\cond (l != 0) (R (ab l) A) (bY A (ah e 5) λm n o=>cond ((n:Int)>24) (R (ab 18) A) (bY A (ah e 5) λp q s=>cj prog (cN f124 [1,1,1,1,1,1,0,1,0,0]) (sS (ah e 0) p q s (q:Nat) 0 (B.val::ab 0::ab c::ab l::a1 4 (jp (ah e 0)::ab a::ad (a<0)::ad false::jp (ah e 0)::ab b::ad (b>=6)::ad (b>=6)::jp (ah e 3)::D.val::ab c::ab c::ad ((c:Int) != 0)::undef::jp (ah e 2)::ab d::ad (d<98)::ad false::jp (ah e 2)::ab f::ad (f>256)::ad (f>256)::jp (ah e 6)::af g h i::cd h::ad ((h:Int)>0)::r.val::F.val::jp (ah e 2)::ab k::ab l::ab l::ad ((l:Int) != 0)::undef::jp (ah e 5)::af m n o::cd n::ad ((n:Int)>24)::jp (ah e 5)::a1 45 []))) (aL 0 (aS f124 [1,1,1,1,1,1,1] R)) A))) (bY j (ah e 5) λt v x=>cond ((v:Int)>24) (R (ab 18) j) (bY j (ah e 5) λy z H=>cj prog (cN f124 [1,1,1,1,1,1,0,1,0,0]) (sS (ah e 0) y z H (z:Nat) 0 (B.val::ab 0::ab c::a1 5 (jp (ah e 0)::ab a::ad (a<0)::ad false::jp (ah e 0)::ab b::ad (b>=6)::ad (b>=6)::jp (ah e 3)::D.val::ab c::ab c::ad ((c:Int) != 0)::undef::jp (ah e 2)::ab d::ad (d<98)::ad false::jp (ah e 2)::ab f::ad (f>256)::ad (f>256)::jp (ah e 6)::af g h i::cd h::ad ((h:Int)>0)::a1 8 (jp (ah e 5)::af t v x::cd v::ad ((v:Int)>24)::jp (ah e 5)::a1 45 [])))) (aL 0 (aS f124 [1,1,1,1,1,1,1] R)) j)))))))):=by kernel_rfl
theorem YK (f:al->aK):W prog (sb f124 [1,1,1,1,1,1,0,1,0,0]) (sS A s a b i k j) (aM f (aL 0 (aS f124 [1,1,1,1,1,1,1] R))) w=(cond (k<i) (bk s a k 2 λl=>B1 w l λr=>aR w #[ab 0,ag 0] 274 λd n=>a8 n (ah d 0) 0 r.cells λe=>bN e (ah d 0) λg=>bN e (br A 2) λh=>c6 169 #[ab g,ab h] e λc m=>cond (!c) (R (ab 2) m) (f (sS A s a b i (i64.wrap (k+1)) (ae j 0 5 (jp (ah d 0)::ae j 6 41 (ad (k<i)::jp l::r.val::jp (ah d 0)::ab g::a7 A 2::ab h::ad c::ad (!c)::ab (i64.wrap (k+1))::ae j 57 35 [])))) m)) (W prog (sb f124 [1,1,1,1,1,1,1]) (IW A (ae j 0 47 (af s a b::ab i::ab k::ad (k<i)::ae j 48 44 []))) (bV f124 R) w)):=by kernel_rfl
theorem Zo:W prog (sb f124 [1,1,1,1,1,1,1]) (IW A j) (bV f124 R) w=(bY w (br A 5) λb c d=>cj prog (cN f124 [1,1,1,1,1,1,1,0,1,0,0]) (vh A b c d (c:Nat) 0 (ae j 0 60 (a7 A 5::ae j 64 31 []))) (aL 2 (aS f124 [1,1,1,1,1,1,1,1] R)) w):=by kernel_rfl
theorem YL (B:al->aK):W prog (sb f124 [1,1,1,1,1,1,1,0,1,0,0]) (vh A s a b i k j) (aM B (aL 2 (aS f124 [1,1,1,1,1,1,1,1] R))) w=(cond (k<i) (bk s a k 2 λD=>B1 w D λr=>aR w #[ab 0,ag 0] 274 λe I=>a8 I (ah e 0) 0 r.cells λbf=>ck bf λE f=>cond (k>0) (cA f (ah e 0) λg=>dS f (br A 5) λh c G=>bk h c (i64.wrap (k-1)) 2 λx=>cA f x λl=>cond (g<=l) (R (ab 1) E) (hd f (ah e 1) λm=>c6 170 #[ag m] E λn u=>f u/\cond (!n) (R (ab 1) u) (pW f A λF=>cA f (ah e 0) λo=>c6 171 #[F.val,ab o] u λp C=>f C/\cond p (R (ab 1) C) (B (vh A s a b i (i64.wrap (k+1)) (ae j 0 6 (ab k::jp (ah e 0)::ae j 8 53 [ad (k<i),ab k,jp D,r.val,ab k,ad (k>0),ad true,jp (ah e 0),ab g,a7 A 5,af h c G,ab k,ab (i64.wrap (k-1)),jp x,jp x,ab l,ad (g<=l),ad (g<=l),ad false,jp (ah e 1),ag m,ad n,ad (!n),ad (!n),ad false,F.val,jp (ah e 0),ab o,ad p,ad p,ab (i64.wrap (k+1))]))) C)))) (hd f (ah e 1) λq=>c6 170 #[ag q] E λd y=>f y/\cond (!d) (R (ab 1) y) (pW f A λH=>cA f (ah e 0) λt=>c6 171 #[H.val,ab t] y λv z=>f z/\cond v (R (ab 1) z) (B (vh A s a b i (i64.wrap (k+1)) (ae j 0 6 (ab k::jp (ah e 0)::ae j 8 53 (ad (k<i)::ab k::jp D::r.val::ab k::ad (k>0)::ad false::a1 10 [ad false,ad false,jp (ah e 1),ag q,ad d,ad (!d),ad (!d),ad false,H.val,jp (ah e 0),ab t,ad v,ad v,ab (i64.wrap (k+1))])))) z)))) (W prog (sb f124 [1,1,1,1,1,1,1,1]) (IX  (aB j 0::jp A::ae j 1 60 (af s a b::ab i::ab k::ad (k<i)::ae j 62 30 []))) (bV f124 R) w)):=by kernel_rfl
theorem Zp:W prog (sb f124 [1,1,1,1,1,1,1,1]) (IX  j) (bV f124 R) w=(R (ab 0) w):=by kernel_rfl
def qY (s2:aw)(a:an)(b c:Nat)(d f:Int)(j:al):al:=ae j 0 2 (.pointer (some s2)::ae j 2 39 (af a b c::ab d::ab f::ae j 41 41 []))
def IY (a:aw)(j:al):al:=ae j 0 2 (.pointer (some a)::ae j 2 83 [])
def yB (a:an)(b c:Nat)(d f:Int)(j:al):al:=ae j 0 65 (af a b c::ab d::ab f::ae j 65 18 [])
def ul  (j:al):al:=ae j 0 86 []
theorem Kk (v:bX):bc prog f167 [v.val,ab i] R w=(aR w v.cells.toArray 271 λj z=>aR z #[ab i] 3 λt y=>bN y (ah t 0) λx=>c6 203 #[ab x] y λa s=>cond (!a) (R (ab 18) s) (bN s (ah j 0) λb=>cond (b<1) (R (ab 1) s) (bN s (ah j 0) λc=>cond (c>=1073741824) (R (ab 1) s) (bY s (ah j 1) λd f g=>cond ((f:Int)<1) (R (ab 1) s) (bY s (ah j 1) λh e k=>cond ((e:Int)>12) (R (ab 1) s) (bY s (ah j 1) λl m n=>c6 204 #[af l m n,.func (.func 205) #[] #[bb t]] s λo u=>cond o (R (ab 2) u) (bY u (ah j 1) λp q r=>cj prog (cN f167 [1,1,0,1,0,0]) (qY (ah j 0) p q r (q:Nat) 0 (v.val::ab i::jp (ah t 0)::ab 0::a1 6 (ad (!a)::ab x::ad a::ad (!a)::ad ((e:Int)>12)::jp (ah j 0)::ab b::ad (b<1)::ad false::jp (ah j 0)::ab c::ad (c>=1073741824)::ad (c>=1073741824)::ad false::jp (ah j 1)::af d f g::cd f::ad ((f:Int)<1)::ad ((f:Int)<1)::ad false::jp (ah j 1)::af h e k::cd e::ad ((e:Int)>12)::ad ((e:Int)>12)::ad o::jp (ah j 1)::af l m n::.func (.func 205) #[] #[bb t]::ad o::jp (ah j 1)::a1 41 []))) (aL 1 (aS f167 [1,1,1] R)) u))))))):=by kernel_rfl
theorem YM (e:al->aK):W prog (sb f167 [1,1,0,1,0,0]) (qY A s a b i k j) (aM e (aL 1 (aS f167 [1,1,1] R))) w=(cond (k<i) (bk s a k 9 λn=>hJ w n λr=>aR w #[ab 0,ag 0,ag 0,ag 0,ag 0,ag 0,ag 0,ag 0,ag 0] 73 λd q=>a8 q (ah d 0) 0 r.cells λt=>ck t λo f=>cond (k>0) (cA f (ah d 0) λg=>dS f (br A 1) λh c p=>bk h c (i64.wrap (k-1)) 9 λm=>cA f m λl=>cond (g<=l) (R (ab 1) o) (e (qY A s a b i (i64.wrap (k+1)) (ae j 0 4 (ab k::jp (ah d 0)::ae j 6 35 (ad (k<i)::ab k::jp n::r.val::ab k::ad (k>0)::ad true::jp (ah d 0)::ab g::a7 A 1::af h c p::ab k::ab (i64.wrap (k-1))::jp m::jp m::ab l::ad (g<=l)::ad (g<=l)::ab (i64.wrap (k+1))::ae j 60 22 [])))) o)) (e (qY A s a b i (i64.wrap (k+1)) (ae j 0 4 (ab k::jp (ah d 0)::ae j 6 35 (ad (k<i)::ab k::jp n::r.val::ab k::ad (k>0)::ad false::a1 10 (ad false::ab (i64.wrap (k+1))::ae j 60 22 []))))) o)) (W prog (sb f167 [1,1,1]) (IY A (ae j 0 41 (af s a b::ab i::ab k::ad (k<i)::ae j 42 40 []))) (bV f167 R) w)):=by kernel_rfl
theorem iN:W prog (sb f167 [1,1,1]) (IY A j) (bV f167 R) w=(bY w (br A 1) λb c d=>cj prog (cN f167 [1,1,1,0,1,0,0]) (yB b c d (c:Nat) 0 (aB j 0::aB j 1::jp A::ae j 2 61 (a7 A 1::ae j 67 18 []))) (aL 3 (aS f167 [1,1,1,1] R)) w):=by kernel_rfl
theorem YN (n:al->aK):W prog (sb f167 [1,1,1,0,1,0,0]) (yB s a b i k j) (aM n (aL 3 (aS f167 [1,1,1,1] R))) w=(cond (k<i) (bk s a k 9 λo=>hJ w o λr=>aR w #[ab 0,ag 0,ag 0,ag 0,ag 0,ag 0,ag 0,ag 0,ag 0] 73 λd q=>a8 q (ah d 0) 0 r.cells λp=>dp p (ah d 1) λg=>g6 206 #[ag g] p λh c f=>cond (c != 0) (R (ab 1) f) (dp f (ah d 1) λe=>c6 170 #[ag e] f λl m=>cond (!l) (R (ab 1) m) (n (yB s a b i (i64.wrap (k+1)) (ae j 0 8 (jp (ah d 0)::ag h::ab c::ae j 11 54 [ad (k<i),jp o,r.val,.tuple #[ag h,ab c],jp (ah d 1),ag g,.tuple #[ag h,ab c],ag h,ab c,ab c,ad ((c:Int) != 0),ad false,jp (ah d 1),ag e,ad l,ad (!l),ad (!l),ab (i64.wrap (k+1))]))) m))) (W prog (sb f167 [1,1,1,1]) (ul  (ae j 0 65 (af s a b::ab i::ab k::ad (k<i)::ae j 66 17 []))) (bV f167 R) w)):=by kernel_rfl
theorem ZE:W prog (sb f167 [1,1,1,1]) (ul  j) (bV f167 R) w=(R (ab 0) w):=by kernel_rfl
theorem ZF (j:cE):bc prog f168 [j.val] R w=(aR w j.cells.toArray 39 λi k=>aR k #[ab 0,a4] 271 λh g=>bN g (ah i 1) λa=>bY g (ah i 6) λb c d=>a8 g (ah h 0) 0 [ab a,af b c d] λe=>hK e (ah h 0) λf=>e=e/\R f.val e):=by kernel_rfl
def yq (s1:Int)(s8:an)(a b:Nat)(d c:Int)(j:al):al:=ae j 0 1 (ab s1::ae j 1 6 (af s8 a b::ab d::ab c::ae j 7 8 []))
def HP  (j:al):al:=ae j 0 19 []
theorem ZG (e:cE):bc prog f171 [e.val,ab i] R w=(aR w e.cells.toArray 39 λd f=>bY f (ah d 6) λa b c=>cj prog (cN f171 [1,0,1,0,0]) (yq i a b c (b:Nat) 0 (e.val::jp (ah d 0)::undef::ad false::a1 2 (jp (ah d 6)::a1 8 []))) (aL 0 (aS f171 [1,1] R)) f):=by kernel_rfl
theorem Ww (f:al->aK):W prog (sb f171 [1,0,1,0,0]) (yq i s a b k l j) (aM f (aL 0 (aS f171 [1,1] R))) w=(cond (l<k) (bk s a l 9 λg=>hJ w g λr=>aR w #[ab 0,ag 0,ag 0,ag 0,ag 0,ag 0,ag 0,ag 0,ag 0] 73 λc h=>a8 h (ah c 0) 0 r.cells λe=>bN e (ah c 0) λd=>cond (d == i) (R (ad true) e) (f (yq i s a b k (i64.wrap (l+1)) (ae j 0 5 [jp (ah c 0),aB j 6,ad (l<k),jp g,r.val,jp (ah c 0),ab d,ab i,ad ((d:Int) == i),ab (i64.wrap (l+1))])) e)) (W prog (sb f171 [1,1]) (HP  (aB j 0::ab i::ae j 1 6 (af s a b::ab k::ab l::ad (l<k)::ae j 8 7 []))) (bV f171 R) w)):=by kernel_rfl
theorem XZ:W prog (sb f171 [1,1]) (HP  j) (bV f171 R) w=(R (ad false) w):=by kernel_rfl
theorem IZ:bc prog f203 [ab i] R w=(cond (i>=98) (R (ad (i<=256)) w) (R (ad false) w)):=by kernel_rfl
theorem TS:bc prog f204 [af s a b,X] R w=(cx 235 #[af s a b,X] w λc d=>R (ad (c>=0)) d):=by kernel_rfl
theorem JK (f:aD):bc prog f205 [f.val,bb a] R w=(aR w f.cells.toArray 73 λe c=>bN c (ah e 0) λd=>cond (d<96) (R (ad true) c) (bN c (ah e 0) λb=>bN c (ah a 0) λx=>R (ad (b>=x)) c)):=by kernel_rfl
def xA (c:an)(a b:Nat)(s1:bl)(d s8:Int)(j:al):al:=af c a b::s1::ae j 0 5 (ab d::ab s8::ae j 5 10 [])
def G8  (j:al):al:=ae j 0 19 []
theorem TR:bc prog f235 [af s a b,X] R w=(cj prog (cN f235 [1,0,1,0,0]) (xA s a b X (a:Nat) 0 (a1 2 (ab 0::undef::af s a b::a1 10 []))) (aL 0 (aS f235 [1,1] R)) w):=by kernel_rfl
theorem TM (d:al->aK):W prog (sb f235 [1,0,1,0,0]) (xA s a b X i k j) (aM d (aL 0 (aS f235 [1,1] R))) w=(cond (k<i) (bk s a k 9 λf=>hJ w f λr=>i_ prog X #[r.val] w λe g=>∃ c,e=.returned (ad c)/\cond c (R (ab k) g) (d (xA s a b X i (i64.wrap (k+1)) [aB j 0,aB j 1,aB j 2,ab k,aB j 4,ad (k<i),ab k,X,af s a b,ab k,jp f,r.val,ad c,aB j 13,ab (i64.wrap (k+1))]) g)) (W prog (sb f235 [1,1]) (G8  (af s a b::X::ae j 0 5 (ab i::ab k::ad (k<i)::ae j 6 9 []))) (bV f235 R) w)):=by kernel_rfl
theorem TJ:W prog (sb f235 [1,1]) (G8  j) (bV f235 R) w=(R (ab (-1)) w):=by kernel_rfl
end
section
abbrev eo:bU:=73
def ef (l:List aD):List au:=l.map aD.cells
def il:aD:=⟨0,0,0,0,0,0,0,0,0⟩
def l3 (h:Int):Bool:=ee .u64 h 255 == 0
def ly (h:Int):Bool:=decide (1<=cD .u64 h 8/\cD .u64 h 8<=281474976710654)
def lz (p:aD):Bool:=ly p.Head && l3 p.Head
def ko (l:List aD)(i:Nat):Bool:=decide (i=0) || decide ((l.getD (i-1) il).bw<(l.getD i il).bw)
def fJ (seq:Int)(W:List aD)(lines:Int):Int:=
 if¬ (98<=lines/\lines<=256)then 18 else if seq<1\/1073741824<=seq\/W.length<1\/12<W.length then 1
 else if W.all (λp=>hv p.bw lines)=false then 2 else if(List.range W.length).all (λi=>ko W i && lz (W.getD i il))=false then 1 else 0
theorem Qp {h:Int}(a:ch h):0<=cD .u64 h 8/\cD .u64 h 8<18446744073709551615:=by
 have e:cD .u64 h 8=h / 256:=by
  show Int.fdiv h 256=_
  grind
 have:=a.1;have:=a.2;omega
theorem xb (w:aj)(h:Int):a9 170 [.int .u64 h] w λv w'=>v=.bool (l3 h)/\w'=w:=by refine a' Tryz.func170 ?_;rw[JX];exact⟨rfl,rfl⟩
theorem Fg (w:aj)(h:Int):a9 236 [.int .u64 h] w λv w'=>v=.tuple #[.int .u64 (cD .u64 h 8),.int .i64 (IntKind.i64.wrap (ee .u64 h 255))]/\w'=w:=by
 refine a' Tryz.func236 ?_
 grind[ZD]
theorem GF {a b c:Int}(h:b=c):∃ x,Value.tuple #[.int .u64 a,.int .i64 b]=.tuple #[.int .u64 x,.int .i64 c]/\w=w:=⟨a,by rw[h],rfl⟩
theorem Qq (w:aj)(h:Int):a9 206 [.int .u64 h] w λv w'=>∃ x,v=.tuple #[.int .u64 x,.int .i64 (if ly h=true then 0 else 2)]/\w'=w:=by
 refine a' Tryz.func206 ?_;rw[CD];refine aE (Fg w h) ?_;rintro v w1 ⟨rfl,rfl⟩;refine⟨_,_,rfl,?_⟩;refine aE (zY w1 _ 1 281474976710654) ?_;rintro v c ⟨rfl,rfl⟩;refine⟨_,rfl,eu (λa=>GF ?_) (λb=>GF ?_)⟩
 ·rw[aW (by grind[ly])]
 ·rw[bm (by grind[ly])]
structure fm (w:aj)(a:an)(n:Nat)(W:List aD):Prop where
 rd:bh w a (ef W).flatten
 len:n=W.length
 ej:W.length<=1000000
 u64:∀ p ∈ W,ch p.Head
theorem fm.new {w w':aj}{a:an}{n:Nat}{W:List aD}(h:fm w a n W)(b:ai w w'):fm w' a n W:=⟨h.rd.new b,h.len,h.ej,h.u64⟩
theorem Vf:iv prog 205=true:=by kernel_rfl
theorem Tk (w:aj)(p:aD){cz:Nat}{lines:Int}(d:w.cell? ⟨cz,0,none⟩=some (.int .i64 lines)):a9 205 [p.val,.pointer (some ⟨cz,0,none⟩)] w λv w'=>v=.bool (decide (p.bw<96) || decide (lines<=p.bw))/\ai w w':=by
 refine a' Tryz.func205 ?_;rw[JK];rintro b1 w1 b a;obtain⟨ax,c⟩:=bo b a;have ax:aq w1 b1 p.cells eo:=ax;clear a;refine⟨_,ax.cell (i:=0) rfl,a5 (λh=>⟨?_,c⟩) (λh=>⟨_,ax.cell (i:=0) rfl,_,jG c d id,?_,c⟩)⟩
 ·grind
 grind
section
attribute [local irreducible] iv i_ l5
theorem Nn {a:an}{n c cz:Nat}{lines:Int}{W:List aD}(h:fm w a n W)(l:w.cell? ⟨cz,0,none⟩=some (.int .i64 lines)) :
  a9 235 [.slice a n c,.func (.func 205) #[] #[.pointer (some ⟨cz,0,none⟩)]] w λv w'=>∃ z:Int,v=.int .i64 z/\(decide (z>=0)=W.any λp=>decide (p.bw<96) || decide (lines<=p.bw))/\ai w w':=by
 have s:=h.len;subst s;have j:=h.ej;refine a' Tryz.func235 ?_;rw[TR];refine cP mix (λm env u=>∃ (i:Nat) (k:au),m=W.length-i/\i<=W.length/\env=xA a W.length c (.func (.func 205) #[] #[.pointer (some ⟨cz,0,none⟩)]) W.length i k/\ai w u/\((W.take i).any λp=>decide (p.bw<96) || decide (lines<=p.bw))=false) W.length
  ⟨0,_,by omega,by omega,rfl,ao.refl _ _,rfl⟩ ?_
 rintro m env u ⟨i,k,rfl,y,rfl,e,t⟩;rw[TM];refine a5 (λx=>?_) (λx=>?_)
 ·have g:i<W.length:=by omega
  have r:W[i]?=some W[i]:=bW g;refine ei (cells:=aD.cells) aD.len (by omega) (h.rd.new e) r rfl rfl λb o f _=>aD.aT W[i] ⟨f,?_⟩
  refine rz Vf (xs:=#[W[i].val,.pointer (some ⟨cz,0,none⟩)]) (by simp) ?_;refine aE (Tk u W[i] (jG e l id)) ?_;rintro v bp ⟨rfl,d⟩;refine⟨_,rfl,ek (λq=>⟨i,rfl,?_,e.new d⟩) (λq=>?_)⟩
  ·grind
  ·rw[bq (by omega) (by omega)];refine⟨W.length-(i+1),by omega,i+1,_,rfl,by omega,rfl,e.new d,?_⟩
   grind[List.take_add_one]
 grind[TJ,List.take_of_length_le]
end
theorem K2 {a:an}{n c cz:Nat}{lines:Int}{W:List aD}(h:fm w a n W)(b:w.cell? ⟨cz,0,none⟩=some (.int .i64 lines)) :
  a9 204 [.slice a n c,.func (.func 205) #[] #[.pointer (some ⟨cz,0,none⟩)]] w λv w'=>v=.bool (W.any λp=>decide (p.bw<96) || decide (lines<=p.bw))/\ai w w':=by
 refine a' Tryz.func204 ?_;rw[TS];refine aE (Nn h b) ?_
 grind
theorem N6 {W:List aD}{lines:Int}(b:98<=lines/\lines<=256):(W.any λp=>decide (p.bw<96) || decide (lines<=p.bw))=!(W.all λp=>hv p.bw lines):=by
 induction W with
 |nil=>rfl
 |cons p W a=>
  rw[List.any_cons,List.all_cons,a,Bool.not_and];congr 1;unfold hv
  grind
theorem Qr {p q:Nat->Bool}:((List.range n).all λi=>p i && q i)=false↔(List.range n).all p=false\/(List.range n).all q=false:=by
 grind
theorem wj {r:bX}{W:List aD}(h:fm w r.de r.dj W)(lines:Int):a9 167 [r.val,.int .i64 lines] w λx w'=>x=.int .i64 (fJ r.Seq W lines)/\ai w w':=by
 refine a' Tryz.func167 ?_;rw[Kk];rintro b1 w1 Q K;obtain⟨B,ad⟩:=bo Q K;have B:aq w1 b1 r.cells 271:=B;clear K;rintro az aB R L;obtain⟨q,G⟩:=bo R L;have q:aq aB az [.int .i64 lines] 3:=q;clear L;have a:=ai.ak G B;have ab:=ad.new G;have hlen:=h.len;have aL:=h.ej;refine⟨_,q.cell (i:=0) rfl,?_⟩;have Y:a9 203 [.int .i64 lines] aB λv w'=>v=.bool (decide (98<=lines/\lines<=256))/\w'=aB:=by
  refine a' Tryz.func203 ?_
  grind[IZ]
 refine aE Y ?_;rintro x bD ⟨rfl,rfl⟩;unfold fJ;refine⟨_,rfl,eu (λV=>?_) (λaV=>?_)⟩
 ·grind
 have aR:98<=lines/\lines<=256:=by grind
 rw[aW (λe=>e aR)];refine⟨_,a.cell (i:=0) rfl,a5 (λbh=>?_) (λbh=>⟨_,a.cell (i:=0) rfl,a5 (λae=>?_) (λae=>⟨_,_,_,a.cell (i:=1) rfl,a5 (λaf=>?_) (λaf=>⟨_,_,_,a.cell (i:=1) rfl,a5 (λag=>?_) (λag=>⟨_,_,_,a.cell (i:=1) rfl,?_⟩)⟩)⟩)⟩)⟩
 ·grind
 ·grind
 ·grind
 ·grind
 rw[aW (by omega)];refine aE (K2 (h.new ab) (q.cell (i:=0) rfl)) ?_;rintro x a1 ⟨rfl,A⟩;rw[N6 aR];refine⟨_,rfl,eu (λV=>?_) (λaV=>?_)⟩
 ·rw[bm V];exact⟨rfl,ab.new A⟩
 rw[aW (by grind)];have l:=ai.ak A a;have c:=ab.new A;refine⟨_,_,_,l.cell (i:=1) rfl,?_⟩;refine cP mix (λm env u=>∃ (i:Nat) (C:au),m=W.length-i/\i<=W.length/\env=qY ⟨b1,0,none⟩ r.de r.dj r.fG r.dj i C/\ai a1 u/\∀ k,k<i->ko W k=true) W.length
  ⟨0,_,by omega,by omega,rfl,ao.refl _ _,λk Z=>by omega⟩ ?_
 rintro m env u ⟨i,C,rfl,aP,rfl,p,I⟩;rw[YM];refine a5 (λO=>?_) (λO=>?_)
 ·have n:i<W.length:=by omega
  have E:W[i]?=some W[i]:=bW n;have X:=oW (d:=il) E;refine ei (cells:=aD.cells) aD.len (by omega) (h.rd.new (c.new p)) E rfl hlen λb o T _=>aD.aT W[i] ⟨T,?_⟩
  refine dP (vs:=W[i].cells) rfl (aD.single _) λa4 b3 S s j=>?_
  rintro bz J;have t:ai b3 bz:=by rw[J];exact cC _
  clear J;have N:=ai.ak t s;have f:=(p.new j).new t;have go:ko W i=true->∀ D,∃ aZ,aZ<W.length-i/\∃ (P:Nat) (C:au),aZ=W.length-P/\P<=W.length/\qY ⟨b1,0,none⟩ r.de r.dj r.fG r.dj (IntKind.i64.wrap ((i:Int)+1)) D=qY ⟨b1,0,none⟩ r.de r.dj r.fG r.dj P C/\ai a1 bz/\∀ k,k<P->ko W k=true:=by
   intro bs D;rw[bq (by omega) (by omega)];refine⟨W.length-(i+1),by omega,i+1,D,rfl,by omega,rfl,f,λk Z=>?_⟩
   grind
  refine⟨λy=>ai bz y,ao.refl _ _,a5 (λa7=>⟨_,λy M=>(ai.ak M N).cell (i:=0) rfl,_,_,_,λy M=>(ai.ak (f.new M) l).cell (i:=1) rfl,?_⟩) (λa7=>go (by grind[ko]) _)⟩;have F:W[i-1]?=some W[i-1]:=bW (by omega);have aM:=oW (d:=il) F;refine io (cells:=aD.cells) aD.len (by omega) (h.rd.new (c.new f)) F (by rw[bq (by omega) (by omega)];omega) hlen λb' bx U=>⟨_,λy M=>U y M 0 _ rfl,a5 (λah=>?_) (λah=>go (by grind[ko]) _)⟩
  rw[bm (Qr.2 (.inl (CC n (by grind[ko]))))];exact⟨rfl,c.new f⟩
 have aI:(List.range W.length).all (ko W)=true:=by
  grind
 rw[iN];refine⟨_,_,_,(ai.ak p l).cell (i:=1) rfl,?_⟩;clear O aP I;refine cP mix (λm env z=>∃ (i:Nat) (C:au),m=W.length-i/\i<=W.length/\env=yB r.de r.dj r.fG r.dj i C/\ai u z/\∀ k,k<i->lz (W.getD k il)=true) W.length
  ⟨0,_,by omega,by omega,rfl,ao.refl _ _,λk Z=>by omega⟩ ?_
 rintro m env z ⟨i,C,rfl,aP,rfl,H,I⟩;have g:=(c.new p).new H;rw[YN];refine a5 (λO=>?_) (λO=>?_)
 ·have n:i<W.length:=by omega
  have E:W[i]?=some W[i]:=bW n;have X:=oW (d:=il) E;have bad:lz W[i]=false->(if((List.range W.length).all λi=>ko W i && lz (W.getD i il))=false then 1 else(0:Int))=1:=λe=>by
   grind
  refine ei (cells:=aD.cells) aD.len (by omega) (h.rd.new g) E rfl hlen λb o T _=>aD.aT W[i] ⟨T,?_⟩
  refine dP (vs:=W[i].cells) rfl (aD.single _) λa4 bk S s j=>?_
  refine⟨_,s.cell (i:=1) rfl,?_⟩;refine aE (Qq bk W[i].Head) ?_;rintro x br ⟨y,rfl,rfl⟩;refine⟨_,_,rfl,dw (λa8=>?_) (λhe=>⟨_,s.cell (i:=1) rfl,?_⟩)⟩
  ·rw[bad (by grind[lz,ly])];exact⟨rfl,g.new j⟩
  have bb:ly W[i].Head=true:=by
   grind
  refine aE (xb br W[i].Head) ?_;rintro x bG ⟨rfl,rfl⟩;refine⟨_,rfl,eu (λV=>?_) (λaV=>?_)⟩
  ·rw[bad (by unfold lz;grind)];exact⟨rfl,g.new j⟩
  ·rw[bq (by omega) (by omega)];refine⟨W.length-(i+1),by omega,i+1,_,rfl,by omega,rfl,H.new j,λk Z=>?_⟩
   grind[Nat.lt_succ_iff_lt_or_eq,lz]
 ·rw[ZE]
  grind
end
section
open IntKind
variable (w:aj)(R:bg){a b:Nat}{i k:Int}{A B:aw}{s:an}{j:al}
def yv (e:aw)(f:an)(a b:Nat)(c:aw)(d:Int)(j:al):al:=ae j 0 6 (.pointer (some e)::ae j 6 2 (af f a b::ae j 8 1 (.pointer (some c)::ab d::ae j 9 39 [])))
def ID (a b:aw)(j:al):al:=ae j 0 6 (.pointer (some a)::ae j 6 4 (.pointer (some b)::ae j 10 40 []))
theorem JL:bc prog f30 [bb a,ab i,ab k] R w=(aR w #[ab 0,ag 0,ag 0,ag 0,ag 0,ag 0,ag 0,ag 0,ag 0] 73 λl y=>lY 39 #[bb a,ab i] y λj s=>cond (Option.isNone j) (a8 s (ah l 0) 0 [ab 0,ag 0,ag 0,ag 0,ag 0,ag 0,ag 0,ag 0,ag 0] λp=>hJ p (ah l 0) λh=>p=p/\R (.tuple #[h.val,ad false]) p) (cx 54 #[ab k] s λb u=>rf 40 #[.pointer j,ab b,ab 8] u λc d f g o=>cond (g != 0) (a8 o (ah l 0) 0 [ab 0,ag 0,ag 0,ag 0,ag 0,ag 0,ag 0,ag 0,ag 0] λm=>hJ m (ah l 0) λe=>m=m/\R (.tuple #[e.val,ad false]) m) (cond ((d:Int) != 8) (a8 o (ah l 0) 0 [ab 0,ag 0,ag 0,ag 0,ag 0,ag 0,ag 0,ag 0,ag 0] λn=>hJ n (ah l 0) λr=>n=n/\R (.tuple #[r.val,ad false]) n) (bk c d 0 1 λt=>dp o t λx=>aR o #[ab 0,ag 0,ag 0,ag 0,ag 0,ag 0,ag 0,ag 0,ag 0] 73 λq z=>a8 z (ah q 0) 0 [ab k,ag x,ag 0,ag 0,ag 0,ag 0,ag 0,ag 0,ag 0] λv=>cj prog (cN f30 [1,1,1,1,1,1,0,1,0,0]) (yv (ah l 0) c d f (ah q 0) 0 (jp (ah a 0)::ab i::ab k::a1 3 (ad false::.pointer j::ab g::jp (ah a 0)::ab i::.pointer j::.pointer j::ad (Option.isNone j)::undef::.tuple #[af c d f,ab g]::.pointer j::ab k::ab b::.tuple #[af c d f,ab g]::af c d f::ab g::ab g::ad ((g:Int) != 0)::ad false::af c d f::cd d::ad ((d:Int) != 8)::ad ((d:Int) != 8)::undef::ab k::af c d f::jp t::ag x::.agg #[ab k,ag x,ag 0,ag 0,ag 0,ag 0,ag 0,ag 0,ag 0]::a1 13 []))) (aL 0 (aS f30 [1,1,1,1,1,1,1] R)) v)))):=by kernel_rfl
theorem X1 (c:al->aK):W prog (sb f30 [1,1,1,1,1,1,0,1,0,0]) (yv A s a b B i j) (aM c (aL 0 (aS f30 [1,1,1,1,1,1,1] R))) w=(cond (i<7) (bk s a (i64.wrap (1+i)) 1 λd=>dp w d λx=>gC (br B 2) 7 i 1 λf=>cM w f (ag x) λe=>c (yv A s a b B (i64.wrap (i+1)) (ae j 0 35 [ab i,ad (i<7),ab i,ab (i64.wrap (i+1)),ab i,af s a b,ab i,ab (i64.wrap (1+i)),jp d,ag x,a7 B 2,jp f,aB j 47])) e) (W prog (sb f30 [1,1,1,1,1,1,1]) (ID A B (ae j 0 8 (af s a b::aB j 8::ab i::ae j 9 26 (ab i::ad (i<7)::ae j 37 11 [])))) (bV f30 R) w)):=by kernel_rfl
theorem wd:W prog (sb f30 [1,1,1,1,1,1,1]) (ID A B j) (bV f30 R) w=(hJ w B λr=>a8 w A 0 r.cells λa=>hJ a A λc=>a=a/\R (.tuple #[c.val,ad true]) a):=by kernel_rfl
theorem ZH:bc prog f41 [ab i] R w=(cond (i>=0) (R (ad (i<6)) w) (R (ad false) w)):=by kernel_rfl
theorem Zu:bc prog f49 [ab i] R w=(c6 41 #[ab i] w λa b=>cond (!a) (R (ab (-1)) b) (R (ab (i64.wrap (32+i))) b)):=by kernel_rfl
theorem ZI:bc prog f54 [ab i] R w=(cond (i<96) (R (ab (-1)) w) (cond (i>=256) (R (ab (-1)) w) (R (ab (i64.wrap (i*8))) w))):=by kernel_rfl
end
section
theorem N7 (w:aj){l:Int}(a:96<=l)(b:l<256):a9 54 [.int .i64 l] w λv w'=>v=.int .i64 (l*8)/\w'=w:=by refine a' Tryz.func54 ?_;rw[ZI];refine dm (by grind) (dm (by grind) ⟨?_,rfl⟩);rw[bq (by omega) (by omega)]
def aO.eM (n:aO)(l:Nat):aD:=⟨l,n.get (l*8),n.get (l*8+1),n.get (l*8+2),n.get (l*8+3),n.get (l*8+4),n.get (l*8+5),n.get (l*8+6),n.get (l*8+7)⟩
theorem N8 {n:aO}{at_ c q:Nat}(b:q<c)(a:at_+c<=n.words.length):(n.read at_ c)[q]?=some (n.get (at_+q)):=by
 grind[aO.read,aO.get_some,Int.toNat_natCast,List.getElem?_take_of_lt]
theorem NE {n:aO}(a:i<7):((n.eM l).cells.take (2+i)++List.replicate (7-i) (Value.int .u64 0)).set (2+i) (Value.int .u64 (n.get (l*8+(1+i))))=(n.eM l).cells.take (2+(i+1))++List.replicate (7-(i+1)) (Value.int .u64 0):=by
 have h:i=0\/i=1\/i=2\/i=3\/i=4\/i=5\/i=6:=by omega
 rcases h with rfl | rfl | rfl | rfl | rfl | rfl | rfl<;>rfl
theorem w6 {av:bI}{aJ:Nat}{X:bt}(h:b4 A av w aJ X){x:d'}(O:X.nodes[i]?=some x)(aB:96<=l/\l<256)(hw:l * 8+8<=x.n.words.length)(af:x.n.down=false) :
  a9 30 [ptr aJ,.int .i64 i,.int .i64 l] w λv w'=>v=.tuple #[(x.n.eM l).val,.bool true]/\ai w w':=by
 refine a' Tryz.func30 ?_;rw[ptr,JL];rintro b1 w1 E C;obtain⟨f,p⟩:=bo E C;have f:aq w1 b1 (aD.cells ⟨0,0,0,0,0,0,0,0,0⟩) eo:=f;clear C;have M:=h.new p;refine aE (ze M O) ?_;rintro v bp ⟨rfl,rfl⟩;refine⟨_,rfl,dm rfl ?_⟩;refine aE (N7 _ (l:=(l:Int)) (by omega) (by omega)) ?_;rintro v b3 ⟨rfl,rfl⟩;refine⟨_,rfl,?_⟩;have u:x.n.e0 ((l:Int)*8) 8=0:=by
  unfold aO.e0
  grind
 refine aE (uh (M.node i x O).node ((l:Int)*8) 8) ?_;rintro v bz (⟨ae,_⟩ | ⟨_,a,cap,rfl,r,W,ad⟩)
 ·grind
 have ag:∀ q,q<8->(x.n.read ((l:Int)*8) 8)[q]?=some (x.n.get (l*8+q)):=λq N=>by
  have:=N8 (n:=x.n) (at_:=l*8) (c:=8) N (by omega)
  grind
 have hlen:(x.n.read ((l:Int)*8) 8).length=8:=aO.vB u;have B:=W.rd;obtain⟨L,Q,rfl⟩:∃ b o,a=⟨b,o,none⟩:=by
  rcases B with I | ⟨b,o,he,_⟩
  ·have:=eh List.length I
   grind[us]
  grind
 have J:∀ z,ai bz z->∀ q,q<8->z.cell? ⟨L,Q+q,none⟩=some (.int .u64 (x.n.get (l*8+q))):=λz ax q N=>by
  rcases B.new ax with I | ⟨b,o,he,F⟩
  ·have:=eh List.length I
   grind[us]
  grind[us]
 have Y:=p.size;have Z:=r.size;have U:=f.lt;refine⟨_,_,_,_,rfl,dm rfl (dm rfl ?_)⟩;refine dM (by omega) (by decide) ⟨_,by simpa using J bz (ao.refl _ _) 0 (by omega),?_⟩;refine dP (vs:=aD.cells ⟨l,x.n.get (l*8),0,0,0,0,0,0,0⟩) rfl (aD.single _) λaz aI R K H=>?_
 refine cP mix (λq env z=>∃ (i:Nat) (P:au),q=7-i/\i<=7/\env=yv ⟨b1,0,none⟩ (some ⟨L,Q,none⟩) 8 cap ⟨az,0,none⟩ i P/\ai bz z/\aq z az ((x.n.eM l).cells.take (2+i)++List.replicate (7-i) (.int .u64 0)) eo) 7
  ⟨0,_,rfl,by omega,rfl,H,K⟩ ?_
 rintro q env z ⟨i,P,rfl,ah,rfl,s,d⟩;rw[X1];refine a5 (λV=>?_) (λS=>?_)
 ·have y:i<7:=by omega
  rw[bq (x:=1+(i:Int)) (by omega) (by omega)];refine dM (by omega) (by omega) ⟨x.n.get (l*8+(1+i)),?_,?_⟩
  ·grind
  refine iY (by omega) (by omega) ?_;have e:0+2+(i:Int).toNat*1=2+i:=by omega
  rw[e];refine nX d (by grind[List.length_append,List.length_take,List.length_replicate,aD.len]) λab g j=>?_
  rw[bq (x:=(i:Int)+1) (by omega) (by omega)];rw[NE y]at g;exact⟨7-(i+1),by omega,i+1,_,rfl,by omega,rfl,s.trans j λk T e=>by grind,g⟩
 ·have G:i=7:=by omega
  subst G;rw[wd];have d:aq z az (x.n.eM l).cells eo:=d;have D:aq z b1 (aD.cells ⟨0,0,0,0,0,0,0,0,0⟩) eo:=ai.ak (r.new s) f;refine aD.aT (x.n.eM l) ⟨bJ d rfl,?_⟩;refine dI D rfl (aD.single _) λab t j=>?_
  refine aD.aT (x.n.eM l) ⟨bJ t rfl,rfl,rfl,?_⟩;exact((p.new r).new s).trans j λk T e=>by omega
end
section
theorem N9:Go.gg.kl prog 8 eo=some [false,false,false,false,false,false,false,false,false]:=by kernel_rfl
theorem Qs:gD prog eo=true:=by kernel_rfl
theorem No:Program.eqGuardType prog (Program.depth prog) eo=false:=by simp_all
theorem K3 (l:List aD)(p:aD):(ef (l++[p])).flatten=(ef l).flatten++p.cells:=by simp[ef]
theorem Fh {a:an}{L:List aD}(h:aZ u eo 9 a n cap (ef L).flatten){p:aD}(j:n<=1000000)
  (q:∀ b ap e g,b=u.heap.size->aZ g eo 9 ap (n+1) e (ef (L++[p])).flatten->ao (aP a) u g->(∀ k,aP ap k->aP a k\/u.heap.size<=k)->K b ap (n+1) e g) :
  ∀ b1 i,b1=u.heap.size->i=u.alloc (.cells p.cells.toArray eo)->∃ (ap:an) (d c:Nat),∃ g,(Builtin.append_ #[37,37] 37 #[(.slice a n cap),(.slice (some ⟨b1,0,none⟩) 1 1)]).run prog i=.ok (.slice ap d c) g/\K b1 ap d c g:=by
 obtain⟨inf,o,ax,f,l⟩:=ft (T:=eo) (z:=.agg #[.int .i64 0,.int .u64 0,.int .u64 0,.int .u64 0,.int .u64 0,.int .u64 0,.int .u64 0,.int .u64 0,.int .u64 0]) (n:=9) (m:=72) (by kernel_rfl);rw[<-f]at h;refine oN Tryz.underlying37 o ax (by rw[f];rfl) (by omega) h (by rw[f];rfl) (aD.single p) (by omega) (by omega) ?_
 grind[K3]
theorem Dr (w:aj)(c:Int):a9 41 [.int .i64 c] w λv w'=>v=.bool (decide (0<=c/\c<6))/\w'=w:=by
 refine a' Tryz.func41 ?_
 grind[ZH]
theorem Qt (w:aj)(a:i<6):a9 49 [.int .i64 i] w λv w'=>v=.int .i64 (32+i:Nat)/\w'=w:=by refine a' Tryz.func49 ?_;rw[Zu];refine aE (Dr w (i:Int)) ?_;rintro v u ⟨rfl,rfl⟩;refine⟨_,rfl,dm (by grind) ⟨?_,rfl⟩⟩;rw[bq (by omega) (by omega)];congr 1
end
section
def F8 (l:List eK):List au:=l.map eK.cells
def pP:eK:=⟨0,0⟩
def qK (R:List eK)(i:Nat):Bool:=decide (i=0) || decide ((R.getD (i-1) pP).bw<(R.getD i pP).bw)
def has (W:List aD)(line:Int):Bool:=W.any λp=>decide (p.bw=line)
def mX (R:List eK)(W:List aD)(i:Nat):Bool:=(qK R i && l3 (R.getD i pP).Head) && !has W (R.getD i pP).bw
structure cJ where
 a3:Int
 seq:Int
 lines:Int
 v:jj
 reads:List eK
 writes:List aD
def cJ.valid (j:cJ):Int:=
 if j.a3<0\/6<=j.a3 then 1 else if j.v.valid 5≠0 then j.v.valid 5 else if j.lines<98\/256<j.lines then 18
 else if 0<j.writes.length/\fJ j.seq j.writes j.lines≠0 then fJ j.seq j.writes j.lines else if 24<j.reads.length then 18
 else if j.reads.all (λs=>hv s.bw j.lines)=false then 2 else if(List.range j.reads.length).all (mX j.reads j.writes)=false then 1 else 0
structure o4 (w:aj)(r:cE)(j:cJ):Prop where
 a3:r.Client=j.a3
 seq:r.Seq=j.seq
 lines:r.et=j.lines
 view:∃ M,gi M w r.View j.v
 rd:bh w r.Reads (F8 j.reads).flatten
 len:r.k3=j.reads.length
 ej:j.reads.length<=1000000
 bT:fm w r.de r.dj j.writes
theorem o4.new {w w':aj}{r:cE}{j:cJ}(h:o4 w r j)(a:ai w w'):o4 w' r j:=⟨h.a3,h.seq,h.lines,h.view.imp λ_ h=>h.new a,h.rd.new a,h.len,h.ej,h.bT.new a⟩
theorem EK (w:aj)(r:cE):a9 168 [r.val] w λx w'=>x=bX.val ⟨r.Seq,r.de,r.dj,r.fG⟩/\ai w w':=by
 refine a' Tryz.func168 ?_;rw[ZF];rintro b1 w1 j g;obtain⟨b,d⟩:=bo j g;have b:aq w1 b1 r.cells 39:=b;clear g;rintro az q l h;obtain⟨c,f⟩:=bo l h;have c:aq q az (bX.cells ⟨0,none,0,0⟩) 271:=c;clear h;have a:=ai.ak f b;have s:=d.size;refine⟨_,a.cell (i:=1) rfl,_,_,_,a.cell (i:=6) rfl,?_⟩;refine dI (vs:=bX.cells ⟨r.Seq,r.de,r.dj,r.fG⟩) c rfl (bX.single _) λt o n=>?_
 refine bX.aT ⟨r.Seq,r.de,r.dj,r.fG⟩ ⟨bJ o rfl,rfl,rfl,?_⟩;exact(d.new f).trans n λk p e=>by omega
theorem Ds {r:cE}{W:List aD}(h:fm w r.de r.dj W)(line:Int):a9 171 [r.val,.int .i64 line] w λx w'=>x=.bool (has W line)/\ai w w':=by
 refine a' Tryz.func171 ?_;rw[ZG];rintro b1 w1 f e;obtain⟨c,j⟩:=bo f e;have c:aq w1 b1 r.cells 39:=c;clear e;have hlen:=h.len;have l:=h.ej;refine⟨_,_,_,c.cell (i:=6) rfl,?_⟩;refine cP mix (λm env u=>∃ (i:Nat) (n:au),m=W.length-i/\i<=W.length/\env=yq line r.de r.dj r.fG r.dj i n/\ai w u/\has (W.take i) line=false) W.length
  ⟨0,_,by omega,by omega,rfl,j,rfl⟩ ?_
 rintro m env u ⟨i,n,rfl,A,rfl,a,t⟩;rw[Ww];refine a5 (λy=>?_) (λy=>?_)
 ·have g:i<W.length:=by omega
  have s:W[i]?=some W[i]:=bW g;refine ei (cells:=aD.cells) aD.len (by omega) (h.rd.new a) s rfl hlen λb o q _=>aD.aT W[i] ⟨q,?_⟩
  refine dP (vs:=W[i].cells) rfl (aD.single _) λz b3 p k d=>?_
  refine⟨_,k.cell (i:=0) rfl,dJ (λhe=>⟨?_,a.new d⟩) (λhe=>?_)⟩
  ·grind[has,List.any_eq_true,List.getElem_mem]
  ·rw[bq (by omega) (by omega)];refine⟨W.length-(i+1),by omega,i+1,_,rfl,by omega,rfl,a.new d,?_⟩
   grind[has,List.take_add_one]
 grind[XZ,List.take_of_length_le]
end
section
def cJ.tail (j:cJ):Int:=if j.reads.all (λs=>hv s.bw j.lines)=false then 2 else if(List.range j.reads.length).all (mX j.reads j.writes)=false then 1 else 0
theorem ut {R:List eK}{W:List aD}(h:qK R i=false\/l3 (R.getD i pP).Head=false\/has W (R.getD i pP).bw=true):mX R W i=false:=by
 unfold mX
 grind
theorem F9 {r:cE}{j:cJ}{b1:Nat}(h:o4 w r j)(ax:aq u b1 r.cells 39)(ah:ai w u)(F:au){R:bg}(K:∀ w',ai w w'->R (.int .i64 j.tail) w') :
  cj prog (.loop (sub (ay f124) [1,1,1,1,1,1,0,1,0,0])) (sS ⟨b1,0,none⟩ r.Reads r.k3 r.po r.k3 0 F) (aL 0 (aM (λenv w=>W prog (sub (ay f124) [1,1,1,1,1,1,1]) env (cS prog f124 R) w) (cS prog f124 R))) u:=by
 have hlen:=h.len;have V:=h.ej;have ag:=h.lines;unfold cJ.tail at K;refine cP mix (λm env z=>∃ (i:Nat) (F:au),m=j.reads.length-i/\i<=j.reads.length/\env=sS ⟨b1,0,none⟩ r.Reads r.k3 r.po r.k3 i F/\ai u z/\(j.reads.take i).all (λs=>hv s.bw j.lines)=true) j.reads.length
  ⟨0,_,by omega,by omega,rfl,ao.refl _ _,rfl⟩ ?_
 rintro m env z ⟨i,F,rfl,Y,rfl,t,C⟩;have l:=ah.new t;rw[YK];refine a5 (λM=>?_) (λM=>?_)
 ·have B:i<j.reads.length:=by omega
  have L:j.reads[i]?=some j.reads[i]:=bW B;refine ei (cells:=eK.cells) eK.len (by omega) (h.rd.new l) L rfl hlen λb o O _=>eK.aT j.reads[i] ⟨O,?_⟩
  refine dP (vs:=j.reads[i].cells) rfl (eK.single _) λab b3 N D n=>?_
  refine⟨_,D.cell (i:=0) rfl,_,(ai.ak (t.new n) ax).cell (i:=2) rfl,?_⟩;refine aE (ON _ _ _) ?_;rintro x aR ⟨rfl,rfl⟩;refine⟨_,rfl,eu (λU=>?_) (λS=>?_)⟩
  ·rw [bm (by
    grind)]at K
   exact K _ (l.new n)
  ·rw[bq (by omega) (by omega)];refine⟨j.reads.length-(i+1),by omega,i+1,_,rfl,by omega,rfl,t.new n,?_⟩
   grind[List.take_add_one]
 have S:j.reads.take i=j.reads:=rM (by omega);rw[S]at C;rw[aW (by grind)]at K;rw[Zo];clear C Y M S;have J:=ai.ak t ax;refine⟨_,_,_,J.cell (i:=5) rfl,?_⟩;refine cP mix (λm env x=>∃ (i:Nat) (F:au),m=j.reads.length-i/\i<=j.reads.length/\env=vh ⟨b1,0,none⟩ r.Reads r.k3 r.po r.k3 i F/\ai z x/\∀ k,k<i->mX j.reads j.writes k=true) j.reads.length
  ⟨0,_,by omega,by omega,rfl,ao.refl _ _,λk Z=>by omega⟩ ?_
 rintro m env x ⟨i,F,rfl,Y,rfl,q,C⟩;have A:=l.new q;rw[YL];refine a5 (λM=>?_) (λM=>?_)
 ·have B:i<j.reads.length:=by omega
  have L:j.reads[i]?=some j.reads[i]:=bW B;have af:=oW (d:=pP) L;have bad:mX j.reads j.writes i=false->∀ w',ai w w'->R (.int .i64 1) w':=λe w' hw=>by
   grind
  refine ei (cells:=eK.cells) eK.len (by omega) (h.rd.new A) L rfl hlen λb o O _=>eK.aT j.reads[i] ⟨O,?_⟩
  refine dP (vs:=j.reads[i].cells) rfl (eK.single _) λab b3 N D n=>?_
  rintro bz I;have H:ai b3 bz:=by rw[I];exact cC _
  clear I;have g:=n.new H;have p:=ai.ak H D;have E:=ai.ak (q.new g) J;have a:=A.new g;refine⟨λy=>ai bz y,ao.refl _ _,a5 (λad=>⟨_,λy c=>(ai.ak c p).cell (i:=0) rfl,_,_,_,λy c=>(ai.ak c E).cell (i:=5) rfl,?_⟩) (λad=>⟨_,λy c=>(ai.ak c p).cell (i:=1) rfl,?_⟩)⟩
  ·have G:j.reads[i-1]?=some j.reads[i-1]:=bW (by omega);have X:=oW (d:=pP) G;refine io (cells:=eK.cells) eK.len (by omega) (h.rd.new a) G (by rw[bq (by omega) (by omega)];omega) hlen λb' aP P=>⟨_,λy c=>P y c 0 _ rfl,a5 (λQ=>?_) (λQ=>⟨_,λy c=>(ai.ak c p).cell (i:=1) rfl,?_⟩)⟩
   ·grind[ut,qK]
   have ae:qK j.reads i=true:=by grind[qK]
   refine aE (xb bz j.reads[i].Head) ?_;rintro v aB ⟨rfl,rfl⟩;refine⟨_,rfl,ao.refl _ _,eu (λU=>?_) (λT=>cE.aT r ⟨λy c=>bJ (ai.ak c E) rfl,_,λy c=>(ai.ak c p).cell (i:=0) rfl,?_⟩)⟩
   ·grind[ut]
   refine aE (Ds (h.bT.new a) j.reads[i].bw) ?_;rintro v aI ⟨rfl,f⟩;refine⟨_,rfl,f,ek (λhw=>?_) (λhw=>?_)⟩
   ·exact bad (ut (.inr (.inr (by grind)))) _ (a.new f)
   ·rw[bq (by omega) (by omega)];refine⟨j.reads.length-(i+1),by omega,i+1,_,rfl,by omega,rfl,(q.new g).new f,λk Z=>?_⟩
    grind[Nat.lt_succ_iff_lt_or_eq,mX]
  ·have ae:qK j.reads i=true:=by grind[qK]
   refine aE (xb bz j.reads[i].Head) ?_;rintro v aB ⟨rfl,rfl⟩;refine⟨_,rfl,ao.refl _ _,eu (λU=>?_) (λT=>cE.aT r ⟨λy c=>bJ (ai.ak c E) rfl,_,λy c=>(ai.ak c p).cell (i:=0) rfl,?_⟩)⟩
   ·grind[ut]
   refine aE (Ds (h.bT.new a) j.reads[i].bw) ?_;rintro v aI ⟨rfl,f⟩;refine⟨_,rfl,f,ek (λhw=>?_) (λhw=>?_)⟩
   ·exact bad (ut (.inr (.inr (by grind)))) _ (a.new f)
   ·rw[bq (by omega) (by omega)];refine⟨j.reads.length-(i+1),by omega,i+1,_,rfl,by omega,rfl,(q.new g).new f,λk Z=>?_⟩
    grind[Nat.lt_succ_iff_lt_or_eq,mX]
 ·rw[Zp]
  grind
theorem N_ {r:cE}{j:cJ}(h:o4 w r j):a9 124 [r.val] w λx w'=>x=.int .i64 j.valid/\ai w w':=by
 refine a' Tryz.func124 ?_;rw[Kj];rintro b1 w1 t q;obtain⟨ax,I⟩:=bo t q;have ax:aq w1 b1 r.cells 39:=ax;clear q;have hlen:=h.len;have H:=h.ej;have K:=h.a3;have E:=h.seq;have o:=h.lines;have M:=h.bT.len;obtain⟨O,k⟩:=h.view;unfold cJ.valid;refine⟨_,ax.cell (i:=0) rfl,a5 (λL=>?_) (λL=>⟨_,ax.cell (i:=0) rfl,a5 (λA=>?_) (λA=>?_)⟩)⟩
 ·grind
 ·grind
 rw[aW (by omega)];refine c1.aT r.View ⟨bJ ax rfl,?_⟩;refine aE (EG (k.new I) 5) ?_;rintro x N ⟨rfl,p⟩;have a:=ai.ak p ax;have b:=I.new p;refine⟨_,rfl,dw (λar=>?_) (λar=>?_)⟩
 ·grind
 rw[aW (by omega)];refine⟨_,a.cell (i:=2) rfl,a5 (λB=>?_) (λB=>⟨_,a.cell (i:=2) rfl,a5 (λC=>?_) (λC=>⟨_,_,_,a.cell (i:=6) rfl,a5 (λD=>?_) (λD=>⟨_,_,_,a.cell (i:=5) rfl,a5 (λg=>?_) (λg=>⟨_,_,_,a.cell (i:=5) rfl,?_⟩)⟩)⟩)⟩)⟩
 ·grind
 ·grind
 ·rw[aW (by omega)];rintro G s;have d:ai N G:=by rw[s];exact cC _
  clear s;have l:=ai.ak d a;refine⟨λy=>ai G y,ao.refl _ _,cE.aT r ⟨λy F=>bJ (ai.ak F l) rfl,_,λy F=>(ai.ak F l).cell (i:=2) rfl,?_⟩⟩;refine aE (EK G r) ?_;rintro x P ⟨rfl,c⟩;refine bX.aT ⟨r.Seq,r.de,r.dj,r.fG⟩ ⟨rfl,c,?_⟩;refine aE (wj (r:=⟨r.Seq,r.de,r.dj,r.fG⟩) (h.bT.new (b.new (d.new c))) r.et) ?_;rintro x u ⟨rfl,f⟩;have z:=b.new (d.new (c.new f));have n:=ai.ak (c.new f) l;rw[<-E,<-o];refine⟨_,rfl,c.new f,dw (λJ=>?_) (λJ=>⟨_,_,_,n.cell (i:=5) rfl,a5 (λg=>?_) (λg=>⟨_,_,_,n.cell (i:=5) rfl,?_⟩)⟩)⟩
  ·grind
  ·grind
  ·rw[aW (λe=>e.2 J),aW (by omega),o];exact F9 h n z _ λw' hw=>⟨rfl,hw⟩
 ·grind
 ·rw[aW (by omega),aW (by omega),aW (by omega)];exact F9 h a b _ λw' hw=>⟨rfl,hw⟩
end
section
def d_ (d:cW):Int:=d.words.headD 0
def sP (v:bE)(d:cW):Bool:=if d.code=0 then decide ((d.words.length:Int)=v.v.iK)else if d.code=4\/d.code=5 then decide (d.words.length=0)else false
def ks (vs:bu)(ds:cw):Bool:=decide (vs.length=ds.length) && (vs.zip ds).all λp=>sP p.1 p.2
structure J2 where
 done:cw
 ok:Bool
 a_:bn
 ask:Option bu
 dC:Bool
def batch (G:bn)(vs:bu):J2:=
 if vs.length=0 then⟨[],true,G,none,false⟩else match G with
 | []=>⟨[],false,[],some vs,false⟩
 |d::a=>if ks vs d then⟨d,true,a,none,false⟩else⟨[],false,d::a,none,true⟩
abbrev pt:bU:=244
theorem rA {d:bR}{x:cW}(h:lv M w d x):a9 196 [d.val] w λv w'=>v=.int .u64 (d_ x)/\ai w w':=by
 refine a' Tryz.func196 ?_;refine Eq.mpr (K9 d.Code d.Words d.dd d.c0 w _) ?_;rintro b1 w1 c e;obtain⟨ax,f⟩:=bo c e;have k:=h.len;refine⟨_,_,_,ax.cell rfl,dJ (λg=>?_) (λg=>⟨_,_,_,ax.cell rfl,?_⟩)⟩
 ·have:x.words=[]:=hh (by omega)
  grind[d_]
 ·cases j:x.words with
  |nil=>grind
  |cons y ys=>
   have a:=h.rd.new f;rw[j]at a;rcases a with a | ⟨b,o,he,i⟩
   ·cases a
   rw[he];refine dM (by omega) (by omega) ⟨y,?_,by grind[d_],f⟩;exact i 0 _ rfl
structure eG where
 g2:an
 fw:Nat
 gc:Nat
 aa:an
 e4:Nat
 ac:Nat
 dC:Bool
def eG.cells (T:eG):au:=[.slice T.g2 T.fw T.gc,.slice T.aa T.e4 T.ac,.bool T.dC]
structure Row where
 a:an
 c:Nat
 raw:List bR
def kO (rows:List Row):au:=rows.map λr=>.slice r.a r.raw.length r.c
def hO (A:a6)(w:aj)(a:an)(G:bn):Prop:=
 ∃ rows:List Row,rows.length=G.length/\bh w a (kO rows)/\(kO rows=[]\/gn A a)/\
  ∀ (i:Nat) (r:Row) (ds:cw),rows[i]?=some r->G[i]?=some ds->bh w r.a (fL r.raw).flatten/\((fL r.raw).flatten=[]\/gn A r.a)/\gX A w r.raw ds/\ds.length<=1024
theorem hO.nil (A:a6)(w:aj)(a:an):hO A w a []:=⟨[],rfl,.inl rfl,.inl rfl,λi r ds h=>by grind⟩
theorem hO.head {a:an}{d:cw}{G:bn}(h:hO A w a (d::G)) :
  ∃ (b o:Nat) (r:Row),a=some ⟨b,o,none⟩/\w.cell? ⟨b,o,none⟩=some (.slice r.a r.raw.length r.c)/\bh w r.a (fL r.raw).flatten/\gX A w r.raw d/\d.length<=1024/\hO A w (some ⟨b,o+1,none⟩) G:=by
 obtain⟨rows,y,k,e,g⟩:=h;cases rows with
 |nil=>grind
 |cons r rows=>
  rcases k with k | ⟨b,o,rfl,f⟩
  ·grind[kO]
  ·obtain⟨l,s,n,p⟩:=g 0 r d rfl rfl;refine⟨b,o,r,rfl,f 0 _ rfl,l,n,p,rows,by grind,?_,?_,λi q ds t x=>g (i+1) q ds (by grind) (by grind)⟩
   ·refine .inr ⟨b,o+1,rfl,λj u hu=>?_⟩;rw[Nat.add_assoc,Nat.add_comm 1 j];exact f (j+1) u (by grind[kO])
   ·rcases e with e | e
    ·grind[kO]
    ·exact .inr e
theorem Qu {v:aI}{x:bE}{d:bR}{y:cW}(ar:cQ M w v x)(h:lv A w' d y):fits v d=sP x y:=by unfold fits sP;rw[h.code,h.len,ar.eq];rfl
theorem Np {a:List aI}{vs:bu}{raw:List bR}{ds:cw}(ar:er M w a vs)(h:gX A w' raw ds):ql a raw=ks vs ds:=by
 unfold ql ks;rw[h.1,ar.1];congr 1;obtain⟨e,b⟩:=h;obtain⟨k,c⟩:=ar;induction vs generalizing raw ds a with
 |nil=>
  simp_all
 |cons v vs g=>
  cases a with
  |nil=>grind
  |cons j a=>
   cases raw with
   |nil=>cases ds with
    |nil=>simp
    |cons=>grind
   |cons r raw=>cases ds with
    |nil=>grind
    |cons d ds=>simp only[List.zip_cons_cons,List.all_cons];rw[Qu (c 0 j v rfl rfl) (b 0 r d rfl rfl),g (by simpa using e) (λi v x ar f=>b (i+1) v x (by grind) (by grind)) (by grind) λi v x ar f=>c (i+1) v x (by grind) (by grind)]
theorem wk {vs:bu}{ds:cw}(h:ks vs ds=true):vs.length=ds.length:=by
 grind[ks]
theorem ri {G:bn}{vs:bu}:(batch G vs).done.length<=vs.length:=by
 unfold batch;split
 ·simp
 ·cases G with
  |nil=>simp
  |cons d G=>
   simp only;split
   ·rename_i h;rw[wk h];grind
   ·simp
theorem Fi {w0:aj}{tb:Nat}{T:eG}{G:bn}(L:ai w0 u)(ad:w0.heap.size<=tb)(q:aq u tb T.cells pt)(K:hO A w0 T.g2 G)(y:T.fw=G.length)(w:T.fw<=T.gc)
  {e:List aI} {vs:bu} {aa:an} {ac:Nat} (Y:bh u aa (dQ e).flatten) (D:er M u e vs) (ab:vs.length<=1000000) :
  a9 116 [ptr tb,.slice aa e.length ac] u λv bF=>∃ (f:eG) (dB:an) (dc:Nat) (raw:List bR),v=.tuple #[.slice dB raw.length dc,.bool (batch G vs).ok]/\aq bF tb f.cells pt/\ao (λk=>k=tb) u bF/\
   bh w0 dB (fL raw).flatten/\gX A w0 raw (batch G vs).done/\hO A w0 f.g2 (batch G vs).a_/\f.fw=(batch G vs).a_.length/\f.fw<=f.gc/\f.dC=(T.dC || (batch G vs).dC)/\
   (match (batch G vs).ask with | none=>f.aa=T.aa/\f.e4=T.e4/\f.ac=T.ac | some _=>f.aa=aa/\f.e4=vs.length/\f.ac=ac):=by
 refine a' Tryz.func116 ?_;rw[ptr,ZY];rw[D.1];have n:gX A w0 [] []:=⟨rfl,λi v x ar=>by grind⟩;unfold batch;refine dJ (λR=>?_) (λR=>⟨_,_,_,q.cell rfl,dJ (λP=>?_) (λP=>?_)⟩)
 ·have p:vs.length=0:=by omega
  rw[bm p];exact⟨T,none,0,[],rfl,q,ao.refl _ _,.inl rfl,n,K,y,w,by simp,rfl,rfl,rfl⟩
 ·have p:¬ vs.length=0:=by omega
  have U:G=[]:=hh (by omega);subst U;rw[aW p];refine⟨⟨_,q.cell rfl⟩,q.frozen,?_⟩;rintro bp rfl;exact⟨{T with aa:=aa,e4:=vs.length,ac:=ac},none,0,[],rfl,q.setCell _,eY _ _ _ _,.inl rfl,n,hO.nil _ _ _,y,w,by simp,rfl,rfl,rfl⟩
 ·have p:¬ vs.length=0:=by omega
  rw[aW p];cases G with
  |nil=>grind
  |cons d H=>
   simp only;obtain⟨b,o,r,I,V,F,t,W,N⟩:=K.head;have X:b≠tb:=by
    have P:b<w0.heap.size:=by
     have:=V;unfold World.cell? at this
     grind
    omega
   have l:∀ z,ai w0 z->z.cell? ⟨b,o,none⟩=some (.slice r.a r.raw.length r.c):=by
    intro z ax;have S:bh w0 (some ⟨b,o,none⟩) [.slice r.a r.raw.length r.c]:=.inr ⟨b,o,rfl,λj u hu=>by
     grind⟩
    exact(S.new ax).cell (j:=0) rfl
   refine⟨_,_,_,q.cell rfl,?_⟩;rw[I];refine dM (by omega) (by omega) ?_;refine⟨_,_,_,l u L,?_⟩;have E:ql e r.raw=ks vs d:=Np D t;have Z:=t.1;have hlen:e.length=vs.length:=D.1;rw[<-hlen];refine aE (Tj Y (F.new L) (by omega) (by omega)) ?_;rintro v b3 ⟨rfl,B⟩;rw[E];refine⟨_,rfl,eu (λJ=>?_) (λJ=>?_)⟩
   ·have s:=ai.ak B q;rw[J];refine⟨⟨_,s.cell rfl⟩,s.frozen,?_⟩;rintro bz rfl;exact⟨{T with dC:=true},none,0,[],rfl,s.setCell _,(ao.b7 B).trans (eY _ _ _ _) (λ_ _ h=>h),.inl rfl,n,K,y,w,by simp,rfl,rfl,rfl⟩
   ·rw[J];rintro bz O;have C:ai u bz:=by rw[O];exact B.drew
    have g:=ai.ak C q;refine⟨λz=>ai bz z,ao.refl _ _,_,_,_,λz ax=>(ai.ak ax g).cell rfl,?_⟩;rw[I];refine dM (by omega) (by omega) ?_;refine⟨_,_,_,λz ax=>l z ((L.new C).new ax),_,_,_,λz ax=>(ai.ak ax g).cell rfl,?_⟩;rw[I];refine⟨by omega,by omega,by omega,by omega,by omega,⟨_,g.cell rfl⟩,g.frozen,?_⟩;rintro ae rfl;have Q:T.fw=H.length+1:=by grind
    refine⟨{T with g2:=if(T.gc:Int)=1 then some ⟨b,o,none⟩else(some ⟨b,o,none⟩:an).map (·.add (Int.toNat 1*1)),fw:=Int.toNat T.fw-Int.toNat 1,gc:=Int.toNat T.gc-Int.toNat 1},r.a,r.c,r.raw,rfl,g.setCell _,(ao.b7 C).trans (eY _ _ _ _) (λ_ _ h=>h),F,t,?_,?_,?_,by simp,rfl,rfl,rfl⟩
    ·show hO A w0 (if(T.gc:Int)=1 then _ else _) H;split
     ·have:H=[]:=hh (by omega)
      grind[hO.nil]
     ·exact N
    ·grind
    grind
abbrev gy:bU:=125
theorem Qv {a:an}{xs:au}(i:aZ u cK 9 a n cap xs){v:aI}(h:n<=1000000000)
  (p:∀ b ap e g,b=u.heap.size->aZ g cK 9 ap (n+1) e (xs++v.cells)->ao (aP a) u g->(∀ k,aP ap k->aP a k\/u.heap.size<=k)->K b ap (n+1) e g) :
  ∀ b1 j,b1=u.heap.size->j=u.alloc (.cells v.cells.toArray cK)->∃ (ap:an) (d c:Nat),∃ g,(Builtin.append_ #[gy,gy] gy #[(.slice a n cap),(.slice (some ⟨b1,0,none⟩) 1 1)]).run prog j=.ok (.slice ap d c) g/\K b1 ap d c g:=by
 obtain⟨inf,o,ax,f,l⟩:=ft (T:=cK) (z:=.agg #[.int .i64 0,.int .i64 0,.int .i64 0,.int .i64 0,.int .u64 0,.int .u64 0,.slice none 0 0,.int .u64 0,.int .i64 0]) (n:=9) (m:=88) (by kernel_rfl);rw[<-f]at i;refine oN Tryz.underlying125 o ax (by rw[f];rfl) (by omega) i (by rw[f];rfl) (aI.single v) h (by omega) ?_
 grind
theorem Dt {G:bn}{vs ws:bu}(h:(batch G vs).ask=some ws):ws=vs:=by
 unfold batch at h
 grind
theorem EL {G:bn}{vs:bu}(h:(batch G vs).ok=true):(batch G vs).ask=none/\(batch G vs).dC=false:=by
 unfold batch at h ⊢
 grind
theorem F_ (w:aj)(g2:an)(c gc:Nat):a9 115 [.slice g2 c gc] w λv w'=>∃ tb,v=ptr tb/\w.heap.size<=tb/\aq w' tb (eG.cells ⟨g2,c,gc,none,0,0,false⟩) pt/\ai w w':=by refine a' Tryz.func115 ?_;rw[Lv];rintro b1 w1 a b;obtain⟨ax,d⟩:=bo a b;exact⟨b1,rfl,by omega,ax,d⟩
end
section
open IntKind
variable (w:aj)(R:bg){s t:an}{a b c d:Nat}{i k:Int}{j:al}
def yH (e:an)(a b:Nat)(c:an)(d f:Nat)(g h:Int)(j:al):al:=ae j 0 3 (af e a b::ae j 3 14 (af c d f::ab g::ab h::ae j 17 21 []))
def I1 (c:an)(a b:Nat)(j:al):al:=ae j 0 3 (af c a b::ae j 3 38 [])
theorem Jf (k:bX):bc prog f210 [k.val] R w=(aR w k.cells.toArray 271 λe m=>hK m (ah e 0) λr=>cx 167 #[r.val,ab 256] m λa j=>cond (a != 0) (R (a4) j) (bN j (ah e 0) λb=>bY j (ah e 1) λc d f=>aR j #[ag (u64.wrap b),ag (u64.wrap (d:Nat))] 30 λl n=>bY n (ah e 1) λg h i=>cj prog (cN f210 [1,1,1,0,1,0,0]) (yH (bs l) 2 2 g h i (h:Nat) 0 (k.val::jp (ah e 0)::a4::a1 2 (r.val::ab a::ad ((a:Int) != 0)::jp (ah e 0)::ab b::ag (u64.wrap b)::jp (ah e 1)::af c d f::cd d::ag (u64.wrap (d:Nat))::af (bs l) 2 2::jp (ah e 1)::a1 21 []))) (aL 0 (aS f210 [1,1,1,1] R)) n)):=by kernel_rfl
theorem Y5 (u:al->aK):W prog (sb f210 [1,1,1,0,1,0,0]) (yH s a b t c d i k j) (aM u (aL 0 (aS f210 [1,1,1,1] R))) w=(cond (k<i) (bk t c k 9 λx=>hJ w x λr=>aR w #[ab 0,ag 0,ag 0,ag 0,ag 0,ag 0,ag 0,ag 0,ag 0] 73 λf B=>a8 B (ah f 0) 0 r.cells λq=>bN q (ah f 0) λe=>dp q (ah f 1) λh=>aR q #[ag (u64.wrap e),ag h] 30 λv A=>da 94 (af s a b) (af (bs v) 2 2) A λg l m y=>da 94 (af g l m) (af (some (ah f 2)) 7 7) y λn o p z=>u (yH n o p t c d i (i64.wrap (k+1)) (ae j 0 4 (jp (ah f 0)::ae j 5 12 (ad (k<i)::jp x::r.val::af s a b::jp (ah f 0)::ab e::ag (u64.wrap e)::jp (ah f 1)::ag h::af (bs v) 2 2::af g l m::af g l m::jp (ah f 2)::af (some (ah f 2)) 7 7::af n o p::ab (i64.wrap (k+1))::ae j 33 5 [])))) z) (W prog (sb f210 [1,1,1,1]) (I1 s a b (ae j 0 17 (af t c d::ab i::ab k::ad (k<i)::ae j 18 20 []))) (bV f210 R) w)):=by kernel_rfl
theorem Zv:W prog (sb f210 [1,1,1,1]) (I1 s a b j) (bV f210 R) w=(iJ 239 #[af s a b] w λc h=>aR h #[ag c] 30 λe k=>da 94 (af s a b) (af (bs e) 1 1) k λi d f g=>R (af i d f) g):=by kernel_rfl
theorem JZ (e:aD):bc prog f211 [e.val,ab i] R w=(aR w e.cells.toArray 73 λg d=>dp d (ah g 1) λa=>g6 240 #[ag a,ab i] d λb c f=>R (.tuple #[ag b,ab c]) f):=by kernel_rfl
theorem JM (i:aD):bc prog f244 [i.val] R w=(aR w i.cells.toArray 73 λe g=>dp g (ah e 1) λa=>g6 206 #[ag a] g λb c h=>cond (c != 0) (R (.tuple #[a4,ab c]) h) (aR h #[ag b] 30 λk l=>da 94 (af (bs k) 1 1) (af (some (ah e 2)) 7 7) l λm d f j=>R (.tuple #[af m d f,ab 0]) j)):=by kernel_rfl
end
section
open IntKind
variable (w:aj)(R:bg){a b c d:Nat}{s t:an}{i k:Int}{A B:aw}{j:al}
theorem WU (g:aU)(h:aI):bc prog f212 [bb a,g.val,h.val] R w=(aR w g.cells.toArray 116 λl p=>aR p h.cells.toArray 158 λk q=>aR q #[ab 0,ab 0,ab 0,ab 0,ag 0,ag 0,a4,ag 0,ab 0] 158 λi n=>ck n λj f=>B0 f (ah a 3) λd=>hf f (ah l 0) λr=>Il f (ah k 0) λo=>eH 241 #[d.val,r.val,ad true,o.val] j λb m=>a8 m (ah i 0) 0 b.cells λe=>lZ e (ah i 0) λc=>e=e/\R c.val e):=by kernel_rfl
theorem Yp:bc prog f213 [bb a,af s b c,ab i] R w=(aR w #[ab 0,ab 0] 171 λj u=>mL u (ah a 7) λt=>h4 116 #[.pointer t,af s b c] u λn d f g r=>cond (!g) (a8 r (ah j 0) 0 [ab 0,ab 0] λp=>dW p (ah j 0) λe=>p=p/\R (.tuple #[a4,e.val,ad false]) p) (cx 242 #[af n d f] r λh q=>cond (h != 0) (a8 q (ah j 0) 0 [ab h,ab i] λo=>dW o (ah j 0) λk=>o=o/\R (.tuple #[a4,k.val,ad false]) o) (a8 q (ah j 0) 0 [ab 0,ab 0] λm=>dW m (ah j 0) λl=>m=m/\R (.tuple #[af n d f,l.val,ad true]) m))):=by kernel_rfl
def xK (e i:aw)(k:an)(a b:Nat)(c:an)(d f:Nat)(g h:Int)(j:al):al:=.pointer (some e)::ae j 0 2 (.pointer (some i)::ae j 2 1 (af k a b::ae j 3 8 (af c d f::ab g::ab h::ae j 11 21 [])))
def Hw (c:an)(a b:Nat)(j:al):al:=ae j 0 5 (af c a b::ae j 5 32 [])
theorem X2 (e:aU):bc prog f217 [bb a,e.val] R w=(aR w e.cells.toArray 116 λg f=>bY f (ah a 6) λd b c=>cj prog (cN f217 [1,1,0,1,0,0]) (xK (ah a 0) (ah g 0) none 0 0 d b c (b:Nat) 0 (e.val::undef::a4::a1 4 (jp (ah a 0)::jp (ah a 0)::jp (ah a 0)::jp (ah a 6)::a1 21 []))) (aL 0 (aS f217 [1,1,1] R)) f):=by kernel_rfl
theorem Uk (x:al->aK):W prog (sb f217 [1,1,0,1,0,0]) (xK A B s a b t c d i k j) (aM x (aL 0 (aS f217 [1,1,1] R))) w=(cond (k<i) (bk t c k 9 λH=>hJ w H λr=>aR w #[ab 0,ag 0,ag 0,ag 0,ag 0,ag 0,ag 0,ag 0,ag 0] 73 λu L=>a8 L (ah u 0) 0 r.cells λE=>hJ E (ah u 0) λC=>rf 244 #[C.val] E λf g l m K=>ck K λI h=>hf h B λF=>cA h (ah u 0) λn=>cx 108 #[ab n] I λo G=>h G/\eH 212 #[.pointer (some A),F.val,.agg #[ab 2,ab 0,ab o,ab 0,ag 0,ag 0,af f g l,ag 0,ab 0]] G λe z=>h z/\aR z e.cells.toArray 158 λy D=>h D/\da 125 (af s a b) (af (bs y) 1 1) D λv p q bf=>h bf/\x (xK A B v p q t c d i (i64.wrap (k+1)) (ae j 0 4 (jp (ah u 0)::af f g l::ab m::ae j 7 4 [ad (k<i),jp H,r.val,.tuple #[af f g l,ab m],C.val,.tuple #[af f g l,ab m],af f g l,ab m,af s a b,jp A,F.val,jp (ah u 0),ab n,ab o,af f g l,.agg #[ab 2,ab 0,ab o,ab 0,ag 0,ag 0,af f g l,ag 0,ab 0],e.val,af (bs y) 1 1,af v p q,ab (i64.wrap (k+1)),aB j 31]))) bf) (W prog (sb f217 [1,1,1]) (Hw s a b (jp A::aB j 0::aB j 1::jp B::ae j 2 9 (af t c d::ab i::ab k::ad (k<i)::ae j 12 20 []))) (bV f217 R) w)):=by kernel_rfl
theorem U_:W prog (sb f217 [1,1,1]) (Hw s a b j) (bV f217 R) w=(R (af s a b) w):=by kernel_rfl
theorem X3 (o:aU):bc prog f218 [bb a,o.val] R w=(aR w o.cells.toArray 116 λx B=>aR B #[ab 0,ab 0,ab 0,ab 0,ag 0,ag 0,a4,ag 0,ab 0] 158 λm z=>ck z λu j=>hf j (ah x 0) λr=>cA j (ah a 0) λe=>cA j (ah a 1) λb=>(cx 225 #[ab e] u λc p=>j p/\aR p #[ag (u64.wrap b)] 30 λA t=>j t/\eH 212 #[bb a,r.val,.agg #[ab 2,ab 0,ab c,ab 0,ag 0,ag 0,af (bs A) 1 1,ag 0,ab 0]] t λf q=>j q/\a8 q (ah m 0) 0 f.cells λn=>lZ n (ah m 0) λg=>n=n/\R g.val n)/\aR u #[ag (u64.wrap b)] 30 λy v=>j v/\cx 225 #[ab e] v λd s=>j s/\eH 212 #[bb a,r.val,.agg #[ab 2,ab 0,ab d,ab 0,ag 0,ag 0,af (bs y) 1 1,ag 0,ab 0]] s λi h=>j h/\a8 h (ah m 0) 0 i.cells λk=>lZ k (ah m 0) λl=>k=k/\R l.val k):=by kernel_rfl
def xY (e i:aw)(k:an)(a b:Nat)(c:an)(d f:Nat)(g h:Int)(j:al):al:=.pointer (some e)::ae j 0 2 (.pointer (some i)::ae j 2 1 (af k a b::ae j 3 7 (af c d f::ab g::ab h::ae j 10 12 [])))
def HB (c:an)(a b:Nat)(j:al):al:=ae j 0 5 (af c a b::ae j 5 22 [])
theorem YO (e:aI):bc prog f237 [bb a,e.val] R w=(aR w e.cells.toArray 158 λg f=>bY f (ah a 4) λd b c=>cj prog (cN f237 [1,1,0,1,0,0]) (xY (ah a 0) (ah g 0) none 0 0 d b c (b:Nat) 0 (e.val::undef::a4::a1 2 (jp (ah a 0)::jp (ah a 0)::jp (ah a 0)::jp (ah a 3)::jp (ah a 4)::a1 12 []))) (aL 0 (aS f237 [1,1,1] R)) f):=by kernel_rfl
theorem UO (n:al->aK):W prog (sb f237 [1,1,0,1,0,0]) (xY A B s a b t c d i k j) (aM n (aL 0 (aS f237 [1,1,1] R))) w=(cond (k<i) (bk t c k 3 λq=>iq w q λr=>aR w #[ab 0,ab 0,ad false] 116 λg z=>a8 z (ah g 0) 0 r.cells λm=>iq m (ah g 0) λu=>lZ m B λo=>eH 212 #[.pointer (some A),u.val,o.val] m λl y=>aR y l.cells.toArray 158 λp v=>da 125 (af s a b) (af (bs p) 1 1) v λf e h x=>n (xY A B f e h t c d i (i64.wrap (k+1)) (ae j 0 4 (jp (ah g 0)::ae j 5 5 [ad (k<i),jp q,r.val,af s a b,jp A,u.val,o.val,l.val,af (bs p) 1 1,af f e h,ab (i64.wrap (k+1)),aB j 21]))) x) (W prog (sb f237 [1,1,1]) (HB s a b (jp A::aB j 0::aB j 1::jp B::ae j 2 8 (af t c d::ab i::ab k::ad (k<i)::ae j 11 11 []))) (bV f237 R) w)):=by kernel_rfl
theorem qr:W prog (sb f237 [1,1,1]) (HB s a b j) (bV f237 R) w=(R (af s a b) w):=by kernel_rfl
end
end Go.Proofs.YtmkljjbioomepaaGreat
