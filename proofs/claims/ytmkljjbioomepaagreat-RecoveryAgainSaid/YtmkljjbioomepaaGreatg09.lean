import Derived.Test.YtmkljjbioomepaaGreatg08
import Derived.Test.YtmkljjbioomepaaGreatg03
import Derived.Test.YtmkljjbioomepaaGreatProg
import Derived.Test.YtmkljjbioomepaaGreatg02
set_option linter.all false
set_option maxHeartbeats 4000000
set_option maxRecDepth 100000
namespace Go.Proofs.YtmkljjbioomepaaGreat
open Go.Proofs.Tryz Go.bJ
variable {a:ak}{b x:Int}{c cD i n:Nat}{l:a7}{u w:an}
section
def pa (p a v:Int):Int:=p*4503599627370496+a*1099511627776+v
theorem P8 {p a v:Int}(e:0<=p/\p<4096)(d:0<=a/\a<4096)(al:0<=v/\v<1099511627776):jV .u64 (jV .u64 (iQ .u64 p 52) (iQ .u64 a 40)) v=pa p a v:=by
 obtain⟨p,rfl⟩:=oN e.1;obtain⟨a,rfl⟩:=oN d.1;obtain⟨v,rfl⟩:=oN al.1;have b:iQ .u64 (p:Int) 52=((p*2 ^ 52:Nat):Int):=by
  show IntKind.u64.wrap ((p:Int)*2 ^ 52)=_
  grind[ly]
 have c:iQ .u64 (a:Int) 40=((a*2 ^ 40:Nat):Int):=by
  show IntKind.u64.wrap ((a:Int)*2 ^ 40)=_
  grind[ly]
 rw[b,c,uB _ _ (by omega) (by omega),xb _ _ 52 (by omega),show p*2 ^ 52+a*2 ^ 40=(p*2 ^ 12+a)*2 ^ 40 by omega,uB _ _ (by omega) (by omega),xb _ _ 40 (by omega)]
 grind[pa]
theorem tW (w:an)(x a b:Int):a5 141 [.int .i64 x,.int .i64 a,.int .i64 b] w λv w'=>v=.bool (decide (a<=x/\x<=b))/\w'=w:=by
 refine ba Tryz.func141 ?_
 grind[IZ]
theorem zH (w:an)(x a b:Int):a5 143 [.int .u64 x,.int .u64 a,.int .u64 b] w λv w'=>v=.bool (decide (a<=x/\x<=b))/\w'=w:=by
 refine ba Tryz.func143 ?_
 grind[XV]
theorem ML (w:an)(x:Int):a5 158 [.int .i64 x] w λv w'=>v=.bool (decide (0<=x/\x<=5))/\w'=w:=by
 refine ba Tryz.func158 ?_;rw[Jz];refine aB (tW _ _ _ _) ?_
 grind
theorem RD (w:an):a5 103 [.int .i64 0,.bool true] w λv w'=>v=.tuple #[.int .u64 1,.int .i64 0]/\w'=w:=by refine ba Tryz.func103 ?_;rw[AC];refine aB (tW _ _ _ _) ?_;rintro v w1 ⟨rfl,rfl⟩;exact⟨_,rfl,rfl,rfl⟩
theorem NP (w:an):a5 107 [.int .u64 1,.int .i64 0] w λv w'=>v=.tuple #[.int .u64 256,.int .i64 0]/\w'=w:=by refine ba Tryz.func107 ?_;rw[KG];refine aB (zH _ _ _ _) ?_;rintro v w1 ⟨rfl,rfl⟩;refine⟨_,rfl,dG rfl ?_⟩;refine aB (tW _ _ _ _) ?_;rintro v w1 ⟨rfl,rfl⟩;refine⟨_,rfl,dG rfl ⟨?_,rfl⟩⟩;rfl
def xM (p a v:Int):Int:=if p<4096/\a<4096/\v<1099511627776 then pa p a v else 0
theorem Ln (w:an){p a v:Int}(f:0<=p)(d:0<=a)(al:0<=v):a5 104 [.int .u64 p,.int .u64 a,.int .u64 v] w λr w'=>∃ e,r=.tuple #[.int .u64 (xM p a v),.int .i64 e]/\w'=w:=by
 refine ba Tryz.func104 ?_;rw[Y6];unfold xM;refine bb (λh=>⟨2,?_,rfl⟩) (λh=>bb (λb=>⟨2,?_,rfl⟩) (λb=>bb (λc=>⟨2,?_,rfl⟩) (λc=>⟨0,?_,rfl⟩)))
 ·grind
 ·grind
 ·grind
 ·rw[bh (by omega),P8 (by omega) (by omega) (by omega)]
theorem zl (w:an)(a b:Int):a5 142 [.int .i64 a,.int .i64 b] w λv w'=>∃ cD k,v=.func (.func 187) #[] #[ptr cD,ptr k]/\av w' cD [.int .i64 b] m4/\av w' k [.int .i64 a] m4/\ai w w':=by refine ba Tryz.func142 ?_;rw[Zk];rintro b1 w1 d g l n e h;obtain⟨i,f⟩:=bo d g;obtain⟨j,c⟩:=bo e h;exact⟨l,b1,rfl,j,ai.aj c i,f.new c⟩
def nV (a b i:Int):Int:=if i<0\/b<=i then -1 else a*8+i
theorem y9 (w:an){c:Nat}{a:Int}(d:av w cD [.int .i64 b] m4)(e:av w c [.int .i64 a] m4)(g:0<=a/\a<=100000)(j:b<=100000)(i:Int):a5 187 [.int .i64 i,ptr cD,ptr c] w λv w'=>v=.int .i64 (nV a b i)/\w'=w:=by refine ba Tryz.func187 ?_;rw[ptr,ptr,YR];unfold nV;refine bb (λh=>⟨by grind,rfl⟩) (λh=>⟨b,d.cell rfl,bb (λf=>⟨by grind,rfl⟩) (λf=>⟨a,e.cell rfl,?_,rfl⟩)⟩);rw[aQ (by omega),bI (x:=a*8) (by omega) (by omega),bI (x:=a*8+i) (by omega) (by omega)]
attribute [local irreducible] iV jK mQ
theorem zm:iV prog 187=true:=by kernel_rfl
theorem LF (w:an)(i:Int):a5 105 [.int .i64 i] w λv w'=>v=.int .i64 (nV 1 16 i)/\ai w w':=by
 refine ba Tryz.func105 ?_;rw[Yu];refine aB (zl _ _ _) ?_;rintro v w1 ⟨cD,d,rfl,a,b,f⟩;have c:=zm;refine⟨_,rfl,?_⟩;have e:(#[]++#[.int .i64 i]++#[ptr cD,ptr d]:ep)=#[.int .i64 i,ptr cD,ptr d]:=by simp
 refine rZ c e ?_;refine aB (y9 w1 a b (by omega) (by omega) i) ?_
 grind
theorem RE (w:an)(i:Int):a5 106 [.int .i64 i] w λv w'=>v=.int .i64 (nV 3 6 i)/\ai w w':=by
 refine ba Tryz.func106 ?_;rw[JL];refine aB (zl _ _ _) ?_;rintro v w1 ⟨cD,d,rfl,a,b,f⟩;have c:=zm;refine⟨_,rfl,?_⟩;have e:(#[]++#[.int .i64 i]++#[ptr cD,ptr d]:ep)=#[.int .i64 i,ptr cD,ptr d]:=by simp
 refine rZ c e ?_;refine aB (y9 w1 a b (by omega) (by omega) i) ?_
 grind
theorem qV (w:an){i:Int}(a:96<=i)(b:i<256):a5 108 [.int .i64 i] w λv w'=>v=.int .i64 (i*8)/\w'=w:=by
 refine ba Tryz.func108 ?_;rw[KH];refine bb (λh=>by omega) (λh=>bb (λh=>by omega) (λh=>⟨?_,rfl⟩))
 rw[bI (by omega) (by omega)]
theorem P9 (w:an){i:Int}(a:1<=i)(b:i<=256):a5 102 [.int .i64 i] w λv w'=>v=.int .i64 (i*8)/\w'=w:=by
 refine ba Tryz.func102 ?_;rw[Kq];refine bb (λh=>by omega) (λh=>bb (λh=>by omega) (λh=>⟨?_,rfl⟩))
 rw[bI (by omega) (by omega)]
def uQ:Nat->Int->Int->Int
 | 0,_,s=>s
 |n+1,i,s=>uQ n (i+1) (jV .u64 s (iQ .u64 7 (7*i)))
def oh (n:Nat):Int:=uQ n 0 549755813888
theorem Mv (w:an)(b:1<=n)(c:n<=5):a5 100 [.int .i64 n] w λv w'=>v=.tuple #[.int .u64 (oh n),.int .i64 0]/\w'=w:=by
 refine ba Tryz.func100 ?_;rw[Xz];refine bb (λh=>by omega) (λh=>bb (λh=>by omega) (λh=>?_))
 refine cZ mix (λm env u=>∃ (i:Nat) (s:Int) (aC:ax),m=n-i/\i<=n/\env=yd s n i aC/\u=w/\uQ (n-i) i s=oh n) n ⟨0,_,_,rfl,by omega,rfl,rfl,rfl⟩ ?_;rintro m env u ⟨i,s,aC,rfl,d,rfl,rfl,al⟩;rw[U9];refine bb (λa=>?_) (λa=>?_)
 ·rw[bI (by omega) (by omega),ly (by omega) (by omega),bI (by omega) (by omega)];refine⟨by omega,n-(i+1),by omega,i+1,_,_,rfl,by omega,rfl,rfl,?_⟩;rw[show n-i=n-(i+1)+1 by omega,uQ]at al;exact al
 ·rw[VQ];have:i=n:=by omega
  subst this;rw[uj,uQ]at al
  grind
theorem G9 (a:n<=5):0<=oh n/\oh n<1099511627776:=by rcases n with _ | _ | _ | _ | _ | _ | n;all_goals first | decide | omega
end
section
theorem B2 (h:bl u a (is l))(j:l[i]?=some x){z:Int}(aq:z=i)(g:n=l.length){K:aU->Prop}
  (e:∀ b o,(∀ y,ai u y->y.cell? ⟨b,o,none⟩=some (.int .i64 x))->K ⟨b,o,none⟩):bx a n z 1 K:=by
 subst aq g;have f:=cS j;have c:(is l)[i]?=some (.int .i64 x):=by grind[is]
 rcases h with he | ⟨b,o,rfl,d⟩
 ·grind
 ·refine dW (by omega) (by omega) ?_;have:=e b (o+i) λy k=>(bl.new k (.inr ⟨b,o,rfl,d⟩)).cell c
  grind
def jf (line lines:Int):Bool:=decide (98<=lines/\lines<=256/\96<=line/\line<lines)
theorem OH (w:an)(line lines:Int):a5 169 [.int .i64 line,.int .i64 lines] w λv w'=>v=.bool (jf line lines)/\w'=w:=by
 refine ba Tryz.func169 ?_;rw[Zm];have a:a5 207 [.int .i64 lines] w λv w'=>v=.bool (decide (98<=lines/\lines<=256))/\w'=w:=by
  refine ba Tryz.func207 ?_
  grind[Y8]
 refine aB a ?_
 grind[jf]
theorem P_ {cap:Nat}{L:a7}(h:aX u 3 1 a n cap (is L))(j:n<=1000000){K:Nat->ak->Nat->Nat->aJ}
  (p:∀ b ap e f,b=u.heap.size->aX f 3 1 ap (n+1) e (is (L++[x]))->ao (aP a) u f->(∀ k,aP ap k->aP a k\/u.heap.size<=k)->K b ap (n+1) e f) :
  ∀ b1 i,b1=u.heap.size->i=u.alloc (.cells #[.int .i64 x] 3)->∃ (ap:ak) (d c:Nat),∃ f,(Builtin.append_ #[22,22] 22 #[(.slice a n cap),(.slice (some ⟨b1,0,none⟩) 1 1)]).run prog i=.ok (.slice ap d c) f/\K b1 ap d c f:=by
 obtain⟨inf,o,aq,g,l⟩:=fV (T:=3) (z:=.int .i64 0) (n:=1) (m:=8) (by kernel_rfl);rw[<-g]at h;refine pv (vs:=[.int .i64 x]) Tryz.underlying22 o aq (by rw[g];rfl) (by omega) h (by grind) (by intro v al;simp at al;subst al;rfl) (by omega) (by omega) ?_
 grind[is]
def hS (l:List Bool):ax:=l.map .bool
end
section
open IntKind
variable (w:an)(R:cM){A:aU}{s:ak}{a b:Nat}{i k l:Int}{j:ar}{X:bf}
def tl (s1:aU)(a:ak)(b c:Nat)(d f:Int)(j:ar):ar:=ag j 0 1 (.pointer (some s1)::ag j 1 46 (ad a b c::ab d::ab f::ag j 47 45 []))
def Jd (a:aU)(j:ar):ar:=ag j 0 1 (.pointer (some a)::ag j 1 94 [])
def vC (s1:aU)(a:ak)(b c:Nat)(d f:Int)(j:ar):ar:=ag j 0 1 (.pointer (some s1)::ag j 1 60 (ad a b c::ab d::ab f::ag j 61 31 []))
def Je  (j:ar):ar:=ag j 0 96 []
theorem Kt (C:dj):bd prog f124 [C.val] R w=(aR w C.cells.toArray 39 λe A=>b0 A (af e 0) λa=>cond (a<0) (R (ab 1) A) (b0 A (af e 0) λb=>cond (b>=6) (R (ab 1) A) (mD A (af e 3) λD=>cG 166 #[D.val,ab 5] A λc j=>cond (c != 0) (R (ab c) j) (b0 j (af e 2) λd=>cond (d<98) (R (ab 18) j) (b0 j (af e 2) λf=>cond (f>256) (R (ab 18) j) (b_ j (af e 6) λg h i=>cond ((h:Int)>0) (cF j λH B=>vU B (af e 0) λr=>cY B (af e 2) λk=>I5 168 #[r.val] H λE F=>B F/\cG 167 #[E.val,ab k] F λl u=>B u/\cond (l != 0) (R (ab l) u) (b_ u (af e 5) λm n o=>cond ((n:Int)>24) (R (ab 18) u) (b_ u (af e 5) λp q s=>cz prog (cU f124 [1,1,1,1,1,1,0,1,0,0]) (tl (af e 0) p q s (q:Nat) 0 (C.val::ab 0::ab c::ab l::bm 4 (jp (af e 0)::ab a::ae (a<0)::ae false::jp (af e 0)::ab b::ae (b>=6)::ae (b>=6)::jp (af e 3)::D.val::ab c::ab c::ae ((c:Int) != 0)::undef::jp (af e 2)::ab d::ae (d<98)::ae false::jp (af e 2)::ab f::ae (f>256)::ae (f>256)::jp (af e 6)::ad g h i::dA h::ae ((h:Int)>0)::r.val::E.val::jp (af e 2)::ab k::ab l::ab l::ae ((l:Int) != 0)::undef::jp (af e 5)::ad m n o::dA n::ae ((n:Int)>24)::jp (af e 5)::bm 45 []))) (aO 0 (aT f124 [1,1,1,1,1,1,1] R)) u))) (b_ j (af e 5) λt v x=>cond ((v:Int)>24) (R (ab 18) j) (b_ j (af e 5) λy z G=>cz prog (cU f124 [1,1,1,1,1,1,0,1,0,0]) (tl (af e 0) y z G (z:Nat) 0 (C.val::ab 0::ab c::bm 5 (jp (af e 0)::ab a::ae (a<0)::ae false::jp (af e 0)::ab b::ae (b>=6)::ae (b>=6)::jp (af e 3)::D.val::ab c::ab c::ae ((c:Int) != 0)::undef::jp (af e 2)::ab d::ae (d<98)::ae false::jp (af e 2)::ab f::ae (f>256)::ae (f>256)::jp (af e 6)::ad g h i::dA h::ae ((h:Int)>0)::bm 8 (jp (af e 5)::ad t v x::dA v::ae ((v:Int)>24)::jp (af e 5)::bm 45 [])))) (aO 0 (aT f124 [1,1,1,1,1,1,1] R)) j)))))))):=by kernel_rfl
theorem Xh (l:ar->aJ):W prog (sb f124 [1,1,1,1,1,1,0,1,0,0]) (tl A s a b i k j) (aZ l (aO 0 (aT f124 [1,1,1,1,1,1,1] R))) w=(cond (k<i) (bx s a k 2 λf=>BX w f λr=>aR w #[ab 0,ah 0] 274 λd n=>a8 n (af d 0) 0 r.cells λe=>b0 e (af d 0) λg=>b0 e (b5 A 2) λh=>dx 169 #[ab g,ab h] e λc m=>cond (!c) (R (ab 2) m) (l (tl A s a b i (i64.wrap (k+1)) (ag j 0 5 (jp (af d 0)::ag j 6 41 (ae (k<i)::jp f::r.val::jp (af d 0)::ab g::bM A 2::ab h::ae c::ae (!c)::ab (i64.wrap (k+1))::ag j 57 35 [])))) m)) (W prog (sb f124 [1,1,1,1,1,1,1]) (Jd A (ag j 0 47 (ad s a b::ab i::ab k::ae (k<i)::ag j 48 44 []))) (bT f124 R) w)):=by kernel_rfl
theorem Ye:W prog (sb f124 [1,1,1,1,1,1,1]) (Jd A j) (bT f124 R) w=(b_ w (b5 A 5) λb c d=>cz prog (cU f124 [1,1,1,1,1,1,1,0,1,0,0]) (vC A b c d (c:Nat) 0 (ag j 0 60 (bM A 5::ag j 64 31 []))) (aO 2 (aT f124 [1,1,1,1,1,1,1,1] R)) w):=by kernel_rfl
theorem Xi (z:ar->aJ):W prog (sb f124 [1,1,1,1,1,1,1,0,1,0,0]) (vC A s a b i k j) (aZ z (aO 2 (aT f124 [1,1,1,1,1,1,1,1] R))) w=(cond (k<i) (bx s a k 2 λy=>BX w y λr=>aR w #[ab 0,ah 0] 274 λf I=>a8 I (af f 0) 0 r.cells λa6=>cF a6 λE e=>cond (k>0) (cY e (af f 0) λg=>eD e (b5 A 5) λh c G=>bx h c (i64.wrap (k-1)) 2 λx=>cY e x λl=>cond (g<=l) (R (ab 1) E) (kn e (af f 1) λm=>dx 170 #[ah m] E λn C=>e C/\cond (!n) (R (ab 1) C) (vU e A λH=>cY e (af f 0) λo=>dx 171 #[H.val,ab o] C λp D=>e D/\cond p (R (ab 1) D) (z (vC A s a b i (i64.wrap (k+1)) (ag j 0 6 (ab k::jp (af f 0)::ag j 8 53 [ae (k<i),ab k,jp y,r.val,ab k,ae (k>0),ae true,jp (af f 0),ab g,bM A 5,ad h c G,ab k,ab (i64.wrap (k-1)),jp x,jp x,ab l,ae (g<=l),ae (g<=l),ae false,jp (af f 1),ah m,ae n,ae (!n),ae (!n),ae false,H.val,jp (af f 0),ab o,ae p,ae p,ab (i64.wrap (k+1))]))) D)))) (kn e (af f 1) λq=>dx 170 #[ah q] E λd u=>e u/\cond (!d) (R (ab 1) u) (vU e A λF=>cY e (af f 0) λt=>dx 171 #[F.val,ab t] u λv B=>e B/\cond v (R (ab 1) B) (z (vC A s a b i (i64.wrap (k+1)) (ag j 0 6 (ab k::jp (af f 0)::ag j 8 53 (ae (k<i)::ab k::jp y::r.val::ab k::ae (k>0)::ae false::bm 10 [ae false,ae false,jp (af f 1),ah q,ae d,ae (!d),ae (!d),ae false,F.val,jp (af f 0),ab t,ae v,ae v,ab (i64.wrap (k+1))])))) B)))) (W prog (sb f124 [1,1,1,1,1,1,1,1]) (Je  (aH j 0::jp A::ag j 1 60 (ad s a b::ab i::ab k::ae (k<i)::ag j 62 30 []))) (bT f124 R) w)):=by kernel_rfl
theorem Yf:W prog (sb f124 [1,1,1,1,1,1,1,1]) (Je  j) (bT f124 R) w=(R (ab 0) w):=by kernel_rfl
def rA (s2:aU)(a:ak)(b c:Nat)(d f:Int)(j:ar):ar:=ag j 0 2 (.pointer (some s2)::ag j 2 39 (ad a b c::ab d::ab f::ag j 41 41 []))
def Jf (a:aU)(j:ar):ar:=ag j 0 2 (.pointer (some a)::ag j 2 83 [])
def yy (a:ak)(b c:Nat)(d f:Int)(j:ar):ar:=ag j 0 65 (ad a b c::ab d::ab f::ag j 65 18 [])
def Jg  (j:ar):ar:=ag j 0 86 []
theorem Ku (u:b7):bd prog f167 [u.val,ab i] R w=(aR w u.cells.toArray 271 λj z=>aR z #[ab i] 3 λt y=>b0 y (af t 0) λx=>dx 203 #[ab x] y λa s=>cond (!a) (R (ab 18) s) (b0 s (af j 0) λb=>cond (b<1) (R (ab 1) s) (b0 s (af j 0) λc=>cond (c>=1073741824) (R (ab 1) s) (b_ s (af j 1) λd f g=>cond ((f:Int)<1) (R (ab 1) s) (b_ s (af j 1) λh e k=>cond ((e:Int)>12) (R (ab 1) s) (b_ s (af j 1) λl m n=>dx 204 #[ad l m n,.func (.func 205) #[] #[a' t]] s λo v=>cond o (R (ab 2) v) (b_ v (af j 1) λp q r=>cz prog (cU f167 [1,1,0,1,0,0]) (rA (af j 0) p q r (q:Nat) 0 (u.val::ab i::jp (af t 0)::ab 0::bm 6 (ae (!a)::ab x::ae a::ae (!a)::ae ((e:Int)>12)::jp (af j 0)::ab b::ae (b<1)::ae false::jp (af j 0)::ab c::ae (c>=1073741824)::ae (c>=1073741824)::ae false::jp (af j 1)::ad d f g::dA f::ae ((f:Int)<1)::ae ((f:Int)<1)::ae false::jp (af j 1)::ad h e k::dA e::ae ((e:Int)>12)::ae ((e:Int)>12)::ae o::jp (af j 1)::ad l m n::.func (.func 205) #[] #[a' t]::ae o::jp (af j 1)::bm 41 []))) (aO 1 (aT f167 [1,1,1] R)) v))))))):=by kernel_rfl
theorem Xj (n:ar->aJ):W prog (sb f167 [1,1,0,1,0,0]) (rA A s a b i k j) (aZ n (aO 1 (aT f167 [1,1,1] R))) w=(cond (k<i) (bx s a k 9 λf=>iC w f λr=>aR w #[ab 0,ah 0,ah 0,ah 0,ah 0,ah 0,ah 0,ah 0,ah 0] 73 λd t=>a8 t (af d 0) 0 r.cells λq=>cF q λo e=>cond (k>0) (cY e (af d 0) λg=>eD e (b5 A 1) λh c p=>bx h c (i64.wrap (k-1)) 9 λm=>cY e m λl=>cond (g<=l) (R (ab 1) o) (n (rA A s a b i (i64.wrap (k+1)) (ag j 0 4 (ab k::jp (af d 0)::ag j 6 35 (ae (k<i)::ab k::jp f::r.val::ab k::ae (k>0)::ae true::jp (af d 0)::ab g::bM A 1::ad h c p::ab k::ab (i64.wrap (k-1))::jp m::jp m::ab l::ae (g<=l)::ae (g<=l)::ab (i64.wrap (k+1))::ag j 60 22 [])))) o)) (n (rA A s a b i (i64.wrap (k+1)) (ag j 0 4 (ab k::jp (af d 0)::ag j 6 35 (ae (k<i)::ab k::jp f::r.val::ab k::ae (k>0)::ae false::bm 10 (ae false::ab (i64.wrap (k+1))::ag j 60 22 []))))) o)) (W prog (sb f167 [1,1,1]) (Jf A (ag j 0 41 (ad s a b::ab i::ab k::ae (k<i)::ag j 42 40 []))) (bT f167 R) w)):=by kernel_rfl
theorem Yg:W prog (sb f167 [1,1,1]) (Jf A j) (bT f167 R) w=(b_ w (b5 A 1) λb c d=>cz prog (cU f167 [1,1,1,0,1,0,0]) (yy b c d (c:Nat) 0 (aH j 0::aH j 1::jp A::ag j 2 61 (bM A 1::ag j 67 18 []))) (aO 3 (aT f167 [1,1,1,1] R)) w):=by kernel_rfl
theorem Xk (m:ar->aJ):W prog (sb f167 [1,1,1,0,1,0,0]) (yy s a b i k j) (aZ m (aO 3 (aT f167 [1,1,1,1] R))) w=(cond (k<i) (bx s a k 9 λn=>iC w n λr=>aR w #[ab 0,ah 0,ah 0,ah 0,ah 0,ah 0,ah 0,ah 0,ah 0] 73 λd q=>a8 q (af d 0) 0 r.cells λo=>d' o (af d 1) λg=>h1 206 #[ah g] o λh c f=>cond (c != 0) (R (ab 1) f) (d' f (af d 1) λe=>dx 170 #[ah e] f λl p=>cond (!l) (R (ab 1) p) (m (yy s a b i (i64.wrap (k+1)) (ag j 0 8 (jp (af d 0)::ah h::ab c::ag j 11 54 [ae (k<i),jp n,r.val,.tuple #[ah h,ab c],jp (af d 1),ah g,.tuple #[ah h,ab c],ah h,ab c,ab c,ae ((c:Int) != 0),ae false,jp (af d 1),ah e,ae l,ae (!l),ae (!l),ab (i64.wrap (k+1))]))) p))) (W prog (sb f167 [1,1,1,1]) (Jg  (ag j 0 65 (ad s a b::ab i::ab k::ae (k<i)::ag j 66 17 []))) (bT f167 R) w)):=by kernel_rfl
theorem Yh:W prog (sb f167 [1,1,1,1]) (Jg  j) (bT f167 R) w=(R (ab 0) w):=by kernel_rfl
theorem Yi (h:dj):bd prog f168 [h.val] R w=(aR w h.cells.toArray 39 λi k=>aR k #[ab 0,a0] 271 λj g=>b0 g (af i 1) λa=>b_ g (af i 6) λb c d=>a8 g (af j 0) 0 [ab a,ad b c d] λe=>ig e (af j 0) λf=>e=e/\R f.val e):=by kernel_rfl
def yk (s1:Int)(s8:ak)(a b:Nat)(d c:Int)(j:ar):ar:=ag j 0 1 (ab s1::ag j 1 6 (ad s8 a b::ab d::ab c::ag j 7 8 []))
def ID  (j:ar):ar:=ag j 0 19 []
theorem Yj (d:dj):bd prog f171 [d.val,ab i] R w=(aR w d.cells.toArray 39 λe f=>b_ f (af e 6) λa b c=>cz prog (cU f171 [1,0,1,0,0]) (yk i a b c (b:Nat) 0 (d.val::jp (af e 0)::undef::ae false::bm 2 (jp (af e 6)::bm 8 []))) (aO 0 (aT f171 [1,1] R)) f):=by kernel_rfl
theorem Vx (f:ar->aJ):W prog (sb f171 [1,0,1,0,0]) (yk i s a b k l j) (aZ f (aO 0 (aT f171 [1,1] R))) w=(cond (l<k) (bx s a l 9 λg=>iC w g λr=>aR w #[ab 0,ah 0,ah 0,ah 0,ah 0,ah 0,ah 0,ah 0,ah 0] 73 λc h=>a8 h (af c 0) 0 r.cells λe=>b0 e (af c 0) λd=>cond (d == i) (R (ae true) e) (f (yk i s a b k (i64.wrap (l+1)) (ag j 0 5 [jp (af c 0),aH j 6,ae (l<k),jp g,r.val,jp (af c 0),ab d,ab i,ae ((d:Int) == i),ab (i64.wrap (l+1))])) e)) (W prog (sb f171 [1,1]) (ID  (aH j 0::ab i::ag j 1 6 (ad s a b::ab k::ab l::ae (l<k)::ag j 8 7 []))) (bT f171 R) w)):=by kernel_rfl
theorem Wn:W prog (sb f171 [1,1]) (ID  j) (bT f171 R) w=(R (ae false) w):=by kernel_rfl
theorem Jh:bd prog f203 [ab i] R w=(cond (i>=98) (R (ae (i<=256)) w) (R (ae false) w)):=by kernel_rfl
theorem TR:bd prog f204 [ad s a b,X] R w=(cG 235 #[ad s a b,X] w λc d=>R (ae (c>=0)) d):=by kernel_rfl
theorem Y' (e:aN):bd prog f205 [e.val,a' a] R w=(aR w e.cells.toArray 73 λf d=>b0 d (af f 0) λc=>cond (c<96) (R (ae true) d) (b0 d (af f 0) λb=>b0 d (af a 0) λx=>R (ae (b>=x)) d)):=by kernel_rfl
def xK (c:ak)(a b:Nat)(s1:bf)(d s8:Int)(j:ar):ar:=ad c a b::s1::ag j 0 5 (ab d::ab s8::ag j 5 10 [])
def HT  (j:ar):ar:=ag j 0 19 []
theorem T7:bd prog f235 [ad s a b,X] R w=(cz prog (cU f235 [1,0,1,0,0]) (xK s a b X (a:Nat) 0 (bm 2 (ab 0::undef::ad s a b::bm 10 []))) (aO 0 (aT f235 [1,1] R)) w):=by kernel_rfl
theorem TI (d:ar->aJ):W prog (sb f235 [1,0,1,0,0]) (xK s a b X i k j) (aZ d (aO 0 (aT f235 [1,1] R))) w=(cond (k<i) (bx s a k 9 λf=>iC w f λr=>jK prog X #[r.val] w λe g=>∃ c,e=.returned (ae c)/\cond c (R (ab k) g) (d (xK s a b X i (i64.wrap (k+1)) [aH j 0,aH j 1,aH j 2,ab k,aH j 4,ae (k<i),ab k,X,ad s a b,ab k,jp f,r.val,ae c,aH j 13,ab (i64.wrap (k+1))]) g)) (W prog (sb f235 [1,1]) (HT  (ad s a b::X::ag j 0 5 (ab i::ab k::ae (k<i)::ag j 6 9 []))) (bT f235 R) w)):=by kernel_rfl
theorem TK:W prog (sb f235 [1,1]) (HT  j) (bT f235 R) w=(R (ab (-1)) w):=by kernel_rfl
end
section
abbrev fr:bY:=73
def iw (l:List aN):List ax:=l.map aN.cells
def iA:aN:=⟨0,0,0,0,0,0,0,0,0⟩
def mG (h:Int):Bool:=hE .u64 h 255 == 0
def lZ (h:Int):Bool:=decide (1<=c3 .u64 h 8/\c3 .u64 h 8<=281474976710654)
def l0 (p:aN):Bool:=lZ p.Head && mG p.Head
def k1 (l:List aN)(i:Nat):Bool:=decide (i=0) || decide ((l.getD (i-1) iA).bt<(l.getD i iA).bt)
def gk (seq:Int)(W:List aN)(lines:Int):Int:=
 if¬ (98<=lines/\lines<=256)then 18 else if seq<1\/1073741824<=seq\/W.length<1\/12<W.length then 1
 else if W.all (λp=>jf p.bt lines)=false then 2 else if(List.range W.length).all (λi=>k1 W i && l0 (W.getD i iA))=false then 1 else 0
theorem Qa {h:Int}(a:cy h):0<=c3 .u64 h 8/\c3 .u64 h 8<18446744073709551615:=by
 have e:c3 .u64 h 8=h / 256:=by
  show Int.fdiv h 256=_
  grind
 have:=a.1;have:=a.2;omega
theorem xm (w:an)(h:Int):a5 170 [.int .u64 h] w λv w'=>v=.bool (mG h)/\w'=w:=by refine ba Tryz.func170 ?_;rw[Zn];exact⟨rfl,rfl⟩
theorem Fu (w:an)(h:Int):a5 236 [.int .u64 h] w λv w'=>v=.tuple #[.int .u64 (c3 .u64 h 8),.int .i64 (IntKind.i64.wrap (hE .u64 h 255))]/\w'=w:=by
 refine ba Tryz.func236 ?_
 grind[YX]
theorem G_ {a c:Int}(h:b=c):∃ x,Value.tuple #[.int .u64 a,.int .i64 b]=.tuple #[.int .u64 x,.int .i64 c]/\w=w:=⟨a,by rw[h],rfl⟩
theorem Qb (w:an)(h:Int):a5 206 [.int .u64 h] w λv w'=>∃ x,v=.tuple #[.int .u64 x,.int .i64 (if lZ h=true then 0 else 2)]/\w'=w:=by
 refine ba Tryz.func206 ?_;rw[Kj];refine aB (Fu w h) ?_;rintro v w1 ⟨rfl,rfl⟩;refine⟨_,_,rfl,?_⟩;refine aB (zH w1 _ 1 281474976710654) ?_;rintro v c ⟨rfl,rfl⟩;refine⟨_,rfl,eF (λa=>G_ ?_) (λb=>G_ ?_)⟩
 ·rw[aQ (by grind[lZ])]
 ·rw[bh (by grind[lZ])]
structure fM (w:an)(a:ak)(n:Nat)(W:List aN):Prop where
 rd:bl w a (iw W).flatten
 len:n=W.length
 ei:W.length<=1000000
 u64:∀ p ∈ W,cy p.Head
theorem fM.new {w w':an}{a:ak}{n:Nat}{W:List aN}(h:fM w a n W)(b:ai w w'):fM w' a n W:=⟨h.rd.new b,h.len,h.ei,h.u64⟩
theorem VB:iV prog 205=true:=by kernel_rfl
theorem S1 (w:an)(p:aN){lines:Int}(d:w.cell? ⟨cD,0,none⟩=some (.int .i64 lines)):a5 205 [p.val,.pointer (some ⟨cD,0,none⟩)] w λv w'=>v=.bool (decide (p.bt<96) || decide (lines<=p.bt))/\ai w w':=by
 refine ba Tryz.func205 ?_;rw[Y'];rintro b1 w1 b a;obtain⟨aq,c⟩:=bo b a;have aq:av w1 b1 p.cells fr:=aq;clear a;refine⟨_,aq.cell (i:=0) rfl,bb (λh=>⟨?_,c⟩) (λh=>⟨_,aq.cell (i:=0) rfl,_,kh c d id,?_,c⟩)⟩
 ·grind
 grind
section
attribute [local irreducible] iV jK mQ
theorem NQ {lines:Int}{W:List aN}(h:fM w a n W)(k:w.cell? ⟨cD,0,none⟩=some (.int .i64 lines)) :
  a5 235 [.slice a n c,.func (.func 205) #[] #[.pointer (some ⟨cD,0,none⟩)]] w λv w'=>∃ z:Int,v=.int .i64 z/\(decide (z>=0)=W.any λp=>decide (p.bt<96) || decide (lines<=p.bt))/\ai w w':=by
 have r:=h.len;subst r;have j:=h.ei;refine ba Tryz.func235 ?_;rw[T7];refine cZ mix (λm env u=>∃ (i:Nat) (aC:ax),m=W.length-i/\i<=W.length/\env=xK a W.length c (.func (.func 205) #[] #[.pointer (some ⟨cD,0,none⟩)]) W.length i aC/\ai w u/\((W.take i).any λp=>decide (p.bt<96) || decide (lines<=p.bt))=false) W.length
  ⟨0,_,by omega,by omega,rfl,ao.refl _ _,rfl⟩ ?_
 rintro m env u ⟨i,aC,rfl,x,rfl,e,s⟩;rw[TI];refine bb (λt=>?_) (λt=>?_)
 ·have g:i<W.length:=by omega
  have q:W[i]?=some W[i]:=b2 g;refine eQ (cells:=aN.cells) aN.len (by omega) (h.rd.new e) q rfl rfl λb o f _=>aN.aV W[i] ⟨f,?_⟩
  refine rZ VB (xs:=#[W[i].val,.pointer (some ⟨cD,0,none⟩)]) (by simp) ?_;refine aB (S1 u W[i] (kh e k id)) ?_;rintro v bQ ⟨rfl,d⟩;refine⟨_,rfl,gW (λl=>⟨i,rfl,?_,e.new d⟩) (λl=>?_)⟩
  ·grind
  ·rw[bI (by omega) (by omega)];refine⟨W.length-(i+1),by omega,i+1,_,rfl,by omega,rfl,e.new d,?_⟩
   grind[List.take_add_one]
 grind[TK,List.take_of_length_le]
end
theorem Lo {lines:Int}{W:List aN}(h:fM w a n W)(b:w.cell? ⟨cD,0,none⟩=some (.int .i64 lines)) :
  a5 204 [.slice a n c,.func (.func 205) #[] #[.pointer (some ⟨cD,0,none⟩)]] w λv w'=>v=.bool (W.any λp=>decide (p.bt<96) || decide (lines<=p.bt))/\ai w w':=by
 refine ba Tryz.func204 ?_;rw[TR];refine aB (NQ h b) ?_
 grind
theorem OI {W:List aN}{lines:Int}(b:98<=lines/\lines<=256):(W.any λp=>decide (p.bt<96) || decide (lines<=p.bt))=!(W.all λp=>jf p.bt lines):=by
 induction W with
 |nil=>rfl
 |cons p W a=>
  rw[List.any_cons,List.all_cons,a,Bool.not_and];congr 1;unfold jf
  grind
theorem Qc {p q:Nat->Bool}:((List.range n).all λi=>p i && q i)=false↔(List.range n).all p=false\/(List.range n).all q=false:=by
 grind
theorem wB {r:b7}{W:List aN}(h:fM w r.eN r.dZ W)(lines:Int):a5 167 [r.val,.int .i64 lines] w λx w'=>x=.int .i64 (gk r.Seq W lines)/\ai w w':=by
 refine ba Tryz.func167 ?_;rw[Ku];rintro b1 w1 P J;obtain⟨B,ab⟩:=bo P J;have B:av w1 b1 r.cells 271:=B;clear J;rintro a8 ah Q K;obtain⟨q,F⟩:=bo Q K;have q:av ah a8 [.int .i64 lines] 3:=q;clear K;have a:=ai.aj F B;have Z:=ab.new F;have hlen:=h.len;have aH:=h.ei;refine⟨_,q.cell (i:=0) rfl,?_⟩;have X:a5 203 [.int .i64 lines] ah λv w'=>v=.bool (decide (98<=lines/\lines<=256))/\w'=ah:=by
  refine ba Tryz.func203 ?_
  grind[Jh]
 refine aB X ?_;rintro x bA ⟨rfl,rfl⟩;unfold gk;refine⟨_,rfl,eF (λU=>?_) (λaX=>?_)⟩
 ·grind
 have aR:98<=lines/\lines<=256:=by grind
 rw[aQ (λe=>e aR)];refine⟨_,a.cell (i:=0) rfl,bb (λbm=>?_) (λbm=>⟨_,a.cell (i:=0) rfl,bb (λad=>?_) (λad=>⟨_,_,_,a.cell (i:=1) rfl,bb (λae=>?_) (λae=>⟨_,_,_,a.cell (i:=1) rfl,bb (λaf=>?_) (λaf=>⟨_,_,_,a.cell (i:=1) rfl,?_⟩)⟩)⟩)⟩)⟩
 ·grind
 ·grind
 ·grind
 ·grind
 rw[aQ (by omega)];refine aB (Lo (h.new Z) (q.cell (i:=0) rfl)) ?_;rintro x a0 ⟨rfl,A⟩;rw[OI aR];refine⟨_,rfl,eF (λU=>?_) (λaX=>?_)⟩
 ·rw[bh U];exact⟨rfl,Z.new A⟩
 rw[aQ (by grind)];have l:=ai.aj A a;have c:=Z.new A;refine⟨_,_,_,l.cell (i:=1) rfl,?_⟩;refine cZ mix (λm env u=>∃ (i:Nat) (aC:ax),m=W.length-i/\i<=W.length/\env=rA ⟨b1,0,none⟩ r.eN r.dZ r.hR r.dZ i aC/\ai a0 u/\∀ k,k<i->k1 W k=true) W.length
  ⟨0,_,by omega,by omega,rfl,ao.refl _ _,λk Y=>by omega⟩ ?_
 rintro m env u ⟨i,aC,rfl,aP,rfl,p,H⟩;rw[Xj];refine bb (λN=>?_) (λN=>?_)
 ·have n:i<W.length:=by omega
  have D:W[i]?=some W[i]:=b2 n;have V:=pA (d:=iA) D;refine eQ (cells:=aN.cells) aN.len (by omega) (h.rd.new (c.new p)) D rfl hlen λb o S _=>aN.aV W[i] ⟨S,?_⟩
  refine io (vs:=W[i].cells) rfl (aN.single _) λa' cl R s j=>?_
  rintro bw I;have t:ai cl bw:=by rw[I];exact cR _
  clear I;have M:=ai.aj t s;have f:=(p.new j).new t;have go:k1 W i=true->∀ C,∃ aZ,aZ<W.length-i/\∃ (O:Nat) (aC:ax),aZ=W.length-O/\O<=W.length/\rA ⟨b1,0,none⟩ r.eN r.dZ r.hR r.dZ (IntKind.i64.wrap ((i:Int)+1)) C=rA ⟨b1,0,none⟩ r.eN r.dZ r.hR r.dZ O aC/\ai a0 bw/\∀ k,k<O->k1 W k=true:=by
   intro bx C;rw[bI (by omega) (by omega)];refine⟨W.length-(i+1),by omega,i+1,C,rfl,by omega,rfl,f,λk Y=>?_⟩
   grind
  refine⟨λy=>ai bw y,ao.refl _ _,bb (λbj=>⟨_,λy L=>(ai.aj L M).cell (i:=0) rfl,_,_,_,λy L=>(ai.aj (f.new L) l).cell (i:=1) rfl,?_⟩) (λbj=>go (by grind[k1]) _)⟩;have E:W[i-1]?=some W[i-1]:=b2 (by omega);have aO:=pA (d:=iA) E;refine lg (cells:=aN.cells) aN.len (by omega) (h.rd.new (c.new f)) E (by rw[bI (by omega) (by omega)];omega) hlen λb' bz T=>⟨_,λy L=>T y L 0 _ rfl,bb (λag=>?_) (λag=>go (by grind[k1]) _)⟩
  rw[bh (Qc.2 (.inl (Ki n (by grind[k1]))))];exact⟨rfl,c.new f⟩
 have aG:(List.range W.length).all (k1 W)=true:=by
  grind
 rw[Yg];refine⟨_,_,_,(ai.aj p l).cell (i:=1) rfl,?_⟩;clear N aP H;refine cZ mix (λm env z=>∃ (i:Nat) (aC:ax),m=W.length-i/\i<=W.length/\env=yy r.eN r.dZ r.hR r.dZ i aC/\ai u z/\∀ k,k<i->l0 (W.getD k iA)=true) W.length
  ⟨0,_,by omega,by omega,rfl,ao.refl _ _,λk Y=>by omega⟩ ?_
 rintro m env z ⟨i,aC,rfl,aP,rfl,G,H⟩;have g:=(c.new p).new G;rw[Xk];refine bb (λN=>?_) (λN=>?_)
 ·have n:i<W.length:=by omega
  have D:W[i]?=some W[i]:=b2 n;have V:=pA (d:=iA) D;have bad:l0 W[i]=false->(if((List.range W.length).all λi=>k1 W i && l0 (W.getD i iA))=false then 1 else(0:Int))=1:=λe=>by
   grind
  refine eQ (cells:=aN.cells) aN.len (by omega) (h.rd.new g) D rfl hlen λb o S _=>aN.aV W[i] ⟨S,?_⟩
  refine io (vs:=W[i].cells) rfl (aN.single _) λa' bq R s j=>?_
  refine⟨_,s.cell (i:=1) rfl,?_⟩;refine aB (Qb bq W[i].Head) ?_;rintro x br ⟨y,rfl,rfl⟩;refine⟨_,_,rfl,d8 (λbk=>?_) (λhe=>⟨_,s.cell (i:=1) rfl,?_⟩)⟩
  ·rw[bad (by grind[l0,lZ])];exact⟨rfl,g.new j⟩
  have bl:lZ W[i].Head=true:=by
   grind
  refine aB (xm br W[i].Head) ?_;rintro x bC ⟨rfl,rfl⟩;refine⟨_,rfl,eF (λU=>?_) (λaX=>?_)⟩
  ·rw[bad (by unfold l0;grind)];exact⟨rfl,g.new j⟩
  ·rw[bI (by omega) (by omega)];refine⟨W.length-(i+1),by omega,i+1,_,rfl,by omega,rfl,G.new j,λk Y=>?_⟩
   grind[Nat.lt_succ_iff_lt_or_eq,l0]
 ·rw[Yh]
  grind
end
section
def GU (l:List eW):List ax:=l.map eW.cells
def qo:eW:=⟨0,0⟩
def rn (R:List eW)(i:Nat):Bool:=decide (i=0) || decide ((R.getD (i-1) qo).bt<(R.getD i qo).bt)
def has (W:List aN)(line:Int):Bool:=W.any λp=>decide (p.bt=line)
def nD (R:List eW)(W:List aN)(i:Nat):Bool:=(rn R i && mG (R.getD i qo).Head) && !has W (R.getD i qo).bt
structure cJ where
 aL:Int
 seq:Int
 lines:Int
 v:jT
 reads:List eW
 writes:List aN
def cJ.valid (j:cJ):Int:=
 if j.aL<0\/6<=j.aL then 1 else if j.v.valid 5≠0 then j.v.valid 5 else if j.lines<98\/256<j.lines then 18
 else if 0<j.writes.length/\gk j.seq j.writes j.lines≠0 then gk j.seq j.writes j.lines else if 24<j.reads.length then 18
 else if j.reads.all (λs=>jf s.bt j.lines)=false then 2 else if(List.range j.reads.length).all (nD j.reads j.writes)=false then 1 else 0
structure qS (w:an)(r:dj)(j:cJ):Prop where
 aL:r.Client=j.aL
 seq:r.Seq=j.seq
 lines:r.hP=j.lines
 view:∃ M,gD M w r.View j.v
 rd:bl w r.Reads (GU j.reads).flatten
 len:r.lJ=j.reads.length
 ei:j.reads.length<=1000000
 b6:fM w r.eN r.dZ j.writes
theorem qS.new {w w':an}{r:dj}{j:cJ}(h:qS w r j)(a:ai w w'):qS w' r j:=⟨h.aL,h.seq,h.lines,h.view.imp λ_ h=>h.new a,h.rd.new a,h.len,h.ei,h.b6.new a⟩
theorem Eg (w:an)(r:dj):a5 168 [r.val] w λx w'=>x=b7.val ⟨r.Seq,r.eN,r.dZ,r.hR⟩/\ai w w':=by
 refine ba Tryz.func168 ?_;rw[Yi];rintro b1 w1 j g;obtain⟨b,d⟩:=bo j g;have b:av w1 b1 r.cells 39:=b;clear g;rintro p s l h;obtain⟨c,f⟩:=bo l h;have c:av s p (b7.cells ⟨0,none,0,0⟩) 271:=c;clear h;have a:=ai.aj f b;have t:=d.size;refine⟨_,a.cell (i:=1) rfl,_,_,_,a.cell (i:=6) rfl,?_⟩;refine dY (vs:=b7.cells ⟨r.Seq,r.eN,r.dZ,r.hR⟩) c rfl (b7.single _) λu o n=>?_
 refine b7.aV ⟨r.Seq,r.eN,r.dZ,r.hR⟩ ⟨bX o rfl,rfl,rfl,?_⟩;exact(d.new f).trans n λk q e=>by omega
theorem DS {r:dj}{W:List aN}(h:fM w r.eN r.dZ W)(line:Int):a5 171 [r.val,.int .i64 line] w λx w'=>x=.bool (has W line)/\ai w w':=by
 refine ba Tryz.func171 ?_;rw[Yj];rintro b1 w1 f e;obtain⟨c,j⟩:=bo f e;have c:av w1 b1 r.cells 39:=c;clear e;have hlen:=h.len;have l:=h.ei;refine⟨_,_,_,c.cell (i:=6) rfl,?_⟩;refine cZ mix (λm env u=>∃ (i:Nat) (aC:ax),m=W.length-i/\i<=W.length/\env=yk line r.eN r.dZ r.hR r.dZ i aC/\ai w u/\has (W.take i) line=false) W.length
  ⟨0,_,by omega,by omega,rfl,j,rfl⟩ ?_
 rintro m env u ⟨i,aC,rfl,z,rfl,a,s⟩;rw[Vx];refine bb (λt=>?_) (λt=>?_)
 ·have g:i<W.length:=by omega
  have q:W[i]?=some W[i]:=b2 g;refine eQ (cells:=aN.cells) aN.len (by omega) (h.rd.new a) q rfl hlen λb o p _=>aN.aV W[i] ⟨p,?_⟩
  refine io (vs:=W[i].cells) rfl (aN.single _) λy cl n k d=>?_
  refine⟨_,k.cell (i:=0) rfl,eg (λhe=>⟨?_,a.new d⟩) (λhe=>?_)⟩
  ·grind[has,List.any_eq_true,List.getElem_mem]
  ·rw[bI (by omega) (by omega)];refine⟨W.length-(i+1),by omega,i+1,_,rfl,by omega,rfl,a.new d,?_⟩
   grind[has,List.take_add_one]
 grind[Wn,List.take_of_length_le]
end
section
def cJ.tail (j:cJ):Int:=if j.reads.all (λs=>jf s.bt j.lines)=false then 2 else if(List.range j.reads.length).all (nD j.reads j.writes)=false then 1 else 0
theorem vZ {R:List eW}{W:List aN}(h:rn R i=false\/mG (R.getD i qo).Head=false\/has W (R.getD i qo).bt=true):nD R W i=false:=by
 unfold nD
 grind
theorem GV {r:dj}{j:cJ}{b1:Nat}(h:qS w r j)(aq:av u b1 r.cells 39)(ag:ai w u)(aC:ax){R:cM}(J:∀ w',ai w w'->R (.int .i64 j.tail) w') :
  cz prog (.loop (sub (bu f124) [1,1,1,1,1,1,0,1,0,0])) (tl ⟨b1,0,none⟩ r.Reads r.lJ r.p1 r.lJ 0 aC) (aO 0 (aZ (λenv w=>W prog (sub (bu f124) [1,1,1,1,1,1,1]) env (dE prog f124 R) w) (dE prog f124 R))) u:=by
 have hlen:=h.len;have U:=h.ei;have af:=h.lines;unfold cJ.tail at J;refine cZ mix (λm env z=>∃ (i:Nat) (aC:ax),m=j.reads.length-i/\i<=j.reads.length/\env=tl ⟨b1,0,none⟩ r.Reads r.lJ r.p1 r.lJ i aC/\ai u z/\(j.reads.take i).all (λs=>jf s.bt j.lines)=true) j.reads.length
  ⟨0,_,by omega,by omega,rfl,ao.refl _ _,rfl⟩ ?_
 rintro m env z ⟨i,aC,rfl,X,rfl,t,C⟩;have l:=ag.new t;rw[Xh];refine bb (λL=>?_) (λL=>?_)
 ·have B:i<j.reads.length:=by omega
  have K:j.reads[i]?=some j.reads[i]:=b2 B;refine eQ (cells:=eW.cells) eW.len (by omega) (h.rd.new l) K rfl hlen λb o N _=>eW.aV j.reads[i] ⟨N,?_⟩
  refine io (vs:=j.reads[i].cells) rfl (eW.single _) λZ cl M D n=>?_
  refine⟨_,D.cell (i:=0) rfl,_,(ai.aj (t.new n) aq).cell (i:=2) rfl,?_⟩;refine aB (OH _ _ _) ?_;rintro x aH ⟨rfl,rfl⟩;refine⟨_,rfl,eF (λT=>?_) (λQ=>?_)⟩
  ·rw [bh (by
    grind)]at J
   exact J _ (l.new n)
  ·rw[bI (by omega) (by omega)];refine⟨j.reads.length-(i+1),by omega,i+1,_,rfl,by omega,rfl,t.new n,?_⟩
   grind[List.take_add_one]
 have Q:j.reads.take i=j.reads:=r' (by omega);rw[Q]at C;rw[aQ (by grind)]at J;rw[Ye];clear C X L Q;have I:=ai.aj t aq;refine⟨_,_,_,I.cell (i:=5) rfl,?_⟩;refine cZ mix (λm env x=>∃ (i:Nat) (aC:ax),m=j.reads.length-i/\i<=j.reads.length/\env=vC ⟨b1,0,none⟩ r.Reads r.lJ r.p1 r.lJ i aC/\ai z x/\∀ k,k<i->nD j.reads j.writes k=true) j.reads.length
  ⟨0,_,by omega,by omega,rfl,ao.refl _ _,λk Y=>by omega⟩ ?_
 rintro m env x ⟨i,aC,rfl,X,rfl,q,C⟩;have A:=l.new q;rw[Xi];refine bb (λL=>?_) (λL=>?_)
 ·have B:i<j.reads.length:=by omega
  have K:j.reads[i]?=some j.reads[i]:=b2 B;have ae:=pA (d:=qo) K;have bad:nD j.reads j.writes i=false->∀ w',ai w w'->R (.int .i64 1) w':=λe w' hw=>by
   grind
  refine eQ (cells:=eW.cells) eW.len (by omega) (h.rd.new A) K rfl hlen λb o N _=>eW.aV j.reads[i] ⟨N,?_⟩
  refine io (vs:=j.reads[i].cells) rfl (eW.single _) λZ cl M D n=>?_
  rintro bw H;have G:ai cl bw:=by rw[H];exact cR _
  clear H;have g:=n.new G;have p:=ai.aj G D;have E:=ai.aj (q.new g) I;have a:=A.new g;refine⟨λy=>ai bw y,ao.refl _ _,bb (λab=>⟨_,λy c=>(ai.aj c p).cell (i:=0) rfl,_,_,_,λy c=>(ai.aj c E).cell (i:=5) rfl,?_⟩) (λab=>⟨_,λy c=>(ai.aj c p).cell (i:=1) rfl,?_⟩)⟩
  ·have F:j.reads[i-1]?=some j.reads[i-1]:=b2 (by omega);have V:=pA (d:=qo) F;refine lg (cells:=eW.cells) eW.len (by omega) (h.rd.new a) F (by rw[bI (by omega) (by omega)];omega) hlen λb' aG O=>⟨_,λy c=>O y c 0 _ rfl,bb (λP=>?_) (λP=>⟨_,λy c=>(ai.aj c p).cell (i:=1) rfl,?_⟩)⟩
   ·grind[vZ,rn]
   have ad:rn j.reads i=true:=by grind[rn]
   refine aB (xm bw j.reads[i].Head) ?_;rintro v cq ⟨rfl,rfl⟩;refine⟨_,rfl,ao.refl _ _,eF (λT=>?_) (λS=>dj.aV r ⟨λy c=>bX (ai.aj c E) rfl,_,λy c=>(ai.aj c p).cell (i:=0) rfl,?_⟩)⟩
   ·grind[vZ]
   refine aB (DS (h.b6.new a) j.reads[i].bt) ?_;rintro v ah ⟨rfl,f⟩;refine⟨_,rfl,f,gW (λhw=>?_) (λhw=>?_)⟩
   ·exact bad (vZ (.inr (.inr (by grind)))) _ (a.new f)
   ·rw[bI (by omega) (by omega)];refine⟨j.reads.length-(i+1),by omega,i+1,_,rfl,by omega,rfl,(q.new g).new f,λk Y=>?_⟩
    grind[Nat.lt_succ_iff_lt_or_eq,nD]
  ·have ad:rn j.reads i=true:=by grind[rn]
   refine aB (xm bw j.reads[i].Head) ?_;rintro v cq ⟨rfl,rfl⟩;refine⟨_,rfl,ao.refl _ _,eF (λT=>?_) (λS=>dj.aV r ⟨λy c=>bX (ai.aj c E) rfl,_,λy c=>(ai.aj c p).cell (i:=0) rfl,?_⟩)⟩
   ·grind[vZ]
   refine aB (DS (h.b6.new a) j.reads[i].bt) ?_;rintro v ah ⟨rfl,f⟩;refine⟨_,rfl,f,gW (λhw=>?_) (λhw=>?_)⟩
   ·exact bad (vZ (.inr (.inr (by grind)))) _ (a.new f)
   ·rw[bI (by omega) (by omega)];refine⟨j.reads.length-(i+1),by omega,i+1,_,rfl,by omega,rfl,(q.new g).new f,λk Y=>?_⟩
    grind[Nat.lt_succ_iff_lt_or_eq,nD]
 ·rw[Yf]
  grind
theorem OJ {r:dj}{j:cJ}(h:qS w r j):a5 124 [r.val] w λx w'=>x=.int .i64 j.valid/\ai w w':=by
 refine ba Tryz.func124 ?_;rw[Kt];rintro b1 w1 t q;obtain⟨aq,I⟩:=bo t q;have aq:av w1 b1 r.cells 39:=aq;clear q;have hlen:=h.len;have H:=h.ei;have K:=h.aL;have E:=h.seq;have o:=h.lines;have M:=h.b6.len;obtain⟨O,k⟩:=h.view;unfold cJ.valid;refine⟨_,aq.cell (i:=0) rfl,bb (λL=>?_) (λL=>⟨_,aq.cell (i:=0) rfl,bb (λA=>?_) (λA=>?_)⟩)⟩
 ·grind
 ·grind
 rw[aQ (by omega)];refine da.aV r.View ⟨bX aq rfl,?_⟩;refine aB (Ec (k.new I) 5) ?_;rintro x N ⟨rfl,p⟩;have a:=ai.aj p aq;have b:=I.new p;refine⟨_,rfl,d8 (λal=>?_) (λal=>?_)⟩
 ·grind
 rw[aQ (by omega)];refine⟨_,a.cell (i:=2) rfl,bb (λB=>?_) (λB=>⟨_,a.cell (i:=2) rfl,bb (λC=>?_) (λC=>⟨_,_,_,a.cell (i:=6) rfl,bb (λD=>?_) (λD=>⟨_,_,_,a.cell (i:=5) rfl,bb (λg=>?_) (λg=>⟨_,_,_,a.cell (i:=5) rfl,?_⟩)⟩)⟩)⟩)⟩
 ·grind
 ·grind
 ·rw[aQ (by omega)];rintro G s;have d:ai N G:=by rw[s];exact cR _
  clear s;have l:=ai.aj d a;refine⟨λy=>ai G y,ao.refl _ _,dj.aV r ⟨λy F=>bX (ai.aj F l) rfl,_,λy F=>(ai.aj F l).cell (i:=2) rfl,?_⟩⟩;refine aB (Eg G r) ?_;rintro x P ⟨rfl,c⟩;refine b7.aV ⟨r.Seq,r.eN,r.dZ,r.hR⟩ ⟨rfl,c,?_⟩;refine aB (wB (r:=⟨r.Seq,r.eN,r.dZ,r.hR⟩) (h.b6.new (b.new (d.new c))) r.hP) ?_;rintro x u ⟨rfl,f⟩;have z:=b.new (d.new (c.new f));have n:=ai.aj (c.new f) l;rw[<-E,<-o];refine⟨_,rfl,c.new f,d8 (λJ=>?_) (λJ=>⟨_,_,_,n.cell (i:=5) rfl,bb (λg=>?_) (λg=>⟨_,_,_,n.cell (i:=5) rfl,?_⟩)⟩)⟩
  ·grind
  ·grind
  ·rw[aQ (λe=>e.2 J),aQ (by omega),o];exact GV h n z _ λw' hw=>⟨rfl,hw⟩
 ·grind
 ·rw[aQ (by omega),aQ (by omega),aQ (by omega)];exact GV h a b _ λw' hw=>⟨rfl,hw⟩
end
section
open IntKind
variable (w:an)(R:cM){s t:ak}{a b c d:Nat}{i k l m:Int}{A:aU}{j:ar}
theorem Lp:bd prog f84 [ad s a b] R w=(jI 113 #[ah 0,ad s a b] w λc d=>R (ah c) d):=by kernel_rfl
theorem Ld:bd prog f113 [ah i,ad s a b] R w=(WE 147 #[] w λd g=>aR g ((List.replicate 256 (ah 0)).toArray) 239 λe f=>a8 f (af e 0) 0 d.cells λh=>jI 148 #[ah (jb .u64 18446744073709551615 i),a' e,ad s a b] h λc j=>R (ah (jb .u64 18446744073709551615 c)) j):=by kernel_rfl
def yE (a:aU)(b:Int)(j:ar):ar:=.pointer (some a)::ag j 0 2 (ab b::ag j 2 20 [])
def JM (a:aU)(j:ar):ar:=.pointer (some a)::ag j 0 23 []
def vF (a:aU)(s1 s2 b s8:Int)(j:ar):ar:=.pointer (some a)::ab s1::ah s2::ab b::ag j 0 4 (ab s8::ag j 4 15 [])
def JN (a:aU)(s1 s2 b:Int)(j:ar):ar:=.pointer (some a)::ab s1::ah s2::ab b::ag j 0 20 []
theorem Lq  : bd prog f147 [] R w=(aR w ((List.replicate 256 (ah 0)).toArray) 239 λb1 w1=>cz prog (cU f147 [1,0,1,0,0]) (yE (af b1 0) 0 (bm 22 [])) (aO 0 (aT f147 [1,1] R)) w1):=by kernel_rfl
theorem Yk (a:ar->aJ):W prog (sb f147 [1,0,1,0,0]) (yE A i j) (aZ a (aO 0 (aT f147 [1,1] R))) w=(cond (i<256) (cz prog (cU f147 [1,0,1,0,0,1,1,0,0,1,1,0,1,0,0]) (vF A i (u64.wrap i) i 0 (ae (i<256)::ab i::ab i::ah (u64.wrap i)::ag j 7 15 [])) (aO 2 (aZ (λb w=>W prog (sb f147 [1,0,1,0,0,1,1,0,0,1,1,1]) b (aO 1 (aZ (λb w=>W prog (sb f147 [1,0,1,0,0,1,1,1]) b (aZ a (aO 0 (aT f147 [1,1] R))) w) (aZ a (aO 0 (aT f147 [1,1] R))))) w) (aO 1 (aZ (λb w=>W prog (sb f147 [1,0,1,0,0,1,1,1]) b (aZ a (aO 0 (aT f147 [1,1] R))) w) (aZ a (aO 0 (aT f147 [1,1] R))))))) w) (W prog (sb f147 [1,1]) (JM A (aH j 0::aH j 1::ab i::ae (i<256)::ag j 3 19 [])) (bT f147 R) w)):=by kernel_rfl
theorem Za:W prog (sb f147 [1,1]) (JM A j) (bT f147 R) w=(I7 w A λr=>a8 w A 0 r.cells λa=>I7 a A λb=>a=a/\R b.val a):=by kernel_rfl
theorem wd (b:ar->aJ)(c:ar->aJ):W prog (sb f147 [1,0,1,0,0,1,1,0,0,1,1,0,1,0,0]) (vF A i k l m j) (aZ c (aO 2 (aZ (λa w=>W prog (sb f147 [1,0,1,0,0,1,1,0,0,1,1,1]) a (aO 1 (aZ (λa w=>W prog (sb f147 [1,0,1,0,0,1,1,1]) a (aZ b (aO 0 (aT f147 [1,1] R))) w) (aZ b (aO 0 (aT f147 [1,1] R))))) w) (aO 1 (aZ (λa w=>W prog (sb f147 [1,0,1,0,0,1,1,1]) a (aZ b (aO 0 (aT f147 [1,1] R))) w) (aZ b (aO 0 (aT f147 [1,1] R)))))))) w=(cond (m<8) (cond (((hE .u64 k 1):Int) == 1) (c (vF A i (jb .u64 (c3 .u64 k 1) 14514072000185962306) l (i64.wrap (m+1)) (ag j 0 4 (ae (m<8)::ah k::ah (hE .u64 k 1)::ae (((hE .u64 k 1):Int) == 1)::ah k::ah (c3 .u64 k 1)::ah (jb .u64 (c3 .u64 k 1) 14514072000185962306)::aH j 11::aH j 12::ab (i64.wrap (m+1))::ag j 14 5 []))) w) (c (vF A i (c3 .u64 k 1) l (i64.wrap (m+1)) (ag j 0 4 (ae (m<8)::ah k::ah (hE .u64 k 1)::ae (((hE .u64 k 1):Int) == 1)::aH j 8::aH j 9::aH j 10::ah k::ah (c3 .u64 k 1)::ab (i64.wrap (m+1))::ag j 14 5 []))) w)) (W prog (sb f147 [1,0,1,0,0,1,1,0,0,1,1,1]) (JN A i k l (ag j 0 4 (ab m::ae (m<8)::ag j 5 14 []))) (aO 1 (aZ (λa w=>W prog (sb f147 [1,0,1,0,0,1,1,1]) a (aZ b (aO 0 (aT f147 [1,1] R))) w) (aZ b (aO 0 (aT f147 [1,1] R))))) w)):=by kernel_rfl
theorem Zb (a:ar->aJ):W prog (sb f147 [1,0,1,0,0,1,1,0,0,1,1,1]) (JN A i k l j) (aO 1 (aZ (λc w=>W prog (sb f147 [1,0,1,0,0,1,1,1]) c (aZ a (aO 0 (aT f147 [1,1] R))) w) (aZ a (aO 0 (aT f147 [1,1] R))))) w=(qd A 256 i 1 λb=>cV w b (ah k) λd=>a (yE A (i64.wrap (l+1)) (ab i::ah k::ag j 0 15 [ab i,ah k,jp b,ab (i64.wrap (l+1)),aH j 19])) d):=by kernel_rfl
def yK (e:Int)(s1:aU)(f:ak)(a b:Nat)(c d:Int)(j:ar):ar:=ah e::.pointer (some s1)::ag j 0 7 (ad f a b::ab c::ab d::ag j 7 16 [])
def Kl (a:Int)(j:ar):ar:=ah a::ag j 0 27 []
theorem MM:bd prog f148 [ah i,a' a,ad s b c] R w=(cz prog (cU f148 [1,0,1,0,0]) (yK i (af a 0) s b c (b:Nat) 0 (ad s b c::bm 3 (ah 0::bm 18 []))) (aO 0 (aT f148 [1,1] R)) w):=by kernel_rfl
theorem Zf (e:ar->aJ):W prog (sb f148 [1,0,1,0,0]) (yK i A s a b k l j) (aZ e (aO 0 (aT f148 [1,1] R))) w=(cond (l<k) (bx s a l 1 λd=>WF w d λx=>qd A 256 (jb .u8 (IntKind.u8.wrap i) x) 1 λf=>d' w f λc=>e (yK (jb .u64 (c3 .u64 i 8) c) A s a b k (i64.wrap (l+1)) (ag j 0 6 [.int .u8 x,ae (l<k),jp d,.int .u8 x,ah i,ah (c3 .u64 i 8),jp A,ah i,.int .u8 (IntKind.u8.wrap i),.int .u8 x,.int .u8 (jb .u8 (IntKind.u8.wrap i) x),jp A,jp f,ah c,ah (jb .u64 (c3 .u64 i 8) c),ab (i64.wrap (l+1)),aH j 22])) w) (W prog (sb f148 [1,1]) (Kl i (jp A::ag j 0 7 (ad s a b::ab k::ab l::ae (l<k)::ag j 8 15 []))) (bT f148 R) w)):=by kernel_rfl
theorem Kv:W prog (sb f148 [1,1]) (Kl i j) (bT f148 R) w=(R (ah i) w):=by kernel_rfl
def yF (e:ak)(a b:Nat)(c:ak)(d f:Nat)(g h:Int)(j:ar):ar:=ag j 0 3 (ad e a b::ag j 3 6 (ad c d f::ab g::ab h::ag j 9 16 []))
def JO (c:ak)(a b:Nat)(j:ar):ar:=ag j 0 3 (ad c a b::ag j 3 25 [])
def yG (e:ak)(a b:Nat)(k:Int)(c:ak)(d f:Nat)(g h i:Int)(j:ar):ar:=ag j 0 3 (ad e a b::ag j 3 1 (ah k::ag j 4 4 (ad c d f::ab g::ab h::ag j 8 3 (ab i::ag j 11 12 []))))
def JP (e:ak)(a b:Nat)(c:ak)(d f:Nat)(g h:Int)(j:ar):ar:=ag j 0 3 (ad e a b::ag j 3 6 (ad c d f::ab g::ab h::ag j 9 16 []))
theorem Lr:bd prog f239 [ad s a b] R w=(rJ 0 (i64.wrap (8*(a:Nat))) 1 (.cells (ko (Int.toNat (i64.wrap (8*(a:Nat)))) [.int .u8 0]).toArray 5) w λc d=>cz prog (cU f239 [1,1,0,1,0,0]) (yF (bk c) (Int.toNat 0) (Int.toNat (i64.wrap (8*(a:Nat)))) s a b (a:Nat) 0 (ad s a b::undef::ah 0::bm 2 (ad s a b::dA a::ab (i64.wrap (8*(a:Nat)))::ad (bk c) (Int.toNat 0) (Int.toNat (i64.wrap (8*(a:Nat))))::bm 16 []))) (aO 0 (aT f239 [1,1,1] R)) d):=by kernel_rfl
theorem Yx (e:ar->aJ):W prog (sb f239 [1,1,0,1,0,0]) (yF s a b t c d i k j) (aZ e (aO 0 (aT f239 [1,1,1] R))) w=(cond (k<i) (bx t c k 1 λf=>d' w f λx=>cz prog (cU f239 [1,1,0,1,0,0,1,1,0,0,1,1,0,0]) (yG s a b x t c d i k 0 (ag j 0 4 (ag j 5 4 (ae (k<i)::jp f::ah x::ag j 13 12 [])))) (aO 2 (aO 1 (aZ (λg w=>W prog (sb f239 [1,1,0,1,0,0,1,1,1]) g (aZ e (aO 0 (aT f239 [1,1,1] R))) w) (aZ e (aO 0 (aT f239 [1,1,1] R)))))) w) (W prog (sb f239 [1,1,1]) (JO s a b (ag j 0 9 (ad t c d::ab i::ab k::ae (k<i)::ag j 10 15 []))) (bT f239 R) w)):=by kernel_rfl
theorem Zc:W prog (sb f239 [1,1,1]) (JO s a b j) (bT f239 R) w=(jI 84 #[ad s a b] w λc d=>R (ah c) d):=by kernel_rfl
theorem Yy (h:ar->aJ)(n:ar->aJ):W prog (sb f239 [1,1,0,1,0,0,1,1,0,0,1,1,0,0]) (yG s a b i t c d k l m j) (aZ n (aO 2 (aO 1 (aZ (λq w=>W prog (sb f239 [1,1,0,1,0,0,1,1,1]) q (aZ h (aO 0 (aT f239 [1,1,1] R))) w) (aZ h (aO 0 (aT f239 [1,1,1] R))))))) w=(cond (m<8) (aR w #[.int .u8 (IntKind.u8.wrap i)] 5 λo r=>de 77 (ad s a b) (ad (bk o) 1 1) r λf g e p=>n (yG f g e (c3 .u64 i 8) t c d k l (i64.wrap (m+1)) (ag j 0 11 [ae (m<8),ad s a b,ah i,.int .u8 (IntKind.u8.wrap i),ad (bk o) 1 1,ad f g e,ah i,ah (c3 .u64 i 8),ab (i64.wrap (m+1)),aH j 20,aH j 21,aH j 22])) p) (W prog (sb f239 [1,1,0,1,0,0,1,1,1]) (JP s a b t c d k l (ag j 0 4 (ah i::ag j 4 7 (ab m::ae (m<8)::ag j 12 11 [])))) (aZ h (aO 0 (aT f239 [1,1,1] R))) w)):=by kernel_rfl
theorem Zd (e:ar->aJ):W prog (sb f239 [1,1,0,1,0,0,1,1,1]) (JP s a b t c d i k j) (aZ e (aO 0 (aT f239 [1,1,1] R))) w=(e (yF s a b t c d i (i64.wrap (k+1)) (ag j 0 22 [ab (i64.wrap (k+1)),aH j 23,aH j 24])) w):=by kernel_rfl
end
section
def Qd (r:Int):Int:=if hE .u64 r 1=1 then jb .u64 (c3 .u64 r 1) 14514072000185962306 else c3 .u64 r 1
def pX:Nat->Int->Int
 | 0,r=>r
 |n+1,r=>Qd (pX n r)
def w9 (i:Nat):Int:=pX 8 i
def jZ:a7:=(List.range 256).map w9
def oB (i:Nat):a7:=(List.range i).map w9++List.replicate (256-i) 0
theorem OK (h:i<=256):(oB i).length=256:=by grind[oB]
theorem OL (h:i<256):(oB i).set i (w9 i)=oB (i+1):=by
 unfold oB;rw[qP,kY,List.set_append];simp only[gR,nO,Nat.lt_irrefl,if_false,uj];obtain⟨m,hm⟩:∃ m,256-i=m+1:=⟨255-i,by omega⟩
 grind
theorem OM:oB 256=jZ:=by simp[oB,jZ]
theorem Qe (n:Nat):us (List.replicate n 0)=List.replicate n (.int .u64 0):=by simp[us]
theorem Qf (l:a7)(i:Nat)(x:Int):(us l).set i (.int .u64 x)=us (l.set i x):=by simp[us]
theorem DT (l:a7):jd.cells ⟨l⟩=us l:=rfl
abbrev Bi:bY:=239
theorem MN (w:an):a5 147 [] w λv w'=>v=jd.val ⟨jZ⟩/\ai w w':=by
 refine ba Tryz.func147 ?_;rw[Lq];rintro b1 w1 q l;obtain⟨n,h⟩:=bo q l;have n:av w1 b1 (us (oB 0)) Bi:=by
  grind[us,oB,Qe]
 clear l;refine cZ mix (λm env u=>∃ (i:Nat) (aC:ax),m=256-i/\i<=256/\env=yE ⟨b1,0,none⟩ i aC/\ai w u/\av u b1 (us (oB i)) Bi) 256 ⟨0,_,rfl,by omega,rfl,h,n⟩ ?_;rintro m env u ⟨i,aC,rfl,D,rfl,j,b⟩;rw[Yk];refine bb (λg=>?_) (λA=>?_)
 ·rw[kP (x:=(i:Int)) (by omega) (by omega)];refine cZ mix (λt c y=>∃ (k:Nat) (aC:ax),t=8-k/\k<=8/\c=vF ⟨b1,0,none⟩ i (pX k i) i k aC/\y=u) 8 ⟨0,_,rfl,by omega,rfl,rfl⟩ ?_;rintro t c y ⟨k,B,rfl,E,rfl,rfl⟩;rw[wd,bI (x:=(k:Int)+1) (by omega) (by omega)];refine bb (λf=>?_) (λf=>?_)
  ·refine eg (λp=>?_) (λp=>?_)
   ·have e:pX (k+1) i=jb .u64 (c3 .u64 (pX k i) 1) 14514072000185962306:=bh p;rw[<-e];exact⟨8-(k+1),by omega,k+1,_,rfl,by omega,rfl,rfl⟩
   ·have e:pX (k+1) i=c3 .u64 (pX k i) 1:=aQ p;rw[<-e];exact⟨8-(k+1),by omega,k+1,_,rfl,by omega,rfl,rfl⟩
  ·have f:k=8:=by omega
   subst f;rw[Zb,bI (x:=(i:Int)+1) (by omega) (by omega)];refine uA (by omega) (by omega) ?_;have z:0+(i:Int).toNat*1=i:=by omega
   rw[z];refine sC b (o:=i) (by grind[iS,OK]) λC a d=>?_
   rw[Qf,show pX 8 (i:Int)=w9 i from rfl,OL (by omega)]at a;have F:=h.size;exact⟨256-(i+1),by omega,i+1,_,rfl,by omega,rfl,j.trans d λk g e=>by omega,a⟩
 ·have r:i=256:=by omega
  subst r;rw[Za];rw[OM]at b;have s:jZ.length=256:=by simp[jZ]
  refine jd.aV ⟨jZ⟩ s ⟨bX b (by rw[DT];grind),?_⟩;refine dY (vs:=us jZ) b rfl (qm _) λC a d=>?_
  exact jd.aV ⟨jZ⟩ s ⟨bX a (by rw[DT];grind),rfl,rfl,j.trans d λk g e=>by grind⟩
def oE (r x:Int):Int:=jb .u64 (c3 .u64 r 8) (jZ.getD (jb .u8 (IntKind.u8.wrap r) x).toNat 0)
theorem S2 (x:Int):0<=IntKind.u8.wrap x/\IntKind.u8.wrap x<256:=by
 simp only[IntKind.wrap,IntKind.bits,IntKind.signed]
 grind
def dz (l:a7):ax:=l.map (Value.int .u8)
theorem Fv (h:l[i]?=some x):(dz l)[i]?=some (.int .u8 x):=by grind[dz]
theorem MO {f:Int->Int->Int}{r:Int}(h:l[i]?=some x):(l.take (i+1)).foldl f r=f ((l.take i).foldl f r) x:=by
 grind[List.take_add_one]
theorem ON (r:Int){tb:Nat}(k:av w tb (us jZ) Bi)(j:bl w a (dz l))(h:n=l.length)(t:n<=1000000) :
  a5 148 [.int .u64 r,.pointer (some ⟨tb,0,none⟩),.slice a n c] w λv w'=>v=.int .u64 (l.foldl oE r)/\w'=w:=by
 subst h;refine ba Tryz.func148 ?_;rw[MM];refine cZ mix (λm env u=>∃ (i:Nat) (aC:ax),m=l.length-i/\i<=l.length/\env=yK ((l.take i).foldl oE r) ⟨tb,0,none⟩ a l.length c l.length i aC/\u=w) l.length ⟨0,_,rfl,by omega,rfl,rfl⟩ ?_;rintro m env u ⟨i,aC,rfl,z,rfl,rfl⟩;rw[Zf];refine bb (λg=>?_) (λf=>?_)
 ·obtain⟨x,C⟩:∃ x,l[i]?=some x:=⟨_,b2 (by omega)⟩;rcases j with he | ⟨b,o,rfl,s⟩
  ·have p:l.length=0:=by
    have:=ey List.length he
    grind[dz,List.length_map]
   omega
  refine dW (by omega) (by omega) ⟨x,by grind[Fv],?_⟩;have d:0<=jb .u8 (IntKind.u8.wrap ((l.take i).foldl oE r)) x/\jb .u8 (IntKind.u8.wrap ((l.take i).foldl oE r)) x<256:=S2 _;have A:jZ.length=256:=by simp[jZ]
  refine uA d.1 d.2 ?_;generalize B:jb .u8 (IntKind.u8.wrap ((l.take i).foldl oE r)) x=q at d ⊢;obtain⟨y,D⟩:∃ y,jZ[q.toNat]?=some y:=⟨_,b2 (by omega)⟩;refine⟨y,by rw[wo];exact av.cell k (by grind[sB]),?_⟩;rw[bI (x:=(i:Int)+1) (by omega) (by omega)];have e:(l.take (i+1)).foldl oE r=jb .u64 (c3 .u64 ((l.take i).foldl oE r) 8) y:=by
   grind[MO,oE]
  dsimp only;rw[<-e];exact⟨l.length-(i+1),by omega,i+1,_,rfl,by omega,rfl,rfl⟩
 grind[Kv,List.take_length]
def uR (r:Int)(l:a7):Int:=jb .u64 18446744073709551615 (l.foldl oE (jb .u64 18446744073709551615 r))
theorem LG (r:Int)(i:bl w a (dz l))(h:n=l.length)(f:n<=1000000) :
  a5 113 [.int .u64 r,.slice a n c] w λv w'=>v=.int .u64 (uR r l)/\ai w w':=by
 refine ba Tryz.func113 ?_;rw[Ld];refine aB (MN w) ?_;rintro v w1 ⟨rfl,d⟩;have g:jZ.length=256:=by simp[jZ]
 refine jd.aV ⟨jZ⟩ g ⟨rfl,?_⟩;refine io (zs:=List.replicate 256 (.int .u64 0)) (vs:=us jZ) (by grind[iS,List.length_replicate]) (qm _) λb k j aq e=>?_
 refine aB (ON _ aq (i.new (d.new e)) h f) ?_;rintro v o ⟨rfl,rfl⟩;exact⟨_,rfl,rfl,d.new e⟩
theorem C0 (e:bl w a (dz l))(d:n=l.length)(b:n<=1000000) :
  a5 84 [.slice a n c] w λv w'=>v=.int .u64 (uR 0 l)/\ai w w':=by
 refine ba Tryz.func84 ?_;rw[Lp];refine aB (LG 0 e d b) ?_
 grind
def oA:Nat->Int->Int
 | 0,x=>x
 |k+1,x=>c3 .u64 (oA k x) 8
def hn (x:Int):a7:=(List.range 8).map λk=>IntKind.u8.wrap (oA k x)
theorem ki (x:Int):(hn x).length=8:=by grind[hn,List.length_map,List.length_range]
def ib (ws:a7):a7:=(ws.map hn).flatten
def ta (ws:a7):Int:=uR 0 (ib ws)
theorem tM (ws:a7):(ib ws).length=8*ws.length:=by
 induction ws with
 |nil=>rfl
 |cons x ws a=>
  grind[ib,hn,List.length_append]
theorem OO (ws:a7):cy (ta ws):=by
 unfold ta uR cy;generalize (List.foldl oE _ _)=z;simp only[jb,IntKind.wrap,IntKind.bits,IntKind.signed]
 grind
abbrev f8:bY:=5
def qD (ws:a7)(i k:Nat):a7:=ib (ws.take i)++((hn (ws.getD i 0)).take k)
theorem MP {ws:a7}(Y:bl w a (us ws))(V:n=ws.length)(ah:n<=10000) :
  a5 239 [.slice a n c] w λv w'=>v=.int .u64 (ta ws)/\ai w w':=by
 subst V;refine ba Tryz.func239 ?_;rw[Lr,bI (x:=8*(ws.length:Int)) (by omega) (by omega)];refine⟨by omega,by omega,by omega,by omega,?_⟩;rintro b1 w1 C A;obtain⟨K,F⟩:=bo C A;clear A;obtain⟨inf,l,L,t,R⟩:=fV (T:=f8) (z:=.int .u8 0) (n:=1) (m:=1) (by kernel_rfl);have M:Int.toNat (8*(ws.length:Int))=8*ws.length:=by omega
 have p:aX w1 f8 1 (some ⟨b1,0,none⟩) 0 (8*ws.length) (dz []):=by refine⟨rfl,.inr ⟨b1,_,rfl,K,by omega,by unfold maxLen;omega,?_,by simp[dz]⟩⟩;rw[M];simp[ko]
 refine cZ mix (λm env u=>∃ (i:Nat) (aW:ak) (pc:Nat) (aC:ax),m=ws.length-i/\i<=ws.length/\env=yF aW (8*i) pc a ws.length c ws.length i aC/\ai w u/\aX u f8 1 aW (8*i) pc (dz (ib (ws.take i)))/\∀ k,aP aW k->w.heap.size<=k) ws.length
  ⟨0,some ⟨b1,0,none⟩,8*ws.length,_,rfl,by omega,by rw[M];rfl,F,p,λk N=>?_⟩ ?_
 ·obtain⟨o,H⟩:=N
  grind
 rintro m env u ⟨i,aW,pc,aC,rfl,ao,rfl,g,H,I⟩;rw[Yx];refine bb (λU=>?_) (λS=>?_)
 ·obtain⟨x,av⟩:∃ x,ws[i]?=some x:=⟨_,b2 (by omega)⟩;have Z:ws.getD i 0=x:=by grind
  have J:=Y.new g;rcases J with he | ⟨b,o,rfl,ag⟩
  ·have af:ws.length=0:=by
    have:=ey List.length he
    grind[us,List.length_map]
   omega
  refine dW (by omega) (by omega) ⟨x,by grind[sB],?_⟩;refine cZ mix (λO d y=>∃ (k:Nat) (aW:ak) (pc:Nat) (aC:ax),O=8-k/\k<=8/\d=yG aW (8*i+k) pc (oA k x) (some ⟨b,o,none⟩) ws.length c ws.length i k aC/\ai w y/\aX y f8 1 aW (8*i+k) pc (dz (qD ws i k))/\∀ k,aP aW k->w.heap.size<=k) 8
   ⟨0,aW,pc,_,rfl,by omega,rfl,g,by grind[qD],I⟩ ?_
  rintro O d y ⟨k,gX,hh,ab,rfl,N,rfl,h,W,s⟩;rw[Yy];refine bb (λf=>?_) (λf=>?_)
  ·have r:aX y f8 inf.size gX (8*i+k) hh (dz (qD ws i k)):=by grind
   refine pv (vs:=[.int .u8 (IntKind.u8.wrap (oA k x))]) Tryz.underlying77 l L (by rw[t];rfl) (by omega) r (by grind) (by intro v al;simp at al;subst al;rfl) (by omega) (by omega) ?_;intro ad ap j aG Q P E B;rw[t]at P;rw[bI (x:=(k:Int)+1) (by omega) (by omega)];refine⟨8-(k+1),by omega,k+1,ap,j,_,rfl,by omega,rfl,tB h E s,?_,?_⟩
   ·have e:dz (qD ws i k)++[Value.int .u8 (IntKind.u8.wrap (oA k x))]=dz (qD ws i (k+1)):=by
     unfold qD
     grind[List.take_add_one,hn,oA,List.getElem?_range,dz]
    grind
   ·intro q X;rcases B q X with e | e
    ·grind
    ·have:=h.size;omega
  ·have f:k=8:=by omega
   subst f;rw[Zd,bI (x:=(i:Int)+1) (by omega) (by omega)];refine⟨ws.length-(i+1),by omega,i+1,gX,hh,_,rfl,by omega,rfl,h,?_,s⟩;have e:qD ws i 8=ib (ws.take (i+1)):=by
    have ae:ws.take (i+1)=ws.take i++[x]:=by grind[List.take_add_one]
    unfold qD ib
    grind[List.flatten_append,List.take_of_length_le,ki]
   grind
 ·have D:i=ws.length:=by omega
  subst D;rw[Zc];rw[ja]at H;refine aB (C0 H.rd (tM ws).symm (by omega)) ?_;rintro v aH ⟨rfl,G⟩;exact⟨_,rfl,rfl,g.new G⟩
end
end Go.Proofs.YtmkljjbioomepaaGreat
