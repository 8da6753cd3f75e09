import Derived.Test.YtmkljjbioomepaaGreatProg
import Derived.Test.YtmkljjbioomepaaGreatg02
import Derived.RangeFuncNested
import Derived.RangeFuncBound
import Derived.RangeFuncCalls
import Derived.RangeFuncLeaves
import Derived.OwnWalkIn
import Derived.TacticsInMore
import Derived.WalkKit
import Derived.Shelf.Abstract
set_option linter.all false
set_option maxHeartbeats 4000000
set_option maxRecDepth 100000
namespace Go.Proofs.YtmkljjbioomepaaGreat
open Go.Proofs.Tryz Go.bJ
variable {B c i:Nat}{K:Int->Int->Int->Int->Int->Int->ak->Nat->Nat->Int->Int->Prop}{M:a4}{N:ax->aJ}{P:df}{Q:Exit->Act->aJ}{a:ak}{bF:aU}{env:ax}{n:Int}{w:an}
section
open IntKind
variable (w:an)(R:cM){i k l:Int}{A:aU}{s:ak}{a b:Nat}{j:ar}{X:bf}{F:Bool}
theorem Ky (m:da):bd prog f125 [m.val] R w=(aR w m.cells.toArray 35 λn p=>aR p #[ab 0,ab 0,ae false] 116 λj e=>b_ e (af n 1) λa b c=>cond ((b:Int) == 0) (a8 e (af j 0) 0 [ab 0,ab 0,ae false] λl=>iT l (af j 0) λh=>l=l/\R (.tuple #[h.val,ae false]) l) (b_ e (af n 1) λd f g=>bx d f 0 3 λo=>iT e o λr=>a8 e (af j 0) 0 r.cells λk=>iT k (af j 0) λi=>k=k/\R (.tuple #[i.val,ae true]) k)):=by kernel_rfl
def vE (s1:Int)(s2:aU)(a:ak)(b c:Nat)(d f:Int)(j:ar):ar:=ag j 0 1 (ab s1::.pointer (some s2)::ag j 1 25 (ad a b c::ab d::ab f::ag j 26 50 []))
def JI (a:aU)(j:ar):ar:=ag j 0 2 (.pointer (some a)::ag j 2 78 [])
def yC (s2:aU)(a:ak)(b c:Nat)(d f:Int)(j:ar):ar:=ag j 0 2 (.pointer (some s2)::ag j 2 59 (ad a b c::ab d::ab f::ag j 61 16 []))
def ul (a:aU)(j:ar):ar:=ag j 0 2 (.pointer (some a)::ag j 2 78 [])
theorem K2 (m:da):bd prog f166 [m.val,ab i] R w=(aR w m.cells.toArray 35 λl n=>dx 200 #[ab i] n λa j=>cond (!a) (R (ab 1) j) (b0 j (af l 0) λb=>cond (b<0) (R (ab 2) j) (b0 j (af l 0) λc=>cond (c>=16) (R (ab 2) j) (b_ j (af l 1) λd f g=>cond ((f:Int) == 0) (R (ab 1) j) (b_ j (af l 1) λh e k=>cz prog (cU f166 [1,1,0,1,0,0]) (vE i (af l 0) h e k (e:Nat) 0 (m.val::undef::ab 0::bm 4 (ae (!a)::ab i::ae a::ae (!a)::ae (c>=16)::jp (af l 0)::ab b::ae (b<0)::ae false::jp (af l 0)::ab c::ae (c>=16)::ae (c>=16)::ae ((f:Int) == 0)::jp (af l 1)::ad d f g::dA f::ae ((f:Int) == 0)::jp (af l 1)::bm 50 []))) (aO 1 (aT f166 [1,1,1] R)) j))))):=by kernel_rfl
theorem X6 (u:ar->aJ):W prog (sb f166 [1,1,0,1,0,0]) (vE i A s a b k l j) (aZ u (aO 1 (aT f166 [1,1,1] R))) w=(cond (l<k) (bx s a l 3 λt=>iT w t λr=>aR w #[ab 0,ab 0,ae false] 116 λe x=>a8 x (af e 0) 0 r.cells λv=>cF v λp f=>cY f (af e 0) λg=>cond (g<0) (R (ab 1) p) (cY f (af e 0) λh=>cond (h>=i) (R (ab 1) p) (cond (l>0) (cY f (af e 0) λc=>eD f (b5 A 1) λq d m=>bx q d (i64.wrap (l-1)) 3 λo=>cY f o λn=>cond (c<=n) (R (ab 1) p) (u (vE i A s a b k (i64.wrap (l+1)) (aH j 0::aH j 1::aH j 2::ab l::jp (af e 0)::ag j 5 21 (ae (l<k)::ab l::jp t::r.val::jp (af e 0)::ab g::ae (g<0)::ae false::jp (af e 0)::ab h::ab i::ae (h>=i)::ae (h>=i)::ae false::ab l::ae (l>0)::ae true::jp (af e 0)::ab c::bM A 1::ad q d m::ab l::ab (i64.wrap (l-1))::jp o::jp o::ab n::ae (c<=n)::ae (c<=n)::ae (c<=n)::ab (i64.wrap (l+1))::ag j 56 20 []))) p)) (u (vE i A s a b k (i64.wrap (l+1)) (aH j 0::aH j 1::aH j 2::ab l::jp (af e 0)::ag j 5 21 (ae (l<k)::ab l::jp t::r.val::jp (af e 0)::ab g::ae (g<0)::ae false::jp (af e 0)::ab h::ab i::ae (h>=i)::ae (h>=i)::ae false::ab l::ae (l>0)::ae false::bm 10 (ae false::ae false::ab (i64.wrap (l+1))::ag j 56 20 [])))) p)))) (W prog (sb f166 [1,1,1]) (JI A (aH j 0::ab i::ag j 1 25 (ad s a b::ab k::ab l::ae (l<k)::ag j 27 49 []))) (bT f166 R) w)):=by kernel_rfl
theorem YL:W prog (sb f166 [1,1,1]) (JI A j) (bT f166 R) w=(b_ w (b5 A 1) λb c d=>cz prog (cU f166 [1,1,1,0,1,0,0]) (yC A b c d (c:Nat) 0 (ag j 0 60 (bM A 1::ag j 64 16 []))) (aO 3 (aT f166 [1,1,1,1] R)) w):=by kernel_rfl
theorem X7 (e:ar->aJ):W prog (sb f166 [1,1,1,0,1,0,0]) (yC A s a b i k j) (aZ e (aO 3 (aT f166 [1,1,1,1] R))) w=(cond (k<i) (bx s a k 3 λf=>iT w f λr=>aR w #[ab 0,ab 0,ae false] 116 λc l=>a8 l (af c 0) 0 r.cells λd=>b0 d (af c 1) λg=>cond (g<1) (R (ab 2) d) (b0 d (af c 1) λh=>cond (h>31) (R (ab 2) d) (e (yC A s a b i (i64.wrap (k+1)) (ag j 0 7 (jp (af c 0)::ag j 8 53 (ae (k<i)::jp f::r.val::jp (af c 1)::ab g::ae (g<1)::ae false::jp (af c 1)::ab h::ae (h>31)::ae (h>31)::ab (i64.wrap (k+1))::ag j 73 4 [])))) d))) (W prog (sb f166 [1,1,1,1]) (ul A (ag j 0 61 (ad s a b::ab i::ab k::ae (k<i)::ag j 62 15 []))) (bT f166 R) w)):=by kernel_rfl
theorem YM:W prog (sb f166 [1,1,1,1]) (ul A j) (bT f166 R) w=(b_ w (b5 A 1) λb c d=>dx 201 #[ad b c d,.func (.func 202) #[] #[]] w λf a=>cond (!f) (R (ab 13) a) (R (ab 0) a)):=by kernel_rfl
theorem Kz:bd prog f200 [ab i] R w=(cond (i>=1) (R (ae (i<=5)) w) (R (ae false) w)):=by kernel_rfl
theorem TJ:bd prog f201 [ad s a b,X] R w=(cG 234 #[ad s a b,X] w λc d=>R (ae (c>=0)) d):=by kernel_rfl
theorem KC (c:aS):bd prog f202 [c.val] R w=(aR w c.cells.toArray 116 λd b=>j5 b (af d 2) λa=>R (ae a) b):=by kernel_rfl
theorem KA (l:da):bd prog f216 [l.val] R w=(aR w l.cells.toArray 35 λj e=>b_ e (af j 1) λa b c=>cond ((b:Int) == 0) (R (a0) e) (b_ e (af j 1) λd f g=>ij d f g 1 (f:Nat) (g:Nat) 3 λm o n=>dm 243 #[ad m o n] e λh i k p=>R (ad h i k) p)):=by kernel_rfl
def xJ (c:ak)(a b:Nat)(s1:bf)(d s8:Int)(j:ar):ar:=ad c a b::s1::ag j 0 5 (ab d::ab s8::ag j 5 10 [])
def HS  (j:ar):ar:=ag j 0 19 []
theorem TP:bd prog f234 [ad s a b,X] R w=(cz prog (cU f234 [1,0,1,0,0]) (xJ s a b X (a:Nat) 0 (bm 2 (ab 0::undef::ad s a b::bm 10 []))) (aO 0 (aT f234 [1,1] R)) w):=by kernel_rfl
theorem ip (d:ar->aJ):W prog (sb f234 [1,0,1,0,0]) (xJ s a b X i k j) (aZ d (aO 0 (aT f234 [1,1] R))) w=(cond (k<i) (bx s a k 3 λf=>iT w f λr=>jK prog X #[r.val] w λe g=>∃ c,e=.returned (ae c)/\cond c (R (ab k) g) (d (xJ s a b X i (i64.wrap (k+1)) [aH j 0,aH j 1,aH j 2,ab k,aH j 4,ae (k<i),ab k,X,ad s a b,ab k,jp f,r.val,ae c,aH j 13,ab (i64.wrap (k+1))]) g)) (W prog (sb f234 [1,1]) (HS  (ad s a b::X::ag j 0 5 (ab i::ab k::ae (k<i)::ag j 6 9 []))) (bT f234 R) w)):=by kernel_rfl
theorem TH:W prog (sb f234 [1,1]) (HS  j) (bT f234 R) w=(R (ab (-1)) w):=by kernel_rfl
theorem Ko (x:da)(A:aS)(t:aG):bd prog f241 [x.val,A.val,ae F,t.val] R w=(aR w x.cells.toArray 35 λH C=>aR C A.cells.toArray 116 λy B=>aR B t.cells.toArray 158 λe G=>aR G #[ab 0,ab 0,ab 0,ab 0,ah 0,ah 0,a0,ah 0,ab 0] 158 λz D=>cF D λa6 j=>cY j (af y 0) λa=>cY j (af y 1) λb=>cV a6 (af e 1) (ab a) λs=>j s/\cV s (af e 8) (ab b) λv=>b0 v (af H 0) λc=>h1 103 #[ab c,ae F] v λd f E=>cV E (af e 7) (ah d) λu=>b_ u (af e 6) λg h i=>dm 73 #[ad g h i] u λk l m n=>cV n (af e 6) (ad k l m) λo=>lq o (af e 0) λr=>a8 o (af z 0) 0 r.cells λp=>lq p (af z 0) λq=>p=p/\R q.val p):=by kernel_rfl
end
section
abbrev eL:bY:=116
abbrev n6:bY:=35
abbrev Bh:bY:=33
def g3 (l:List aS):List ax:=l.map aS.cells
theorem If (l:List aS)(m:aS):(g3 (l++[m])).flatten=(g3 l).flatten++m.cells:=by simp[g3]
structure jT where
 number:Int
 mem:List aS
def kk:aS:=⟨0,0,false⟩
def kO (n:Int)(l:List aS)(i:Nat):Bool:=
 decide (0<=(l.getD i kk).Node/\(l.getD i kk).Node<n) && (decide (i=0) || decide ((l.getD (i-1) kk).Node<(l.getD i kk).Node))
def nF (m:aS):Bool:=decide (1<=m.cK/\m.cK<=31)
def jT.valid (v:jT)(n:Int):Int:=
 if¬ (1<=n/\n<=5)then 1 else if v.number<0\/16<=v.number then 2 else if v.mem.length=0 then 1
 else if(List.range v.mem.length).all (kO n v.mem)=false then 1 else if v.mem.all nF=false then 2 else if v.mem.any aS.Full=false then 13 else 0
structure gD (M:a4)(w:an)(r:da)(v:jT):Prop where
 num:r.Number=v.number
 len:r.fq=v.mem.length
 cap:r.fq<=r.gB
 rd:bl w r.f7 (g3 v.mem).flatten
 off:(g3 v.mem).flatten=[]\/gU M r.f7
 small:v.mem.length<=1000000
theorem gD.new {M:a4}{w w':an}{r:da}{v:jT}(h:gD M w r v)(a:ai w w'):gD M w' r v:=⟨h.num,h.len,h.cap,h.rd.new a,h.off,h.small⟩
theorem MZ (w:an)(n:Int):a5 200 [.int .i64 n] w λv w'=>v=.bool (decide (1<=n/\n<=5))/\w'=w:=by
 refine ba Tryz.func200 ?_
 grind[Kz]
theorem O0 (w:an)(m:aS):a5 202 [m.val] w λv w'=>v=.bool m.Full/\ai w w':=by refine ba Tryz.func202 ?_;rw[KC];rintro b1 w1 a b;obtain⟨aq,c⟩:=bo a b;exact⟨_,aq.cell rfl,rfl,c⟩
theorem R4:iV prog 202=true:=by kernel_rfl
section
attribute [local irreducible] iV jK mQ
theorem Lx {l:List aS}(h:bl w a (g3 l).flatten)(r:l.length<=1000000) :
  a5 234 [.slice a l.length c,.func (.func 202) #[] #[]] w λv w'=>∃ z:Int,v=.int .i64 z/\(decide (z>=0)=l.any aS.Full)/\ai w w':=by
 refine ba Tryz.func234 ?_;rw[TP];refine cZ mix (λm env u=>∃ (i:Nat) (aC:ax),m=l.length-i/\i<=l.length/\env=xJ a l.length c (.func (.func 202) #[] #[]) l.length i aC/\ai w u/\(l.take i).any aS.Full=false) l.length
  ⟨0,_,by omega,by omega,rfl,ao.refl _ _,rfl⟩ ?_
 rintro m env u ⟨i,aC,rfl,q,rfl,f,n⟩;rw[ip];refine bb (λp=>?_) (λp=>?_)
 ·have e:i<l.length:=by omega
  have k:l[i]?=some l[i]:=b2 e;refine eQ (cells:=aS.cells) aS.len (by omega) (h.new f) k rfl rfl λb o g _=>aS.aV l[i] ⟨g,?_⟩
  refine rZ R4 (xs:=#[l[i].val]) (by simp) ?_;refine aB (O0 _ l[i]) ?_;rintro v bQ ⟨rfl,d⟩;refine⟨_,rfl,gW (λj=>⟨i,rfl,?_,f.new d⟩) (λj=>?_)⟩
  ·grind
  ·rw[bI (by omega) (by omega)];refine⟨l.length-(i+1),by omega,i+1,_,rfl,by omega,rfl,f.new d,?_⟩
   grind[List.take_add_one]
 grind[TH,List.take_of_length_le]
end
theorem KD {l:List aS}(h:bl w a (g3 l).flatten)(b:l.length<=1000000) :
  a5 201 [.slice a l.length c,.func (.func 202) #[] #[]] w λv w'=>v=.bool (l.any aS.Full)/\ai w w':=by
 refine ba Tryz.func201 ?_;rw[TJ];refine aB (Lx h b) ?_
 grind
theorem Ki {p:Nat->Bool}{n:Nat}(a:i<n)(h:p i=false):(List.range n).all p=false:=by
 grind
theorem pA {α:Type}{l:List α}{x d:α}(h:l[i]?=some x):l.getD i d=x:=by grind
theorem Ec {r:da}{v:jT}(h:gD M w r v)(n:Int):a5 166 [r.val,.int .i64 n] w λx w'=>x=.int .i64 (v.valid n)/\ai w w':=by
 refine ba Tryz.func166 ?_;rw[K2];rintro b1 w1 N J;obtain⟨aq,g⟩:=bo N J;have aq:av w1 b1 r.cells n6:=aq;clear J;have U:=h.small;have hlen:=h.len;have ab:=h.num;unfold jT.valid;refine aB (MZ _ n) ?_;rintro x ad ⟨rfl,rfl⟩;refine⟨_,rfl,eF (λag=>?_) (λag=>?_)⟩
 ·grind
 have H:1<=n/\n<=5:=by grind
 rw[aQ (λe=>e H)];refine⟨_,aq.cell rfl,bb (λaG=>?_) (λaG=>⟨_,aq.cell rfl,bb (λR=>?_) (λR=>?_)⟩)⟩
 ·grind
 ·grind
 rw[aQ (by omega)];refine⟨_,_,_,aq.cell rfl,eg (λaf=>?_) (λaf=>⟨_,_,_,aq.cell rfl,?_⟩)⟩
 ·grind
 rw[aQ (by omega)];refine cZ mix (λm env u=>∃ (i:Nat) (aC:ax),m=v.mem.length-i/\i<=v.mem.length/\env=vE n ⟨b1,0,none⟩ r.f7 r.fq r.gB r.fq i aC/\ai ad u/\∀ k,k<i->kO n v.mem k=true) v.mem.length
  ⟨0,_,by omega,by omega,rfl,ao.refl _ _,λk Z=>by omega⟩ ?_
 rintro m env u ⟨i,aC,rfl,Y,rfl,a,B⟩;rw[X6];refine bb (λL=>?_) (λL=>?_)
 ·have p:i<v.mem.length:=by omega
  have K:v.mem[i]?=some v.mem[i]:=b2 p;have ah:=pA (d:=kk) K;have f:kO n v.mem i=false->(List.range v.mem.length).all (kO n v.mem)=false:=Ki p;refine eQ (cells:=aS.cells) aS.len (by omega) ((h.rd.new g).new a) K rfl hlen λb o P _=>aS.aV v.mem[i] ⟨P,?_⟩
  refine io (vs:=v.mem[i].cells) rfl (aS.single _) λae cl O s A=>?_
  rintro bw I;have j:ai cl bw:=by rw[I];exact cR _
  clear I;have F:=ai.aj j s;have c:=(a.new A).new j;refine⟨λy=>ai bw y,ao.refl _ _,_,λy q=>(ai.aj q F).cell (i:=0) rfl,bb (λC=>?_) (λC=>⟨_,λy q=>(ai.aj q F).cell (i:=0) rfl,bb (λD=>?_) (λD=>bb (λS=>?_) (λS=>?_))⟩)⟩
  ·rw[bh (f (by grind[kO]))];exact⟨rfl,g.new c⟩
  ·rw[bh (f (by grind[kO]))];exact⟨rfl,g.new c⟩
  ·have G:v.mem[i-1]?=some v.mem[i-1]:=b2 (by omega);have X:=pA (d:=kk) G;refine⟨_,λy q=>(ai.aj q F).cell (i:=0) rfl,_,_,_,λy q=>(ai.aj (c.new q) aq).cell (i:=1) rfl,?_⟩;refine lg (cells:=aS.cells) aS.len (by omega) ((h.rd.new g).new c) G (by rw[bI (by omega) (by omega)];omega) hlen λb' aH Q=>⟨_,λy q=>Q y q 0 _ rfl,bb (λT=>?_) (λT=>?_)⟩
   ·rw[bh (f (by grind[kO]))];exact⟨rfl,g.new c⟩
   ·rw[bI (by omega) (by omega)];refine⟨v.mem.length-(i+1),by omega,i+1,_,rfl,by omega,rfl,c,λk Z=>?_⟩
    grind[Nat.lt_succ_iff_lt_or_eq,kO]
  ·rw[bI (by omega) (by omega)];refine⟨v.mem.length-(i+1),by omega,i+1,_,rfl,by omega,rfl,c,λk Z=>?_⟩
   grind[Nat.lt_succ_iff_lt_or_eq,kO]
 have V:(List.range v.mem.length).all (kO n v.mem)=true:=by
  grind
 rw[aQ (by grind)];rw[YL];have t:=ai.aj a aq;refine⟨_,_,_,t.cell (i:=1) rfl,?_⟩;refine cZ mix (λm env z=>∃ (i:Nat) (aC:ax),m=v.mem.length-i/\i<=v.mem.length/\env=yC ⟨b1,0,none⟩ r.f7 r.fq r.gB r.fq i aC/\ai ad z/\(v.mem.take i).all nF=true) v.mem.length
  ⟨0,_,by omega,by omega,rfl,a,rfl⟩ ?_
 clear t a B Y L;rintro m env u ⟨i,aC,rfl,Y,rfl,a,B⟩;rw[X7];refine bb (λL=>?_) (λL=>?_)
 ·have p:i<v.mem.length:=by omega
  have K:v.mem[i]?=some v.mem[i]:=b2 p;have f:nF v.mem[i]=false->v.mem.all nF=false:=λe=>by
   grind
  refine eQ (cells:=aS.cells) aS.len (by omega) ((h.rd.new g).new a) K rfl hlen λb o P _=>aS.aV v.mem[i] ⟨P,?_⟩
  refine io (vs:=v.mem[i].cells) rfl (aS.single _) λae cl O s A=>?_
  have l:=a.new A;refine⟨_,s.cell (i:=1) rfl,bb (λC=>?_) (λC=>⟨_,s.cell (i:=1) rfl,bb (λD=>?_) (λD=>?_)⟩)⟩
  ·rw[bh (f (by grind[nF]))];exact⟨rfl,g.new l⟩
  ·rw[bh (f (by grind[nF]))];exact⟨rfl,g.new l⟩
  ·rw[bI (by omega) (by omega)];refine⟨v.mem.length-(i+1),by omega,i+1,_,rfl,by omega,rfl,l,?_⟩
   grind[List.take_add_one,nF]
 have E:v.mem.take i=v.mem:=r' (by omega);rw[E]at B;rw[aQ (by grind)];rw[YM];have t:=ai.aj a aq;refine⟨_,_,_,t.cell (i:=1) rfl,?_⟩;rw[hlen];refine aB (KD ((h.rd.new g).new a) U) ?_;rintro x bw ⟨rfl,j⟩;refine⟨_,rfl,eF (λW=>?_) (λW=>?_)⟩
 ·rw[bh W];exact⟨rfl,g.new (a.new j)⟩
 ·rw[aQ (by grind)];exact⟨rfl,g.new (a.new j)⟩
end
section
theorem Qy {u:an}{n cap:Nat}{L:List aS}(h:aX u eL 3 a n cap (g3 L).flatten)(q:n=L.length){m:aS}(j:n<=1000000){K:Nat->ak->Nat->Nat->aJ}
  (p:∀ b ap e g,b=u.heap.size->aX g eL 3 ap (n+1) e (g3 (L++[m])).flatten->ao (aP a) u g->(∀ k,aP ap k->aP a k\/u.heap.size<=k)->K b ap (n+1) e g) :
  ∀ b1 i,b1=u.heap.size->i=u.alloc (.cells m.cells.toArray eL)->∃ (ap:ak) (d c:Nat),∃ g,(Builtin.append_ #[Bh,Bh] Bh #[(.slice a n cap),(.slice (some ⟨b1,0,none⟩) 1 1)]).run prog i=.ok (.slice ap d c) g/\K b1 ap d c g:=by
 obtain⟨inf,o,aq,f,l⟩:=fV (T:=eL) (z:=.agg #[.int .i64 0,.int .i64 0,.bool false]) (n:=3) (m:=24) (by kernel_rfl);rw[<-f]at h;refine pv Tryz.underlying33 o aq (by rw[f];rfl) (by omega) h (by rw[f];rfl) (aS.single m) (by omega) (by omega) ?_
 grind[If]
end
section
open IntKind
variable (w:an)(R:cM){i k:Int}{A B:aU}{j:ar}
theorem Yr:bd prog f28 [ab i] R w=(aR w #[ab 0,a0] 35 λf l=>Calls prog 51 #[ab i] l λe k=>da.ex λb=>∃ a,e=.returned (.tuple #[b.val,ab a])/\aR k #[ab 0,a0] 35 λg j=>a8 j (af g 0) 0 b.cells λh=>mD h (af g 0) λr=>a8 h (af f 0) 0 r.cells λd=>mD d (af f 0) λc=>d=d/\R c.val d):=by kernel_rfl
def yf (a:Int)(s2 b:aU)(c:Int)(j:ar):ar:=ab a::ag j 0 1 (.pointer (some s2)::ag j 1 1 (.pointer (some b)::ab c::ag j 2 21 []))
def Iw (a b:aU)(j:ar):ar:=ag j 0 2 (.pointer (some a)::ag j 2 1 (.pointer (some b)::ag j 3 22 []))
theorem ut:bd prog f51 [ab i] R w=(aR w #[ab 0,a0] 35 λc f=>cond (i<1) (a8 f (af c 0) 0 [ab 0,a0] λe=>mD e (af c 0) λa=>e=e/\R (.tuple #[a.val,ab 1]) e) (cond (i>5) (a8 f (af c 0) 0 [ab 0,a0] λd=>mD d (af c 0) λb=>d=d/\R (.tuple #[b.val,ab 1]) d) (aR f #[ab 0,a0] 35 λg j=>a8 j (af g 0) 0 [ab 0,a0] λh=>cz prog (cU f51 [1,1,1,0,1,0,0]) (yf i (af c 0) (af g 0) 0 (undef::ab 0::ab i::ae (i<1)::ae false::ab i::ae (i>5)::ae (i>5)::undef::.agg #[ab 0,a0]::bm 13 [])) (aO 0 (aT f51 [1,1,1,1] R)) h))):=by kernel_rfl
theorem ol (g:ar->aJ):W prog (sb f51 [1,1,1,0,1,0,0]) (yf i A B k j) (aZ g (aO 0 (aT f51 [1,1,1,1] R))) w=(cond (k<i) (b_ w (b5 B 1) λa b c=>aR w #[ab k,ab 1,ae true] 116 λh n=>de 33 (ad a b c) (ad (bk h) 1 1) n λe d f m=>cV m (b5 B 1) (ad e d f) λl=>g (yf i A B (i64.wrap (k+1)) (ag j 0 10 [ab k,ab i,ae (k<i),ab k,ab (i64.wrap (k+1)),bM B 1,ad a b c,ab k,.agg #[ab k,ab 1,ae true],ad (bk h) 1 1,ad e d f,bM B 1,aH j 22])) l) (W prog (sb f51 [1,1,1,1]) (Iw A B (ab i::aH j 0::aH j 1::ab k::ag j 2 8 (ab k::ab i::ae (k<i)::ag j 13 10 []))) (bT f51 R) w)):=by kernel_rfl
theorem Wt:W prog (sb f51 [1,1,1,1]) (Iw A B j) (bT f51 R) w=(mD w B λr=>a8 w A 0 r.cells λa=>mD a A λc=>a=a/\R (.tuple #[c.val,ab 0]) a):=by kernel_rfl
end
section
structure R9 (v:jT):Prop where
 num:0<=v.number/\v.number<16
 eX:∀ m ∈ v.mem,1<=m.cK
 ne:v.mem≠[]
 ei:v.mem.length<=5
abbrev Hg (A:Nat):a4:=λk=>k<A
theorem R_ {A:Nat}{L:List aS}(b:aX w eL 3 a L.length c (g3 L).flatten)(f:L.length<=1000000)(d:∀ k,aP a k->A<=k):gD (Hg A) w ⟨n,a,L.length,c⟩ ⟨n,L⟩:=
 ⟨rfl,rfl,b.le,b.rd,hv b.rd λk e h=>Nat.lt_irrefl _ (fE h (d k e)),f⟩
theorem gD.mono {M':a4}{r:da}{v:jT}(h:gD M w r v)(hm:∀ k,k<w.heap.size->M' k->M k):gD M' w r v:=by
 refine⟨h.num,h.len,h.cap,h.rd,?_,h.small⟩;rcases h.off with e | e
 ·grind
 ·rcases h.rd with a | ⟨b,o,a,d⟩
  ·grind
  ·by_cases he:(g3 v.mem).flatten=[]
   ·grind
   ·rw[a]at e ⊢;refine .inr λc=>e (hm _ ?_ c)
    cases f:(g3 v.mem).flatten with
    |nil=>grind
    |cons x xs=>exact wN (d 0 x (by grind))
theorem gD.aA {M N:a4}{w w':an}{r:da}{v:jT}(h:gD M w r v)(d:ao N w w')(b:∀ k,N k->M k):gD M w' r v:=
 ⟨h.num,h.len,h.cap,h.rd.aA d (h.off.imp id λe=>by cases c:r.f7 with
  |none=>exact trivial
  |some a=>rw[c]at e;exactλf=>e (b _ f)),h.off,h.small⟩
def stM (n:Nat):List aS:=(List.range n).map λ(i:Nat)=>⟨(i:Int),1,true⟩
theorem Fb (n:Nat):(stM n).length=n:=by simp[stM]
theorem O1 (n:Nat):stM (n+1)=stM n++[⟨(n:Int),1,true⟩]:=by simp[stM,qP]
theorem O2 {n:Nat}{m:aS}(h:m ∈ stM n):1<=m.cK:=by
 simp only[stM,cW]at h
 grind
theorem Mz (w:an)(K:1<=n)(ab:n<=5):a5 51 [.int .i64 n] w λx w'=>∃ (a:ak) (c:Nat) (L:List aS),x=.tuple #[da.val ⟨0,a,L.length,c⟩,.int .i64 0]/\aX w' eL 3 a L.length c (g3 L).flatten/\ai w w'/\L=stM n.toNat/\(∀ k,aP a k->w.heap.size<=k):=by
 refine ba Tryz.func51 ?_;rw[ut];rintro b1 w1 F D;obtain⟨f,t⟩:=bo F D;have f:av w1 b1 (da.cells ⟨0,none,0,0⟩) n6:=f;clear D;refine bb (λI=>cp I (by omega)) (λ_=>bb (λI=>cp I (by omega)) (λ_=>?_))
 refine io (vs:=da.cells ⟨0,none,0,0⟩) rfl (da.single _) λq ae Q J y=>?_
 have E:=ai.aj y f;have s:=t.new y;have X:=t.size;have M:=f.lt;refine cZ mix (λm env u=>∃ (i:Nat) (a:ak) (c:Nat) (L:List aS) (aC:ax),m=n.toNat-i/\i<=n.toNat/\env=yf n ⟨b1,0,none⟩ ⟨q,0,none⟩ i aC/\ai w u/\av u b1 (da.cells ⟨0,none,0,0⟩) n6/\av u q (da.cells ⟨0,a,L.length,c⟩) n6/\aX u eL 3 a L.length c (g3 L).flatten/\(∀ k,aP a k->q<k)/\L=stM i) n.toNat
  ⟨0,none,0,[],_,by omega,by omega,rfl,s,E,J,aX.nil _ _ _,(λk h=>by obtain⟨o,V⟩:=h;cases V),rfl⟩ ?_
 rintro m env u ⟨i,a,c,L,aC,rfl,ad,rfl,z,p,d,g,S,O⟩;have N:L.length=i:=by grind[Fb]
 rw[ol];refine bb (λW=>?_) (λW=>?_)
 ·refine⟨_,_,_,d.cell (i:=1) rfl,?_⟩;refine Qy g rfl (m:=⟨i,1,true⟩) (by omega) ?_;intro Z ap cap bw R H j P;have A:=j.aj p λe=>by grind
  have B:=j.aj d λe=>by grind
  have Y:=d.lt;have r:∀ k,aP ap k->q<k:=λk h=>by
   grind
  refine sC (b:=q) B (o:=0+1) (by simp[da.cells]) λcq C l=>?_
  rw[bI (by omega) (by omega)];refine⟨n.toNat-(i+1),by omega,i+1,ap,cap,L++[⟨i,1,true⟩],_,rfl,by omega,rfl,?_,l.aj A (by omega),?_,?_,r,by grind[O1]⟩
  ·have K:ai w bw:=tB z j λk h=>by grind
   exact K.trans l λk G e=>by omega
  ·rw[fF];exact C
  ·rw[fF];exact aX.aA l H λk h e=>by grind
 ·have T:i=n.toNat:=by omega
  rw[Wt];refine da.aV ⟨0,a,L.length,c⟩ ⟨bX d rfl,?_⟩;refine⟨gq p (by simp[da.cells]) (da.single _),λcl hu=>?_⟩;have h:ao (λk=>k=b1) u cl:=by rw[hu];exact ir _ _ _ _ _
  have aq:av cl b1 (da.cells ⟨0,a,L.length,c⟩) n6:=by rw[hu];exact p.cI
  refine da.aV ⟨0,a,L.length,c⟩ ⟨bX aq rfl,rfl,a,c,L,rfl,?_,?_,by grind,?_⟩
  ·exact aX.aA h g λk U e=>by grind
  ·exact z.trans h λk G e=>by omega
  grind
theorem Fc (w:an)(E:1<=n)(F:n<=5):a5 28 [.int .i64 n] w λx w'=>∃ r v,x=da.val r/\gD (Hg w.heap.size) w' r v/\ai w w'/\R9 v/\v=⟨0,stM n.toNat⟩:=by
 refine ba Tryz.func28 ?_;rw[Yr];rintro b1 w1 u t;obtain⟨j,p⟩:=bo u t;have j:av w1 b1 (da.cells ⟨0,none,0,0⟩) n6:=j;clear t;refine aB (Mz w1 E F) ?_;rintro v N ⟨a,c,L,rfl,s,q,l,z⟩;have G:(L.length:Int)=n:=by grind[Fb]
 have y:∀ m ∈ L,1<=m.cK:=λm hm=>O2 (l▸hm)
 refine da.aV ⟨0,a,L.length,c⟩ ⟨_,rfl,?_⟩;refine io (vs:=da.cells ⟨0,a,L.length,c⟩) rfl (da.single _) λM K H C i=>?_
 refine da.aV ⟨0,a,L.length,c⟩ ⟨bX C rfl,?_⟩;have d:=ai.aj (q.new i) j;have b:=aX.new i s;refine⟨gq d (by simp[da.cells]) (da.single _),λcl hu=>?_⟩;have D:ao (λk=>k=b1) K cl:=by rw[hu];exact ir _ _ _ _ _
 have aq:av cl b1 (da.cells ⟨0,a,L.length,c⟩) n6:=by rw[hu];exact d.cI
 have A:∀ k,aP a k->k≠b1:=λk f e=>by
  subst e;obtain⟨o,B⟩:=f;rcases b.2 with⟨h,_⟩ | ⟨g,cur,he,I,_⟩
  ·grind
  ·rw[he]at B;simp at B;exact cp (I.uniq (B.1▸d)).2 (by decide)
 refine da.aV ⟨0,a,L.length,c⟩ ⟨bX aq rfl,rfl,_,⟨0,L⟩,rfl,R_ (aX.aA D b A) (by omega) (λk f=>by have:=z k f;have:=p.size;omega),?_,⟨⟨by simp,by simp⟩,y,λe=>?_,?_⟩,by rw[l]⟩
 ·exact(p.new (q.new i)).trans D λk J e=>by omega
 ·grind
 grind
end
section
open IntKind
variable (w:an)(R:cM){X:bf}{a:Nat}{i k:Int}{j:ar}
theorem K3 (a b c d f g:Int)(h:ak)(i k:Nat)(l m:Int)(w:an)(R:cM):bd prog f130 [.agg #[ab a,ab b,ab c,ab d,ah f,ah g,ad h i k,ah l,ab m]] R w=(aR w #[ab a,ab b,ab c,ab d,ah f,ah g,ad h i k,ah l,ab m] 158 λb1 w1=>b0 w1 (af b1 0) λn=>cond (n == 1) (b0 w1 (af b1 3) λe=>R (ab e) w1) (cond (n == 2) (b_ w1 (af b1 6) λo p q=>R (ab (p:Nat)) w1) (cond (n == 3) (cond (n == 3) (R (ab 1) w1) (R (ab 0) w1)) (cond (n == 4) (R (ab 1) w1) (R (ab 0) w1))))):=by kernel_rfl
theorem KE (a b c d f g:Int)(h:ak)(i k:Nat)(l m:Int)(w:an)(R:cM):bd prog f138 [.agg #[ab a,ab b,ab c,ab d,ah f,ah g,ad h i k,ah l,ab m]] R w=(aR w #[ab a,ab b,ab c,ab d,ah f,ah g,ad h i k,ah l,ab m] 158 λb1 w1=>R (.func (.func 186) #[] #[a' b1]) w1):=by kernel_rfl
def yr (a:bf)(b c:Int)(j:ar):ar:=a::ag j 0 2 (ab b::ab c::ag j 2 24 [])
theorem Zg:bd prog f186 [X,a' a] R w=(cF w λq j=>cY j (af a 2) λo=>nA j (af a 0) λe b c p d f g h i k l=>cG 130 #[.agg #[ab e,ab b,ab c,ab p,ah d,ah f,ad g h i,ah k,ab l]] q λm n=>j n/\cz prog (cU f186 [1,0,0]) (yr X o m (jp (af a 0)::bm 2 (jp (af a 2)::ab o::.agg #[ab e,ab b,ab c,ab p,ah d,ah f,ad g h i,ah k,ab l]::ab m::bm 19 []))) (aO 0 (bT f186 R)) n):=by kernel_rfl
theorem WU (c:ar->aJ):W prog (sb f186 [1,0,0]) (yr X i k j) (aZ c (aO 0 (bT f186 R))) w=(cond (k>0) (jK prog X #[.agg #[ab i,ab (if((i64.wrap (8-(Int.tmod i 8))):Int)<k then((i64.wrap (8-(Int.tmod i 8))):Int)else k)]] w λe b=>∃ a,e=.returned (ae a)/\cond (!a) (R (.tuple #[]) b) (c (yr X (i64.wrap (i+(if((i64.wrap (8-(Int.tmod i 8))):Int)<k then((i64.wrap (8-(Int.tmod i 8))):Int)else k))) (i64.wrap (k-(if((i64.wrap (8-(Int.tmod i 8))):Int)<k then((i64.wrap (8-(Int.tmod i 8))):Int)else k))) (aH j 0::aH j 1::ab (if((i64.wrap (8-(Int.tmod i 8))):Int)<k then((i64.wrap (8-(Int.tmod i 8))):Int)else k)::ag j 3 4 [ab k,ae (k>0),ab k,ab i,ab (Int.tmod i 8),ab (i64.wrap (8-(Int.tmod i 8))),ab (if((i64.wrap (8-(Int.tmod i 8))):Int)<k then((i64.wrap (8-(Int.tmod i 8))):Int)else k),X,ab i,ab (if((i64.wrap (8-(Int.tmod i 8))):Int)<k then((i64.wrap (8-(Int.tmod i 8))):Int)else k),.agg #[ab i,ab (if((i64.wrap (8-(Int.tmod i 8))):Int)<k then((i64.wrap (8-(Int.tmod i 8))):Int)else k)],ae a,ae (!a),ab i,ab (if((i64.wrap (8-(Int.tmod i 8))):Int)<k then((i64.wrap (8-(Int.tmod i 8))):Int)else k),ab (i64.wrap (i+(if((i64.wrap (8-(Int.tmod i 8))):Int)<k then((i64.wrap (8-(Int.tmod i 8))):Int)else k))),ab k,ab (if((i64.wrap (8-(Int.tmod i 8))):Int)<k then((i64.wrap (8-(Int.tmod i 8))):Int)else k),ab (i64.wrap (k-(if((i64.wrap (8-(Int.tmod i 8))):Int)<k then((i64.wrap (8-(Int.tmod i 8))):Int)else k)))])) b)) (R (.tuple #[]) w)):=by kernel_rfl
end
section
theorem jL {v:aG}(h:cn w bF 0 v.cells)
  (d:K v.Kind v.Node v.cL v.N v.Old v.ai v.Words v.dh v.c8 v.Key v.cK) :
  ∃ (Kind:Int) (Node:Int) (a:Int) (N:Int) (Old:Int) (ai:Int) (Words:ak) (c:Nat) (b:Nat) (Key:Int) (cK:Int),
   cn w bF 0 [.int .i64 Kind,.int .i64 Node,.int .i64 a,.int .i64 N,.int .u64 Old,.int .u64 ai,.slice Words c b,.int .u64 Key,.int .i64 cK]/\K Kind Node a N Old ai Words c b Key cK:=
 ⟨_,_,_,_,_,_,_,_,_,_,_,h,d⟩
theorem nG {S:aJ}{v:aG}(h:∀ u,S u->cn u bF 0 v.cells)
  (d:K v.Kind v.Node v.cL v.N v.Old v.ai v.Words v.dh v.c8 v.Key v.cK) :
  ∃ (Kind:Int) (Node:Int) (a:Int) (N:Int) (Old:Int) (ai:Int) (Words:ak) (c:Nat) (b:Nat) (Key:Int) (cK:Int),
   (∀ u,S u->cn u bF 0 [.int .i64 Kind,.int .i64 Node,.int .i64 a,.int .i64 N,.int .u64 Old,.int .u64 ai,.slice Words c b,.int .u64 Key,.int .i64 cK])/\K Kind Node a N Old ai Words c b Key cK:=
 ⟨_,_,_,_,_,_,_,_,_,_,_,h,d⟩
abbrev cP:bY:=158
theorem hB {b:Nat}{v:aG}(h:av w b v.cells cP):cn w ⟨b,0,none⟩ 0 v.cells:=bX h (by grind)
theorem pF (w:an)(v:aG):av (w.alloc (.cells v.cells.toArray cP)) w.heap.size v.cells cP:=pn _ _ _
def aG.count (v:aG):Int:=if v.Kind=1 then v.N else if v.Kind=2 then v.dh else if v.Kind=3\/v.Kind=4 then 1 else 0
theorem wJ (w:an)(v:aG):a5 130 [v.val] w λx w'=>x=.int .i64 v.count/\ai w w':=by
 refine ba Tryz.func130 ?_;refine Eq.mpr (K3 v.Kind v.Node v.cL v.N v.Old v.ai v.Words v.dh v.c8 v.Key v.cK w _) ?_;rintro b1 w1 rfl rfl;have b:=pF w v;have a:=hF w (.cells v.cells.toArray cP);refine⟨_,b.cell rfl,eg (λd=>⟨_,b.cell rfl,?_,a⟩) (λd=>eg (λe=>⟨_,_,_,b.cell rfl,?_,a⟩) (λe=>eg (λc=>eg (λ_=>⟨?_,a⟩) (λh=>cp c h)) (λc=>eg (λf=>⟨?_,a⟩) (λf=>⟨?_,a⟩))))⟩
 ·grind[aG.count]
 ·grind[aG.count]
 ·grind[aG.count]
 ·grind[aG.count]
 grind[aG.count]
end
section
open Go.RowKit
def HR (x:Int×Int):ep:=#[.agg #[.int .i64 x.1,.int .i64 x.2]]
def hT:Nat->Int->Int->List (Int×Int)
 | 0,_,_=>[]
 |f+1,at_,left=>if left<=0 then [] else (at_,if 8 - at_ % 8<left then 8 - at_ % 8 else left)::
   hT f (at_+(if 8-at_ % 8<left then 8-at_ % 8 else left)) (left-(if 8-at_ % 8<left then 8-at_ % 8 else left))
def aG.pieces (v:aG):List (Int×Int):=hT v.count.toNat v.cL v.count
theorem K9 {w':an}(h:Go.bJ.ai w w'):w.grownBy w' none:=⟨h.os,h.tape,h.output,h.size,λk a _=>h.block k a id⟩
theorem MA {m:Nat}{l:Nat}{args:ep}{W:an}{R:Ending->aJ}(h:YieldAt Fence.wide m P l args W R)(k:Nat):YieldAt Fence.wide k P l args W R:=by obtain⟨fn,tmps,assign,body,b,a⟩:=h;exact⟨fn,tmps,assign,body,b,a.1,λc cs _=>a.2 c cs (room_wide _)⟩
theorem MB (n l d Q:Nat)(v:aG)(a w:List (Int×Int)->aJ)(A:0<=v.cL)(G:v.cL<=1000000)(H:1<=v.count)(I:v.count<=1000000)(W:an)
  (E:AbidesFrom W.heap.size a) (F:∀ pre x W,a pre W->pre.length<v.pieces.length->YieldAt Fence.wide (n-1) prog l (HR x) W λe W'=>
   (e=.returned (.bool true)/\a (pre++[x]) W'/\Below Q W W')\/(e=.returned (.bool false)/\w (pre++[x]) W'))
  (g:∀ u,Below (d+1) W u->cn u ⟨d,0,none⟩ 0 v.cells) (T:d+1<=W.heap.size) (D:a [] W) :
  CallsIn Fence.wide n prog 186 #[.func (.yield l) #[] #[],.pointer (some ⟨d,0,none⟩)] W λe W'=>(∃ v,e=.returned v)/\
   ((∃ ys,ys=v.pieces/\a ys W')\/(∃ pre,pre <+: v.pieces/\w pre W')):=by
 refine callsIn_wide.2 (Calls.mono (R:=λe w'=>∃ x,e=.returned x/\((∃ ys,ys=v.pieces/\a ys w')\/(∃ pre,pre <+: v.pieces/\w pre w'))) ?_ λe w' ⟨x,O,N⟩=>⟨⟨x,O⟩,N⟩);refine ba Tryz.func186 (args:=[.func (.yield l) #[] #[],.pointer (some ⟨d,0,none⟩)]) (R:=λ_ w'=>(∃ ys,ys=v.pieces/\a ys w')\/(∃ pre,pre <+: v.pieces/\w pre w')) ?_;rw[Zg];intro w1 t;have q:Go.bJ.ai W w1:=by rw[t];exact cR _
 clear t;have o:∀ u,Go.bJ.ai w1 u->Below (d+1) W u:=λu hu=>(q.new hu).below (by omega) λ_ _ h=>h
 refine⟨λu=>Go.bJ.ai w1 u,ao.refl _ _,v.cL,λu hu=>?_,?_⟩
 ·have:=g u (o u hu);exact this.2.2.1
 refine nG (v:=v) (λu hu=>g u (o u hu)) ?_;refine aB (wJ _ v) ?_;rintro r S ⟨rfl,s⟩;refine⟨_,rfl,s,?_⟩;have y:a [] S:=E _ _ _ none D (K9 (q.new s)) (λ_ h=>by cases h);refine cZ mix (λm env u=>∃ (f:Nat) (at_ left:Int) (aC:ax) (pre:List (Int×Int)),m=f/\left<=f/\0<=at_/\0<=left/\at_+left<=2000000/\env=yr (.func (.yield l) #[] #[]) at_ left aC/\v.pieces=pre++hT f at_ left/\a pre u) v.count.toNat
  ⟨v.count.toNat,v.cL,v.count,_,[],rfl,by omega,A,by omega,by omega,rfl,rfl,y⟩ ?_
 rintro f env u ⟨_,at_,left,aC,pre,rfl,L,B,hle,C,rfl,b,i⟩;rw[WU];refine bb (λM=>?_) (λM=>?_)
 ·obtain⟨f',rfl⟩:∃ f',f=f'+1:=⟨f-1,by omega⟩;have p:Int.tmod at_ 8=at_ % 8:=zq B
  rw[p,bI (x:=8-at_ % 8) (by omega) (by omega)];generalize J:(if 8-at_ % 8<left then 8-at_ % 8 else left)=k;have K:1<=k/\k<=left/\k<=8:=by grind
  have c:hT (f'+1) at_ left=(at_,k)::hT f' (at_+k) (left-k):=by rw[hT,aQ (by omega),J]
  rw[c]at b;have P:=MA (F pre (at_,k) u i (by grind)) 0;refine Exists.imp (λfn=>Exists.imp λtmps=>Exists.imp λassign=>Exists.imp λbody=>And.imp id λh=>RoundIn.mono h ?_) P;rintro e U (⟨rfl,z,_⟩ | ⟨rfl,j⟩)
  ·refine⟨_,rfl,dG rfl ?_⟩;rw[bI (by omega) (by omega),bI (by omega) (by omega)];refine⟨f',by omega,f',at_+k,left-k,_,pre++[(at_,k)],rfl,by omega,by omega,by omega,by omega,rfl,by grind,z⟩
  ·exact⟨_,rfl,hc rfl (.inr ⟨_,⟨hT f' (at_+k) (left-k),by grind⟩,j⟩)⟩
 ·refine .inl ⟨pre,?_,i⟩;have:left=0:=by omega
  subst this;rw[b];cases f<;>simp[hT]
end
section
open Go.RowKit
theorem yI:∀ (f:Nat) (at_ left:Int),0<=at_->∀ p ∈ hT f at_ left,at_<=p.1/\1<=p.2/\p.2<=8/\p.1+p.2<=at_+left
 | 0,_,_,_,p,a=>by grind[hT]
 |f+1,at_,left,b,p,a=>by
  unfold hT at a;split at a
  ·grind
  ·rename_i c;rcases f0.1 a with rfl | a
   ·grind
   ·have:=yI f _ _ (by grind) p a
    grind
theorem JW (f:Nat)(at_ left:Int)(h:1<=left)(a:1<=f):hT f at_ left≠[]:=by
 cases f with
 |zero=>omega
 |succ f=>unfold hT;grind
theorem tm:∀ (f:Nat) (at_ left:Int),(hT f at_ left).length<=f
 | 0,_,_=>by simp[hT]
 |f+1,at_,left=>by
  unfold hT;split
  ·simp
  ·simp only[h3];have:=tm f (at_+(if 8-at_ % 8<left then 8-at_ % 8 else left)) (left-(if 8-at_ % 8<left then 8-at_ % 8 else left));omega
def nT (cx:List (Int×Int)):List ax:=cx.map λp=>[.int .i64 p.1,.int .i64 p.2]
theorem M0 (cx:List (Int×Int)):∀ r ∈ nT cx,r.length=2:=by
 grind[nT]
theorem M1 {cx:List (Int×Int)}{p:Int×Int}(h:cx[i]?=some p):(nT cx)[i]?=some [.int .i64 p.1,.int .i64 p.2]:=by grind[nT]
abbrev rk:bY:=185
end
section
open Go.RowKit
theorem AY (hm:P.follows .mixedOrders=true){a b:Code}(h:W P a env (aZ N (λ_ _ _=>False)) w)(i:∀ env w,N env w->b.wp P Q (act env) w):(Code.seq a b).wp P Q (act env) w:=by
 refine wp_seq (wp_mono (qF hm a env _ w h) λe k w' f=>?_);obtain⟨he,d,j,g⟩:=rP f;subst j;clear f;cases e with
 |normal=>exact i d w' g
 |panic c=>grind
 |outgrown=>grind
 | _=>exact g.elim
theorem O3 (w:an)(v:aG):a5 138 [v.val] w λr w'=>r=.func (.func 186) #[] #[.pointer (some ⟨w.heap.size,0,none⟩)]/\av w' w.heap.size v.cells cP/\Go.bJ.ai w w'/\w'.heap.size=w.heap.size+1:=by refine ba Tryz.func138 ?_;refine Eq.mpr (KE v.Kind v.Node v.cL v.N v.Old v.ai v.Words v.dh v.c8 v.Key v.cK w _) ?_;rintro b1 w1 a b;obtain⟨aq,c⟩:=bo a b;refine⟨by rw[a],a▸aq,c,by simp_all⟩
theorem Qs (v:aG)(w:an)(N:ax->aJ):W prog (sub (bu f98) [0]) [v.val,undef,undef,undef,undef,undef,undef,undef,undef,undef,undef,undef,undef] (aZ N (λ_ _ _=>False)) w =
  (∀ b1 w1,b1=w.heap.size->w1=w.alloc (.cells v.cells.toArray 158)->N [v.val,.pointer (some ⟨b1,0,none⟩),.slice none 0 0,undef,undef,undef,undef,undef,undef,undef,undef,undef,undef] w1):=by kernel_rfl
theorem Qt (v x:bf)(b:Nat)(w:an)(N:ax->aJ):W prog (sub (bu f98) [1,0]) [v,.pointer (some ⟨b,0,none⟩),x,undef,undef,undef,undef,undef,undef,undef,undef,undef,undef] (aZ N (λ_ _ _=>False)) w =
  (∀ b1 w1,b1=w.heap.size->w1=w.alloc (.cells #[.slice none 0 0] 181)->N [v,.pointer (some ⟨b,0,none⟩),x,.pointer (some ⟨b1,0,none⟩),undef,undef,undef,undef,undef,undef,undef,undef,undef] w1):=by kernel_rfl
def z7 (o:Oper):Bool:=match o.op with |.defer _=>false | _=>true
def plain:Code->Bool
 |.region _ ops false=>ops.toList.all z7
 | _=>false
theorem MC {o:Oper}{a:Act}{next next':Act->aJ}(r n:Nat)(j:∀ a w,next a w->next' a w):∀ {x:Result Next},o.uponIn Fence.wide 0 P a next Q x->o.uponIn (Fence.wide.inRound r) n P a next' Q x
 |.ok (.value v) w',h=>j _ _ h
 |.ok .skip w',h=>j _ _ h
 |.ok (.defer d) w',h=>j _ _ h
 |.ok (.enter f args) w',h=>by
  refine⟨λb=>by simp[Fence.wide]at b,trivial,λcs _=>?_⟩;obtain⟨e,i,p,k,g,q⟩:=h.2.2 cs (room_wide _);refine⟨e,i,p,?_,g,q⟩
  grind
 |.ok (.row row args) w',h=>by refine⟨λb=>by simp[Fence.wide]at b,λc cs _=>?_⟩;obtain⟨v,i,k,g⟩:=h.2 c cs (room_wide _);exact⟨v,i,j _ _ k,g⟩
 |.ok (.round l f tmps assign body) w',h=>by
  refine⟨λb=>by simp[Fence.wide]at b,trivial,λc cs _=>?_⟩;obtain⟨e,i,k,g⟩:=h.2.2 c cs (room_wide _);refine⟨e,i,?_,g⟩
  grind
 |.halt (.panic v) w',h=>h
 |.halt (.stuck s) w',h=>by cases h
theorem CV {P:df}{ops:Array Oper}{Q:Exit->Act->aJ}(r n:Nat):∀ (l:gK) (a:Act) (w:an),(∀ o ∈ l,z7 o=true)->wpListIn Fence.wide 0 P ops Q l a w->wpListIn (Fence.wide.inRound r) n P ops Q l a w
 | [],_,_,_,h=>h
 |o::l,a,w,d,h=>by
  have g:=λa w=>CV (P:=P) (ops:=ops) (Q:=Q) r n l a w λo e=>d o (fG _ e)
  unfold wpListIn at h ⊢;split at h
  ·rename_i hw;rw[bh hw];refine⟨λ_ _=>trivial,?_⟩;have b:=h.2;rw[show Fence.wide.round=none from rfl,Oper.semAt_none]at b;rw[show(Fence.wide.inRound r).round=some r from rfl,Oper.semAt_some _ _ _ (λc f=>by grind[List.mem_cons_self,z7])]
   grind[MC]
  simp_all
theorem Fe {c:Code}(e:plain c=true){Q:Exit->ax->aJ}(r n:Nat)(h:W P c env Q w):c.wpIn (Fence.wide.inRound r) n P (q6 Q) (act env) w:=by
 cases c with
 |region id ops d=>
  cases d with
  |true=>grind[plain]
  |false=>
   unfold W at h;refine wpIn_region_list (CV r n _ _ _ (λo b=>?_) (pz (all:=ops.toList) ops.toList env w (Q .normal) (λenv w a=>jW a ⟨λ_=>by simp,by simp⟩) h))
   grind[plain,List.all_eq_true]
 | _=>grind[plain]
theorem Qu (v x:bf)(b h:Nat)(w:an)(N:ax->aJ):W prog (sub (bu f98) [1,1,0,0]) [v,.pointer (some ⟨b,0,none⟩),x,.pointer (some ⟨h,0,none⟩),undef,undef,undef,undef,undef,undef,undef,undef,undef] (aZ N (λ_ _ _=>False)) w =
  (∃ (Kind:Int) (Node:Int) (f:Int) (g:Int) (Old:Int) (ai:Int) (Words:ak) (c:Nat) (a:Nat) (Key:Int) (d:Int),cn w ⟨b,0,none⟩ 0 [(.int .i64 Kind),(.int .i64 Node),(.int .i64 f),(.int .i64 g),(.int .u64 Old),(.int .u64 ai),(.slice Words c a),(.int .u64 Key),(.int .i64 d)]/\
   Calls prog 138 #[(.agg #[(.int .i64 Kind),(.int .i64 Node),(.int .i64 f),(.int .i64 g),(.int .u64 Old),(.int .u64 ai),(.slice Words c a),(.int .u64 Key),(.int .i64 d)])] w λe i=>∃ r,e=.returned r/\
    N [v,.pointer (some ⟨b,0,none⟩),x,.pointer (some ⟨h,0,none⟩),undef,(.agg #[(.int .i64 Kind),(.int .i64 Node),(.int .i64 f),(.int .i64 g),(.int .u64 Old),(.int .u64 ai),(.slice Words c a),(.int .u64 Key),(.int .i64 d)]),r,undef,undef,undef,undef,undef,undef] i):=by kernel_rfl
theorem R' (v x y z r:bf)(a:Nat)(p:Int×Int)(w:an)(N:ax->aJ):W prog (sub (bu f98) [1,1,0,1,0,0]) [v,y,x,.pointer (some ⟨a,0,none⟩),undef,z,r,.agg #[.int .i64 p.1,.int .i64 p.2],undef,undef,undef,undef,undef] (aZ N (λ_ _ _=>False)) w =
  (∀ b1 w1,b1=w.heap.size->w1=w.alloc (.cells #[.int .i64 0,.int .i64 0] rk)->ej w1 ⟨b1,0,none⟩ 0 [.int .i64 p.1,.int .i64 p.2]/\∀ b,b=cI w1 ⟨b1,0,none⟩ 0 [.int .i64 p.1,.int .i64 p.2]->
   N [v,y,x,.pointer (some ⟨a,0,none⟩),.pointer (some ⟨b1,0,none⟩),z,r,.agg #[.int .i64 p.1,.int .i64 p.2],undef,undef,undef,undef,undef] b):=by kernel_rfl
theorem Sa (v x y z r t:bf)(e g:Nat)(w:an)(N:ax->aJ):W prog (sub (bu f98) [1,1,0,1,0,1,0]) [v,y,x,.pointer (some ⟨e,0,none⟩),.pointer (some ⟨g,0,none⟩),z,r,t,undef,undef,undef,undef,undef] (aZ N (λ_ _ _=>False)) w =
  (∃ (a:ak) (n c:Nat),w.cell? ⟨e,0,none⟩=some (.slice a n c)/\∃ (h i:Int),cn w ⟨g,0,none⟩ 0 [.int .i64 h,.int .i64 i]/\∀ b1 w1,b1=w.heap.size->w1=w.alloc (.cells #[.int .i64 h,.int .i64 i] rk)->
   ∃ (ap:ak) (d b:Nat),∃ f,(Builtin.append_ #[181,181] 181 #[(.slice a n c),(.slice (some ⟨b1,0,none⟩) 1 1)]).run prog w1=.ok (.slice ap d b) f/\
    (∃ u,f.cell? ⟨e,0,none⟩=some u)/\f.frozen? ⟨e,0,none⟩=false/\∀ j,j=f.setCell ⟨e,0,none⟩ (.slice ap d b)->
    N [v,y,x,.pointer (some ⟨e,0,none⟩),.pointer (some ⟨g,0,none⟩),z,r,t,.slice a n c,.agg #[.int .i64 h,.int .i64 i],.slice (some ⟨b1,0,none⟩) 1 1,.slice ap d b,undef] j):=by kernel_rfl
end
section
open Go.RowKit Go.Shelf
abbrev o5:bY:=181
theorem MD (cx:List (Int×Int))(p:Int×Int):(nT (cx++[p])).flatten=(nT cx).flatten++[.int .i64 p.1,.int .i64 p.2]:=by simp[nT]
def xE (w:an)(b B:Nat)(pre:List (Int×Int))(u:an):Prop:=
 ∃ a cap,av u b [.slice a pre.length cap] o5/\aX u rk 2 a pre.length cap (nT pre).flatten/\(∀ k,aP a k->w.heap.size<=k/\k≠b)/\Go.bJ.ai w u/\B<=u.heap.size
theorem uK {W W':an}{row:Option Nat}{k:Nat}{cs:ax}{T:bY}(d:∀ r,row=some r->B<=r/\∃ o:Obj,W.heap[r]?=some o/\o.isCells=false)(b:av W k cs T):some k≠row:=by intro h;obtain⟨_,o,a,c⟩:=d k h.symm;rw[show W.heap[k]?=_ from b]at a;cases a;simp[Obj.isCells]at c
theorem Qz {l:Nat}(r:w.heap.size<=B):OwnFrom B (xE w l B):=by
 rintro pre W W' row ⟨a,cap,d,i,n,p,q⟩ f j;have c:=tp f;refine⟨a,cap,c.aj d (uK (W':=W') j d),?_,n,p.trans c (λk o e=>?_),mK q f.size⟩
 ·refine⟨i.1,?_⟩;rcases i.2 with h | ⟨g,cur,he,b,rest⟩
  ·grind
  ·exact .inr ⟨g,cur,he,c.aj b (uK (W':=W') j b),rest⟩
 grind
def pQ (v:bf)(b1 b c a:Nat)(x:Int×Int):ax:=
 [v,.pointer (some ⟨b1,0,none⟩),.slice none 0 0,.pointer (some ⟨b,0,none⟩),.pointer (some ⟨c,0,none⟩),v,.func (.func 186) #[] #[.pointer (some ⟨a,0,none⟩)],.agg #[.int .i64 x.1,.int .i64 x.2],undef,undef,undef,undef,undef]
theorem B8 {W W':an}(h:ao M W W')(b:∀ k,M k->∃ cs T,av W k cs T):KeepsFrom B W W':=
 ⟨h.size,λk o _ a d=>by refine(h.block k (Cn.1 a).1 (λhm=>?_)).trans a;obtain⟨cs,T,c⟩:=b k hm;rw[show W.heap[k]?=_ from c]at a;cases a;simp[Obj.isCells]at d⟩
theorem M3 {K:Act->aJ}(h:∀ env w,N env w->K (act env) w):∀ e a w,q6 (aZ N (λ_ _ _=>False)) e a w->Exit.then K Q e a w:=by
 intro e a w d;obtain⟨he,env,rfl,b⟩:=rP d;cases e with
 |normal=>exact h _ _ b
 |panic c=>grind
 |outgrown=>grind
 | _=>exact b.elim
theorem Ly (w i:an)(v:aG)(b1 b f:Nat)(af:0<=v.cL)(ag:v.cL<=1000000)(aQ:1<=v.count)(aR:v.count<=1000000)
  (aB:av i b [.slice none 0 0] o5) (ad:av i f v.cells cP) (a':i.heap.size=f+1) (bx:Go.bJ.ai w i) (hle:w.heap.size<=b) (Q:Exit->Act->aJ)
  (dQ:∀ D W,i.heap.size<=D->xE w b i.heap.size v.pieces W->W.heap[D]?=some (.deferred (some []))->Q .normal {tmps:=(pQ v.val b1 b 0 f (0,0)).toArray.setIfInBounds 4 undef |>.setIfInBounds 7 undef,defers:=[{target:=.collected D,args:=#[]}]} W) :
  (Code.rangeFunc (.tmp 6) #[7] (sub (bu f98) [1,1,0,1,0,0]) (.block 1 (sub (bu f98) [1,1,0,1,0,1,0]))).wpIn Fence.wide 3 prog Q
   {tmps:=(pQ v.val b1 b 0 f (0,0)).toArray.setIfInBounds 4 undef |>.setIfInBounds 7 undef,defers:=[]} i:=by
 have bb:w.heap.size<=i.heap.size:=bx.size;obtain⟨inf,b0,aq,L,bV⟩:=fV (T:=rk) (z:=.agg #[.int .i64 0,.int .i64 0]) (n:=2) (m:=16) (by kernel_rfl);have a5:v.pieces.length<=1000000:=by grind[tm,aG.pieces]
 refine wpIn_rangeFunc_ownH rfl (by omega) (gf:=186) (lb:=#[.pointer (some ⟨f,0,none⟩)]) rfl trivial (enters_of Tryz.func186 (by kernel_rfl) rfl)
  (encs:=HR) (Kp:=Below w.heap.size) (S:=λys=>ys=v.pieces) (Sp:=λpre=>pre <+: v.pieces) (N:=v.pieces.length) (w0:=i)
  (λl bC bD W fu bK bM bO ab=>MB 2 l f w.heap.size v bC bD af ag aQ aR W bK bO (λu hu=>?_) (by have:=fu.size;omega) ab)
  belowK_t (belowK_b (by omega)) (Below.refl _ _) (λ_=>rfl) (xE w b i.heap.size) (λ_ _ _=>False) (Qz bb) (λ_ _ _ _ _ a8 _ _=>a8)
  ⟨none,0,aB,aX.nil _ _ _,(λk d=>by obtain⟨o,M⟩:=d;cases M),bx,db _⟩
  (λx Z W=>∃ y,Z=act (pQ v.val b1 b y f x)/\av W y [.int .i64 x.1,.int .i64 x.2] rk) ?own ?assign ?body ?done ?stop
 ·have b5:=a'▸fu;have bI:av u f v.cells cP:=by show u.heap[f]?=_;rw[hu.block f (by omega),fu.block f (by omega)];exact ad
  exact hB bI
 case own=>rintro x Z _ W W' row ⟨y,bP,bq⟩ br b3;exact⟨y,bP,(tp br).aj bq (uK (W':=W') b3 bq)⟩
 case assign=>
  intro l pre x W K ae bN;suffices a8:∀ a:Act,a=act ((pQ v.val b1 b 0 f x).set 4 undef)->Code.wpIn (Fence.wide.inRound l) (3-1-1) prog (sub (bu f98) [1,1,0,1,0,0]) (Exit.then K (λ_ _ _=>False)) a W from a8 _ (by kernel_rfl)
  rintro _ rfl;refine wpIn_mono (Fe (by kernel_rfl) l _ (Q:=aZ (λenv u=>K (act env) u) (λ_ _ _=>False)) (env:=(pQ v.val b1 b 0 f x).set 4 undef) ?_) (M3 λ_ _ h=>h);refine Eq.mpr (R' v.val (.slice none 0 0) (.pointer (some ⟨b1,0,none⟩)) v.val (.func (.func 186) #[] #[.pointer (some ⟨f,0,none⟩)]) b x W _) ?_;rintro y w1 H ba;obtain⟨Y,aV⟩:=bo H ba;refine⟨gq Y (by simp) (by intro u hu;rcases f0.1 hu with rfl | hu;rfl;simp at hu;subst hu;rfl),?_⟩;rintro bA V;have bj:av bA y [.int .i64 x.1,.int .i64 x.2] rk:=by rw[V];exact Y.cI
  have d:Go.bJ.ai W bA:=by rw[V];refine aV.trans (ir _ _ _ _ _) (λk d e=>?_);omega
  obtain⟨a,cap,p,C,G,q,J⟩:=ae;refine bN _ _ (B8 d (λk h=>h.elim)) (d.below q.size (λ_ _ h=>h)) ⟨a,cap,ai.aj d p,aX.new d C,G,q.new d,mK J d.size⟩ ⟨y,rfl,bj⟩
 case body=>
  rintro l pre x Z W b7 _ ae ⟨y,rfl,H⟩ b2;refine wpIn_block ?_;refine wpIn_mono (Fe (by kernel_rfl) l _ (Q:=aZ (λenv u=>KeepsFrom i.heap.size W u/\Below w.heap.size W u/\xE w b i.heap.size (pre++[x]) u) (λ_ _ _=>False)) (env:=pQ v.val b1 b y f x) ?_) ?_
  ·refine Eq.mpr (Sa v.val (.slice none 0 0) (.pointer (some ⟨b1,0,none⟩)) v.val (.func (.func 186) #[] #[.pointer (some ⟨f,0,none⟩)]) (.agg #[.int .i64 x.1,.int .i64 x.2]) b y W _) ?_;obtain ⟨a,cap,p,C,G,q,J⟩:=ae;refine ⟨a,pre.length,cap,p.cell rfl,x.1,x.2,bX H (by simp),?_⟩;rintro bH b8 aO bh;obtain ⟨bk,B⟩:=bo aO bh;have F:=aX.new B C;rw [<-L] at F;obtain ⟨ap,j,bl,U,r,O,ah⟩:=aX.append (P:=prog) (t:=o5) (ty:=o5) Tryz.underlying181 b0 aq (by rw [L];rfl) (by omega) F
    (s:=some ⟨bH,0,none⟩) (m:=1) (c:=1) (news:=[.int .i64 x.1,.int .i64 x.2]) (by grind) (fj bk (by simp)) (by intro u hu;rcases f0.1 hu with rfl | hu;rfl;simp at hu;subst hu;rfl) (by omega) (by grind)
   rw[L]at r;have a0:¬ aP a b:=λh=>(G b h).2 rfl
   have I:av bl b [.slice a pre.length cap] o5:=O.aj (ai.aj B p) a0;refine⟨ap,pre.length+1,j,bl,U,⟨_,I.cell rfl⟩,I.frozen,?_⟩;rintro bm X;have R:ao (λk=>k=b) bl bm:=by rw[X];exact e4 _ _ _ _
   have bT:av bm b [.slice ap (pre.length+1) j] o5:=by rw[X];exact I.setCell _
   have aH:b<W.heap.size:=p.lt;have E:∀ k,aP ap k->w.heap.size<=k/\k≠b:=by
    intro k d;rcases ah with e | e
    ·grind
    ·obtain⟨o,M⟩:=d;rw[e]at M;simp at M;have:=B.size;omega
   have A:ao (λk=>aP a k\/k=b) W bm:=(((ao.cm B).trans O (λ_ _ h=>.inl h)).trans R (λ_ _ h=>.inr h));refine⟨B8 A (λk d=>?_),A.below q.size (λk d hm=>?_),ap,j,?_,?_,E,?_,mK J A.size⟩
   ·rcases d with d | rfl
    ·rcases C.2 with⟨he,_⟩ | ⟨g,cur,he,br,_⟩
     ·obtain⟨o,M⟩:=d;grind
     ·obtain⟨o,M⟩:=d
      grind
    grind
   ·grind
   ·grind
   ·rw[MD];have:=aX.aA R r (λk d=>(E k d).2)
    grind
   ·refine q.trans A (λk d hm=>?_)
    grind
  ·intro e a w ab;obtain⟨he,env,rfl,bz⟩:=rP ab;cases e with
   |normal=>exact bz
   |panic c=>grind
   |outgrown=>grind
   | _=>exact bz.elim
 case done=>
  grind
 grind
abbrev Ff (v:bf)(b1 b a:Nat):ep:=(pQ v b1 b 0 a (0,0)).toArray.setIfInBounds 4 undef |>.setIfInBounds 7 undef
theorem Lz (v:bf)(b1 b c D:Nat)(R:Ending->aJ)(W:an)(a:ak)(n cap:Nat)(f:av W b [.slice a n cap] o5)(d:W.heap[D]?=some (.deferred (some [])))(e:R (.returned (.slice a n cap)) (W.putObj D (.deferred none))) :
  (sub (bu f98) [1,1,1]).wpIn Fence.wide 3 prog (bodyPostM Fence.wide 3 prog f98 R) {tmps:=Ff v b1 b c,defers:=[{target:=.collected D,args:=#[]}]} W:=by
 have g:W.cell? ⟨b,0,none⟩=some (.slice a n cap):=f.cell rfl;simp only[bu,sub,f98,Ff,pQ]
 gi_wp2
 refine⟨by simp,.inl ⟨_,_,rfl,run_takeDeferred d,?_⟩⟩;exact⟨_,results_tmp (t:=2) rfl _ _ _,e⟩
theorem O4 (w:an)(v:aG)(s:0<=v.cL)(t:v.cL<=1000000)(y:1<=v.count)(z:v.count<=1000000):a5 98 [v.val] w λx w'=>
  ∃ a cap,x=.slice a v.pieces.length cap/\aX w' rk 2 a v.pieces.length cap (nT v.pieces).flatten/\Go.bJ.ai w w'/\(∀ k,aP a k->w.heap.size<=k):=by
 refine(callsIn_wide (n:=3)).1 ?_;refine callsIn_of_wp_marks (c:=.seq (sub (bu f98) [0]) (.seq (sub (bu f98) [1,0]) (.seq (.seq (sub (bu f98) [1,1,0,0]) (.block 0 (.rangeFunc (.tmp 6) #[7] (sub (bu f98) [1,1,0,1,0,0]) (.block 1 (sub (bu f98) [1,1,0,1,0,1,0]))))) (sub (bu f98) [1,1,1])))) Tryz.func98 (by kernel_rfl) trivial ?_ rfl;suffices K:∀ a:Act,a=act [v.val,undef,undef,undef,undef,undef,undef,undef,undef,undef,undef,undef,undef]->Code.wpIn Fence.wide 3 prog _ _ a w from K _ (by kernel_rfl)
 rintro _ rfl;refine wpIn_wide.2 ?_;refine AY mix (N:=λenv u=>∃ b1,env=[v.val,.pointer (some ⟨b1,0,none⟩),.slice none 0 0,undef,undef,undef,undef,undef,undef,undef,undef,undef,undef]/\b1=w.heap.size/\av u b1 v.cells cP/\Go.bJ.ai w u/\u.heap.size=b1+1) ?_ ?_
 ·rw[Qs];rintro b1 w1 f hw;obtain⟨aq,o⟩:=bo f hw
  simp_all
 rintro _ w1 ⟨b1,rfl,P,E,B,R⟩;refine AY mix (N:=λenv u=>∃ d,env=[v.val,.pointer (some ⟨b1,0,none⟩),.slice none 0 0,.pointer (some ⟨d,0,none⟩),undef,undef,undef,undef,undef,undef,undef,undef,undef]/\d=w1.heap.size/\av u d [.slice none 0 0] o5/\av u b1 v.cells cP/\Go.bJ.ai w u) ?_ ?_
 ·rw[Qt];rintro d L f hw;obtain⟨aq,o⟩:=bo f hw;exact⟨d,rfl,f,aq,ai.aj o E,B.new o⟩
 rintro _ L ⟨d,rfl,Q,F,p,C⟩;refine wp_seq ?_;refine AY mix (N:=λenv u=>∃ l,env=[v.val,.pointer (some ⟨b1,0,none⟩),.slice none 0 0,.pointer (some ⟨d,0,none⟩),undef,v.val,.func (.func 186) #[] #[.pointer (some ⟨l,0,none⟩)],undef,undef,undef,undef,undef,undef]/\av u d [.slice none 0 0] o5/\av u l v.cells cP/\u.heap.size=l+1/\Go.bJ.ai w u) ?_ ?_
 ·rw[Qu];refine jL (v:=v) (hB p) ?_;refine aB (O3 _ v) ?_;rintro r M ⟨rfl,i,b,j⟩;exact⟨_,rfl,L.heap.size,rfl,ai.aj b F,i,j,C.new b⟩
 rintro _ M ⟨l,rfl,G,i,j,b⟩;refine(wpIn_wide (n:=3)).1 (wpIn_block ?_);refine Ly w M v b1 d l s t y z G i j b (by grind) _ ?_;rintro D W S ⟨a,cap,f,J,O,o,K⟩ q;refine(wpIn_wide (n:=3)).1 (Lz v.val b1 d l D _ W a _ cap f q ?_);have A:Go.bJ.ai w (W.putObj D (.deferred none)):=by refine o.trans (tp (grownBy_putObj' W D _)) (λk I e=>?_);simp at e;have:=b.size;omega
 have H:∀ k cs T,av W k cs T->av (W.putObj D (.deferred none)) k cs T:=by
  intro k cs T f;refine(tp (grownBy_putObj' W D (.deferred none))).aj f (λe=>?_)
  simp at e;subst e;rw[show W.heap[k]?=_ from f]at q;cases q
 refine⟨_,rfl,a,cap,rfl,?_,A,λk I=>(O k I).1⟩;refine⟨J.1,?_⟩;rcases J.2 with h | ⟨g,cur,he,U,rest⟩
 ·grind
 grind
theorem Ot (w:an)(v:aG)(b:0<=v.cL)(c:v.cL<=1000000)(d:1<=v.count)(f:v.count<=1000000):a5 98 [v.val] w λx w'=>
  ∃ a cap,x=.slice a v.pieces.length cap/\bl w' a (nT v.pieces).flatten/\Go.bJ.ai w w'/\(∀ k,aP a k->w.heap.size<=k):=
 Calls.mono (O4 w v b c d f) λe w' ⟨x,he,a,cap,j,i,h,g⟩=>⟨x,he,a,cap,j,aX.rd i,h,g⟩
end
end Go.Proofs.YtmkljjbioomepaaGreat
