import Derived.Test.YtmkljjbioomepaaGreatb02
import Derived.Test.YtmkljjbioomepaaGreatb03
import Derived.Test.YtmkljjbioomepaaGreatProg
import Derived.RangeFuncNested
import Derived.RangeFuncBound
import Derived.RangeFuncCalls
import Derived.RangeFuncLeaves
set_option linter.all false
set_option maxHeartbeats 4000000
set_option maxRecDepth 100000
namespace Go.Proofs.YtmkljjbioomepaaGreat
open Go.Proofs.Tryz Go.bu
variable {K:Int->Int->Int->Int->Int->Int->an->Nat->Nat->Int->Int->Prop} {L l:List aY} {M:a3} {P:Program} {Q:Exit->Act->aE} {a:an} {bx:aS} {c i:Nat} {env:ax} {m:aY} {n:Int} {r:c3} {v:aG} {w:ak}
section
abbrev eI:TypeId:=116
abbrev nb:TypeId:=35
abbrev zP:TypeId:=33
def gj (l:List aY):List ax:=l.map aY.cells
theorem IN (l:List aY) (m:aY):(gj (l++[m])).flatten=(gj l).flatten++m.cells:=by simp [gj]
structure jf where
 number:Int
 mem:List aY
def jI:aY:=⟨0,0,false⟩
def j' (n:Int) (l:List aY) (i:Nat):Bool:=
 decide (0<=(l.getD i jI).Node/\(l.getD i jI).Node<n) && (decide (i=0) || decide ((l.getD (i - 1) jI).Node<(l.getD i jI).Node))
def mI (m:aY):Bool:=decide (1<=m.cn/\m.cn<=31)
def jf.valid (v:jf) (n:Int):Int:=
 if ¬ (1<=n/\n<=5) then 1 else if v.number<0\/16<=v.number then 2 else if v.mem.length=0 then 1
 else if (List.range v.mem.length).all (j' n v.mem)=false then 1 else if v.mem.all mI=false then 2 else if v.mem.any aY.Full=false then 13 else 0
structure gd (M:a3) (w:ak) (r:c3) (v:jf):Prop where
 num:r.Number=v.number
 len:r.ei=v.mem.length
 cap:r.ei<=r.eA
 rd:bh w r.ed (gj v.mem).flatten
 off:(gj v.mem).flatten=[]\/gl M r.ed
 small:v.mem.length<=1000000
theorem gd.new {M:a3} {w w':ak} {r:c3} {v:jf} (h:gd M w r v) (a:ai w w'):gd M w' r v:=⟨h.num,h.len,h.cap,h.rd.new a,h.off,h.small⟩
theorem Jw (w:ak) (n:Int):a9 200 [.int .i64 n] w λv w'=>v=.bool (decide (1<=n/\n<=5))/\w'=w:=by
 refine bc Tryz.func200 ?_;rw [Vs];refine a8 (λh=>⟨?_,rfl⟩) (λh=>⟨?_,rfl⟩)
 ·congr 1;simp;omega
 ·congr 1;simp;omega
theorem Ko (w:ak) (m:aY):a9 202 [m.val] w λv w'=>v=.bool m.Full/\ai w w':=by refine bc Tryz.func202 ?_;rw [VE];rintro b1 w1 a b;obtain ⟨au,c⟩:=bl a b;exact ⟨_,au.cell rfl,rfl,c⟩
theorem NB:ij prog 202=true:=by kernel_rfl
section
attribute [local irreducible] ij iX mT
theorem Io (h:bh w a (gj l).flatten) (t:l.length<=1000000) :
  a9 234 [.slice a l.length c,.func (.func 202) #[] #[]] w λv w'=>∃ z:Int,v=.int .i64 z/\(decide (z>=0)=l.any aY.Full)/\ai w w':=by
 refine bc Tryz.func234 ?_;rw [P2];refine c2 mix (λm env u=>∃ (i:Nat) (n:ax),m=l.length - i/\i<=l.length/\env=wz a l.length c (.func (.func 202) #[] #[]) l.length i n/\ai w u/\(l.take i).any aY.Full=false) l.length
  ⟨0,_,by omega,by omega,rfl,ao.refl _ _,rfl⟩ ?_
 rintro m env u ⟨i,n,rfl,s,rfl,g,d⟩;rw [PZ];refine a8 (λr=>?_) (λr=>?_)
 ·have e:i<l.length:=by omega
  have k:l[i]?=some l[i]:=bD e;refine er (cells:=aY.cells) aY.len (by omega) (h.new g) k rfl rfl λb o q _=>aY.aR l[i] ⟨q,?_⟩
  refine q2 NB (xs:=#[l[i].val]) (by simp) ?_;refine aC (Ko _ l[i]) ?_;rintro v bE ⟨rfl,f⟩;refine ⟨_,rfl,fX (λj=>⟨i,rfl,?_,g.new f⟩) (λj=>?_)⟩
  ·have p:l.any aY.Full=true:=p6.2 ⟨l[i],jS e,j⟩;rw [p];simp
  ·rw [bC (by omega) (by omega)];refine ⟨l.length - (i+1),by omega,i+1,_,rfl,by omega,rfl,g.new f,?_⟩;rw [fc,k,List.any_append,d];simpa using j
 ·rw [PY];have:l.take i=l:=hS (by omega);rw [this] at d;exact ⟨-1,rfl,by rw [d];decide,g⟩
end
theorem VF (h:bh w a (gj l).flatten) (b:l.length<=1000000) :
  a9 201 [.slice a l.length c,.func (.func 202) #[] #[]] w λv w'=>v=.bool (l.any aY.Full)/\ai w w':=by
 refine bc Tryz.func201 ?_;rw [P6];refine aC (Io h b) ?_;rintro v w1 ⟨z,rfl,au,d⟩;exact ⟨_,rfl,by rw [au],d⟩
theorem xC {p:Nat->Bool} {n:Nat} (a:i<n) (h:p i=false):(List.range n).all p=false:=by rw [yr];exact ⟨i,fJ.2 a,by simp [h]⟩
theorem oG {α:Type} {l:List α} {x d:α} (h:l[i]?=some x):l.getD i d=x:=by rw [dF,h];rfl
theorem CO {v:jf} (h:gd M w r v) (n:Int):a9 166 [r.val,.int .i64 n] w λx w'=>x=.int .i64 (v.valid n)/\ai w w':=by
 refine bc Tryz.func166 ?_;rw [HD];rintro b1 w1 T P;obtain ⟨au,g⟩:=bl T P;have au:av w1 b1 r.cells nb:=au;clear P;have V3:=h.small;have hlen:=h.len;have V5:=h.num;unfold jf.valid;refine aC (Jw _ n) ?_;rintro x V7 ⟨rfl,rfl⟩;refine ⟨_,rfl,ev (λS=>?_) (λS=>?_)⟩
 ·rw [if_pos (by simpa using S)];exact ⟨rfl,g⟩
 have N:1<=n/\n<=5:=by simpa using S
 rw [if_neg (λe=>e N)];refine ⟨_,au.cell rfl,a8 (λV9=>?_) (λV9=>⟨_,au.cell rfl,a8 (λY=>?_) (λY=>?_)⟩)⟩
 ·rw [if_pos (by omega)];exact ⟨rfl,g⟩
 ·rw [if_pos (by omega)];exact ⟨rfl,g⟩
 rw [if_neg (by omega)];refine ⟨_,_,_,au.cell rfl,dY (λV8=>?_) (λV8=>⟨_,_,_,au.cell rfl,?_⟩)⟩
 ·rw [if_pos (by omega)];exact ⟨rfl,g⟩
 rw [if_neg (by omega)];refine c2 mix (λm env u=>∃ (i:Nat) (Q:ax),m=v.mem.length - i/\i<=v.mem.length/\env=uy n ⟨b1,0,none⟩ r.ed r.ei r.eA r.ei i Q/\ai V7 u/\∀ k,k<i->j' n v.mem k=true) v.mem.length
  ⟨0,_,by omega,by omega,rfl,ao.refl _ _,λk t=>by omega⟩ ?_
 rintro m env u ⟨i,Q,rfl,V4,rfl,a,f⟩;rw [Ua];refine a8 (λR=>?_) (λR=>?_)
 ·have p:i<v.mem.length:=by omega
  have K:v.mem[i]?=some v.mem[i]:=bD p;have l:=oG (d:=jI) K;have j:j' n v.mem i=false->(List.range v.mem.length).all (j' n v.mem)=false:=xC p;refine er (cells:=aY.cells) aY.len (by omega) ((h.rd.new g).new a) K rfl hlen λb o V _=>aY.aR v.mem[i] ⟨V,?_⟩
  refine ea (vs:=v.mem[i].cells) rfl (aY.single _) λaA V6 U B E=>?_
  rintro bk O;have q:ai V6 bk:=by rw [O];exact cE _
  clear O;have I:=ai.aj q B;have c:=(a.new E).new q;refine ⟨λy=>ai bk y,ao.refl _ _,_,λy A=>(ai.aj A I).cell (i:=0) rfl,a8 (λF=>?_) (λF=>⟨_,λy A=>(ai.aj A I).cell (i:=0) rfl,a8 (λG=>?_) (λG=>a8 (λZ=>?_) (λZ=>?_))⟩)⟩
  ·rw [if_pos (j (by unfold j';rw [l];simp;omega))];exact ⟨rfl,g.new c⟩
  ·rw [if_pos (j (by unfold j';rw [l];simp;omega))];exact ⟨rfl,g.new c⟩
  ·have L:v.mem[i - 1]?=some v.mem[i - 1]:=bD (by omega);have D:=oG (d:=jI) L;refine ⟨_,λy A=>(ai.aj A I).cell (i:=0) rfl,_,_,_,λy A=>(ai.aj (c.new A) au).cell (i:=1) rfl,?_⟩;refine iW (cells:=aY.cells) aY.len (by omega) ((h.rd.new g).new c) L (by rw [bC (by omega) (by omega)];omega) hlen λb' V_ W=>⟨_,λy A=>W y A 0 _ rfl,a8 (λV2=>?_) (λV2=>?_)⟩
   ·rw [if_pos (j (by unfold j';rw [l,D];simp;omega))];exact ⟨rfl,g.new c⟩
   ·rw [bC (by omega) (by omega)];refine ⟨v.mem.length - (i+1),by omega,i+1,_,rfl,by omega,rfl,c,λk t=>?_⟩;rcases p4.1 t with t | rfl
    ·exact f k t
    ·unfold j';rw [l,D];simp;omega
  ·rw [bC (by omega) (by omega)];refine ⟨v.mem.length - (i+1),by omega,i+1,_,rfl,by omega,rfl,c,λk t=>?_⟩;rcases p4.1 t with t | rfl
   ·exact f k t
   ·unfold j';rw [l];simp;omega
 have J:(List.range v.mem.length).all (j' n v.mem)=true:=by rw [gU];intro k t;exact f k (by have:=fJ.1 t;omega)
 rw [if_neg (by rw [J];simp)];rw [UV];have C:=ai.aj a au;refine ⟨_,_,_,C.cell (i:=1) rfl,?_⟩;refine c2 mix (λm env z=>∃ (i:Nat) (Q:ax),m=v.mem.length - i/\i<=v.mem.length/\env=xn ⟨b1,0,none⟩ r.ed r.ei r.eA r.ei i Q/\ai V7 z/\(v.mem.take i).all mI=true) v.mem.length
  ⟨0,_,by omega,by omega,rfl,a,rfl⟩ ?_
 clear C a f V4 R;rintro m env u ⟨i,Q,rfl,V4,rfl,a,f⟩;rw [Ub];refine a8 (λR=>?_) (λR=>?_)
 ·have p:i<v.mem.length:=by omega
  have K:v.mem[i]?=some v.mem[i]:=bD p;have j:mI v.mem[i]=false->v.mem.all mI=false:=λe=>by rw [yr];exact ⟨v.mem[i],jS p,by simp [e]⟩
  refine er (cells:=aY.cells) aY.len (by omega) ((h.rd.new g).new a) K rfl hlen λb o V _=>aY.aR v.mem[i] ⟨V,?_⟩
  refine ea (vs:=v.mem[i].cells) rfl (aY.single _) λaA V6 U B E=>?_
  have s:=a.new E;refine ⟨_,B.cell (i:=1) rfl,a8 (λF=>?_) (λF=>⟨_,B.cell (i:=1) rfl,a8 (λG=>?_) (λG=>?_)⟩)⟩
  ·rw [if_pos (j (by unfold mI;simp;omega))];exact ⟨rfl,g.new s⟩
  ·rw [if_pos (j (by unfold mI;simp;omega))];exact ⟨rfl,g.new s⟩
  ·rw [bC (by omega) (by omega)];refine ⟨v.mem.length - (i+1),by omega,i+1,_,rfl,by omega,rfl,s,?_⟩;rw [fc,K,List.all_append,f];simp [mI];omega
 have H:v.mem.take i=v.mem:=hS (by omega);rw [H] at f;rw [if_neg (by rw [f];simp)];rw [UW];have C:=ai.aj a au;refine ⟨_,_,_,C.cell (i:=1) rfl,?_⟩;rw [hlen];refine aC (VF ((h.rd.new g).new a) V3) ?_;rintro x bk ⟨rfl,q⟩;refine ⟨_,rfl,ev (λX=>?_) (λX=>?_)⟩
 ·rw [if_pos X];exact ⟨rfl,g.new (a.new q)⟩
 ·rw [if_neg (by rw [X];simp)];exact ⟨rfl,g.new (a.new q)⟩
end
section
theorem MJ {u:ak} {n cap:Nat} (i:a0 u eI 3 a n cap (gj L).flatten) (s:n=L.length) (o:n<=1000000) {K:Nat->an->Nat->Nat->aE}
  (r:∀ b ap e g,b=u.heap.size->a0 g eI 3 ap (n+1) e (gj (L++[m])).flatten->ao (aL a) u g->(∀ k,aL ap k->aL a k\/u.heap.size<=k)->K b ap (n+1) e g) :
  ∀ b1 j,b1=u.heap.size->j=u.alloc (.cells m.cells.toArray eI)->∃ (ap:an) (d c:Nat),∃ g,(Builtin.append_ #[zP,zP] zP #[(.slice a n cap),(.slice (some ⟨b1,0,none⟩) 1 1)]).run prog j=.ok (.slice ap d c) g/\K b1 ap d c g:=by
 obtain ⟨inf,q,au,f,p⟩:=fO (T:=eI) (z:=.agg #[.int .i64 0,.int .i64 0,.bool false]) (n:=3) (m:=24) (by kernel_rfl);rw [<-f] at i;refine oD Tryz.underlying33 q au (by rw [f];rfl) (by omega) i (by rw [f];rfl) (aY.single m) (by omega) (by omega) ?_;intro b ap e g l h;rw [f,<-IN] at h;exact r b ap e g l h
end
section
open IntKind
variable (w:ak) (R:cB) {i k:Int} {A B:aS} {j:aq}
theorem Up:bf prog f28 [ab i] R w=(aQ w #[ab 0,a5] 35 λh j=>Calls prog 51 #[ab i] j λe k=>c3.ex λb=>∃ a,e=.returned (.tuple #[b.val,ab a])/\aQ k #[ab 0,a5] 35 λf l=>a' l (af f 0) 0 b.cells λg=>lS g (af f 0) λr=>a' g (af h 0) 0 r.cells λd=>lS d (af h 0) λc=>d=d/\R c.val d):=by kernel_rfl
def wZ (a:Int) (s2 b:aS) (c:Int) (j:aq):aq:=ab a::ag j 0 1 (.pointer (some s2)::ag j 1 1 (.pointer (some b)::ab c::ag j 2 21 []))
def FM (a b:aS) (j:aq):aq:=ag j 0 2 (.pointer (some a)::ag j 2 1 (.pointer (some b)::ag j 3 22 []))
theorem TM:bf prog f51 [ab i] R w=(aQ w #[ab 0,a5] 35 λc f=>cond (i<1) (a' f (af c 0) 0 [ab 0,a5] λd=>lS d (af c 0) λa=>d=d/\R (.tuple #[a.val,ab 1]) d) (cond (i>5) (a' f (af c 0) 0 [ab 0,a5] λe=>lS e (af c 0) λb=>e=e/\R (.tuple #[b.val,ab 1]) e) (aQ f #[ab 0,a5] 35 λg j=>a' j (af g 0) 0 [ab 0,a5] λh=>cv prog (c0 f51 [1,1,1,0,1,0,0]) (wZ i (af c 0) (af g 0) 0 (undef::ab 0::ab i::ad (i<1)::ad false::ab i::ad (i>5)::ad (i>5)::undef::.agg #[ab 0,a5]::bb 13 [])) (aM 0 (aP f51 [1,1,1,1] R)) h))):=by kernel_rfl
theorem Rg (g:aq->aE):W prog (sb f51 [1,1,1,0,1,0,0]) (wZ i A B k j) (aU g (aM 0 (aP f51 [1,1,1,1] R))) w=(cond (k<i) (b5 w (bT B 1) λa b c=>aQ w #[ab k,ab 1,ad true] 116 λh l=>c9 33 (ae a b c) (ae (bn h) 1 1) l λe d f m=>cI m (bT B 1) (ae e d f) λn=>g (wZ i A B (i64.wrap (k+1)) (ag j 0 10 [ab k,ab i,ad (k<i),ab k,ab (i64.wrap (k+1)),bq B 1,ae a b c,ab k,.agg #[ab k,ab 1,ad true],ae (bn h) 1 1,ae e d f,bq B 1,aF j 22])) n) (W prog (sb f51 [1,1,1,1]) (FM A B (ab i::aF j 0::aF j 1::ab k::ag j 2 8 (ab k::ab i::ad (k<i)::ag j 13 10 []))) (bZ f51 R) w)):=by kernel_rfl
theorem RT:W prog (sb f51 [1,1,1,1]) (FM A B j) (bZ f51 R) w=(lS w B λr=>a' w A 0 r.cells λa=>lS a A λc=>a=a/\R (.tuple #[c.val,ab 0]) a):=by kernel_rfl
end
section
structure Px (v:jf):Prop where
 num:0<=v.number/\v.number<16
 ef:∀ m ∈ v.mem,1<=m.cn
 ne:v.mem≠[]
 eD:v.mem.length<=5
abbrev EG (A:Nat):a3:=λk=>k<A
theorem Py {A:Nat} (b:a0 w eI 3 a L.length c (gj L).flatten) (f:L.length<=1000000) (d:∀ k,aL a k->A<=k):gd (EG A) w ⟨n,a,L.length,c⟩ ⟨n,L⟩:=
 ⟨rfl,rfl,b.le,b.rd,hn b.rd λk e h=>Nat.lt_irrefl _ (f8 h (d k e)),f⟩
theorem gd.mono {M':a3} {v:jf} (h:gd M w r v) (hm:∀ k,k<w.heap.size->M' k->M k):gd M' w r v:=by
 refine ⟨h.num,h.len,h.cap,h.rd,?_,h.small⟩;rcases h.off with e | e
 ·exact .inl e
 ·rcases h.rd with a | ⟨b,o,a,f⟩
  ·exact .inl a
  ·by_cases he:(gj v.mem).flatten=[]
   ·exact .inl he
   ·rw [a] at e ⊢;refine .inr λd=>e (hm _ ?_ d)
    cases c:(gj v.mem).flatten with
    |nil=>exact absurd c he
    |cons x xs=>exact vv (f 0 x (by rw [c];rfl))
theorem gd.az {M N:a3} {w w':ak} {r:c3} {v:jf} (h:gd M w r v) (d:ao N w w') (b:∀ k,N k->M k):gd M w' r v:=
 ⟨h.num,h.len,h.cap,h.rd.az d (h.off.imp id λe=>by cases c:r.ed with
  |none=>exact trivial
  |some a=>rw [c] at e;exact λf=>e (b _ f)),h.off,h.small⟩
def stM (n:Nat):List aY:=(List.range n).map λ(i:Nat)=>⟨(i:Int),1,true⟩
theorem pL (n:Nat):(stM n).length=n:=by simp [stM]
theorem Kq (n:Nat):stM (n+1)=stM n++[⟨(n:Int),1,true⟩]:=by simp [stM,ki]
theorem Kr {n:Nat} (h:m ∈ stM n):1<=m.cn:=by simp only [stM,cT] at h;obtain ⟨i,_,rfl⟩:=h;exact Int.le_refl _
theorem IP (w:ak) (y:1<=n) (V3:n<=5):a9 51 [.int .i64 n] w λx w'=>∃ (a:an) (c:Nat) (L:List aY),x=.tuple #[c3.val ⟨0,a,L.length,c⟩,.int .i64 0]/\a0 w' eI 3 a L.length c (gj L).flatten/\ai w w'/\L=stM n.toNat/\(∀ k,aL a k->w.heap.size<=k):=by
 refine bc Tryz.func51 ?_;rw [TM];rintro b1 w1 J G;obtain ⟨h,A⟩:=bl J G;have h:av w1 b1 (c3.cells ⟨0,none,0,0⟩) nb:=h;clear G;refine a8 (λO=>absurd O (by omega)) (λ_=>a8 (λO=>absurd O (by omega)) (λ_=>?_))
 refine ea (vs:=c3.cells ⟨0,none,0,0⟩) rfl (c3.single _) λaA V6 U P B=>?_
 have H:=ai.aj B h;have z:=A.new B;have Y:=A.size;have Q:=h.lt;refine c2 mix (λm env u=>∃ (i:Nat) (a:an) (c:Nat) (L:List aY) (R:ax),m=n.toNat - i/\i<=n.toNat/\env=wZ n ⟨b1,0,none⟩ ⟨aA,0,none⟩ i R/\ai w u/\av u b1 (c3.cells ⟨0,none,0,0⟩) nb/\av u aA (c3.cells ⟨0,a,L.length,c⟩) nb/\a0 u eI 3 a L.length c (gj L).flatten/\(∀ k,aL a k->aA<k)/\L=stM i) n.toNat
  ⟨0,none,0,[],_,by omega,by omega,rfl,z,H,P,a0.nil _ _ _,(λk f=>by obtain ⟨o,W⟩:=f;cases W),rfl⟩ ?_
 rintro m env u ⟨i,a,c,L,R,rfl,V4,rfl,C,t,g,l,d,p⟩;have T:L.length=i:=by rw [p,pL]
 rw [Rg];refine a8 (λX=>?_) (λX=>?_)
 ·refine ⟨_,_,_,g.cell (i:=1) rfl,?_⟩;refine MJ l rfl (m:=⟨i,1,true⟩) (by omega) ?_;intro V2 ap cap bk V N r I;have D:=r.aj t λe=>by have:=d b1 e;omega
  have E:=r.aj g λe=>by have:=d aA e;omega
  have Z:=g.lt;have j:∀ k,aL ap k->aA<k:=λk f=>by
   rcases I k f with y | y
   ·exact d k y
   ·omega
  refine rL (b:=aA) E (o:=0+1) (by simp [c3.cells]) λV5 F s=>?_
  rw [bC (by omega) (by omega)];refine ⟨n.toNat - (i+1),by omega,i+1,ap,cap,L++[⟨i,1,true⟩],_,rfl,by omega,rfl,?_,s.aj D (by omega),?_,?_,j,by rw [p,Kq]⟩
  ·have y:ai w bk:=sv C r λk f=>by have:=d k f;omega
   exact y.trans s λk M e=>by omega
  ·rw [dI];exact F
  ·rw [dI];exact a0.az s N λk f e=>by have:=j k f;omega
 ·have K:i=n.toNat:=by omega
  rw [RT];refine c3.aR ⟨0,a,L.length,c⟩ ⟨bJ g rfl,?_⟩;refine ⟨gg t (by simp [c3.cells]) (c3.single _),λS hu=>?_⟩;have f:ao (λk=>k=b1) u S:=by rw [hu];exact h0 _ _ _ _ _
  have au:av S b1 (c3.cells ⟨0,a,L.length,c⟩) nb:=by rw [hu];exact t.cr
  refine c3.aR ⟨0,a,L.length,c⟩ ⟨bJ au rfl,rfl,a,c,L,rfl,?_,?_,by rw [p,K],?_⟩
  ·exact a0.az f l λk q e=>by have:=d k q;omega
  ·exact C.trans f λk M e=>by omega
  ·intro k q;have:=d k q;omega
theorem yP (w:ak) (G:1<=n) (H:n<=5):a9 28 [.int .i64 n] w λx w'=>∃ r v,x=c3.val r/\gd (EG w.heap.size) w' r v/\ai w w'/\Px v/\v=⟨0,stM n.toNat⟩:=by
 refine bc Tryz.func28 ?_;rw [Up];rintro b1 w1 z y;obtain ⟨l,q⟩:=bl z y;have l:av w1 b1 (c3.cells ⟨0,none,0,0⟩) nb:=l;clear y;refine aC (IP w1 G H) ?_;rintro v N ⟨a,c,L,rfl,u,s,f,B⟩;have p:(L.length:Int)=n:=by rw [f,pL];omega
 have A:∀ m ∈ L,1<=m.cn:=λm hm=>Kr (f▸hm)
 refine c3.aR ⟨0,a,L.length,c⟩ ⟨_,rfl,?_⟩;refine ea (vs:=c3.cells ⟨0,a,L.length,c⟩) rfl (c3.single _) λaA M I D j=>?_
 refine c3.aR ⟨0,a,L.length,c⟩ ⟨bJ D rfl,?_⟩;have d:=ai.aj (s.new j) l;have b:=a0.new j u;refine ⟨gg d (by simp [c3.cells]) (c3.single _),λF hu=>?_⟩;have E:ao (λk=>k=b1) M F:=by rw [hu];exact h0 _ _ _ _ _
 have au:av F b1 (c3.cells ⟨0,a,L.length,c⟩) nb:=by rw [hu];exact d.cr
 have C:∀ k,aL a k->k≠b1:=λk i e=>by
  subst e;obtain ⟨o,t⟩:=i;rcases b.2 with ⟨h,_⟩ | ⟨g,cur,he,J,_⟩
  ·rw [h] at t;cases t
  ·rw [he] at t;simp at t;exact absurd (J.uniq (t.1▸d)).2 (by decide)
 refine c3.aR ⟨0,a,L.length,c⟩ ⟨bJ au rfl,rfl,_,⟨0,L⟩,rfl,Py (a0.az E b C) (by omega) (λk i=>by have:=B k i;have:=q.size;omega),?_,⟨⟨by simp,by simp⟩,A,λe=>?_,?_⟩,by rw [f]⟩
 ·exact (q.new (s.new j)).trans E λk K e=>by omega
 ·have e:L=[]:=e;rw [e] at p;simp at p <;> omega
 ·show L.length<=5;omega
end
section
open IntKind
variable (w:ak) (R:cB) {X:a2} {a:Nat} {i k:Int} {j:aq}
theorem HE (a b c d f g:Int) (h:an) (i k:Nat) (l m:Int) (w:ak) (R:cB):bf prog f130 [.agg #[ab a,ab b,ab c,ab d,ah f,ah g,ae h i k,ah l,ab m]] R w=(aQ w #[ab a,ab b,ab c,ab d,ah f,ah g,ae h i k,ah l,ab m] 158 λb1 w1=>bS w1 (af b1 0) λn=>cond (n == 1) (bS w1 (af b1 3) λe=>R (ab e) w1) (cond (n == 2) (b5 w1 (af b1 6) λo p q=>R (ab (p:Nat)) w1) (cond (n == 3) (cond (n == 3) (R (ab 1) w1) (R (ab 0) w1)) (cond (n == 4) (R (ab 1) w1) (R (ab 0) w1))))):=by kernel_rfl
theorem VG (a b c d f g:Int) (h:an) (i k:Nat) (l m:Int) (w:ak) (R:cB):bf prog f138 [.agg #[ab a,ab b,ab c,ab d,ah f,ah g,ae h i k,ah l,ab m]] R w=(aQ w #[ab a,ab b,ab c,ab d,ah f,ah g,ae h i k,ah l,ab m] 158 λb1 w1=>R (.func (.func 186) #[] #[a_ b1]) w1):=by kernel_rfl
def xf (a:a2) (b c:Int) (j:aq):aq:=a::ag j 0 2 (ab b::ab c::ag j 2 24 [])
theorem Ve:bf prog f186 [X,a_ a] R w=(ct w λq j=>cN j (af a 2) λn=>mC j (af a 0) λe b c o d f g h i k l=>cm 130 #[.agg #[ab e,ab b,ab c,ab o,ah d,ah f,ae g h i,ah k,ab l]] q λm p=>j p/\cv prog (c0 f186 [1,0,0]) (xf X n m (jp (af a 0)::bb 2 (jp (af a 2)::ab n::.agg #[ab e,ab b,ab c,ab o,ah d,ah f,ae g h i,ah k,ab l]::ab m::bb 19 []))) (aM 0 (bZ f186 R)) p):=by kernel_rfl
theorem Sk (c:aq->aE):W prog (sb f186 [1,0,0]) (xf X i k j) (aU c (aM 0 (bZ f186 R))) w=(cond (k>0) (iX prog X #[.agg #[ab i,ab (if ((i64.wrap (8 - (Int.tmod i 8))):Int)<k then ((i64.wrap (8 - (Int.tmod i 8))):Int) else k)]] w λe b=>∃ a,e=.returned (ad a)/\cond (!a) (R (.tuple #[]) b) (c (xf X (i64.wrap (i+(if ((i64.wrap (8 - (Int.tmod i 8))):Int)<k then ((i64.wrap (8 - (Int.tmod i 8))):Int) else k))) (i64.wrap (k - (if ((i64.wrap (8 - (Int.tmod i 8))):Int)<k then ((i64.wrap (8 - (Int.tmod i 8))):Int) else k))) (aF j 0::aF j 1::ab (if ((i64.wrap (8 - (Int.tmod i 8))):Int)<k then ((i64.wrap (8 - (Int.tmod i 8))):Int) else k)::ag j 3 4 [ab k,ad (k>0),ab k,ab i,ab (Int.tmod i 8),ab (i64.wrap (8 - (Int.tmod i 8))),ab (if ((i64.wrap (8 - (Int.tmod i 8))):Int)<k then ((i64.wrap (8 - (Int.tmod i 8))):Int) else k),X,ab i,ab (if ((i64.wrap (8 - (Int.tmod i 8))):Int)<k then ((i64.wrap (8 - (Int.tmod i 8))):Int) else k),.agg #[ab i,ab (if ((i64.wrap (8 - (Int.tmod i 8))):Int)<k then ((i64.wrap (8 - (Int.tmod i 8))):Int) else k)],ad a,ad (!a),ab i,ab (if ((i64.wrap (8 - (Int.tmod i 8))):Int)<k then ((i64.wrap (8 - (Int.tmod i 8))):Int) else k),ab (i64.wrap (i+(if ((i64.wrap (8 - (Int.tmod i 8))):Int)<k then ((i64.wrap (8 - (Int.tmod i 8))):Int) else k))),ab k,ab (if ((i64.wrap (8 - (Int.tmod i 8))):Int)<k then ((i64.wrap (8 - (Int.tmod i 8))):Int) else k),ab (i64.wrap (k - (if ((i64.wrap (8 - (Int.tmod i 8))):Int)<k then ((i64.wrap (8 - (Int.tmod i 8))):Int) else k)))])) b)) (R (.tuple #[]) w)):=by kernel_rfl
end
section
theorem iY (h:b6 w bx 0 v.cells)
  (a:K v.Kind v.Node v.bX v.N v.Old v.ai v.Words v.cK v.cD v.Key v.cn) :
  ∃ (Kind:Int) (Node:Int) (bX:Int) (N:Int) (Old:Int) (ai:Int) (Words:an) (cK:Nat) (cD:Nat) (Key:Int) (cn:Int),
   b6 w bx 0 [.int .i64 Kind,.int .i64 Node,.int .i64 bX,.int .i64 N,.int .u64 Old,.int .u64 ai,.slice Words cK cD,.int .u64 Key,.int .i64 cn]/\K Kind Node bX N Old ai Words cK cD Key cn:=
 ⟨_,_,_,_,_,_,_,_,_,_,_,h,a⟩
theorem mG {S:aE} (h:∀ u,S u->b6 u bx 0 v.cells)
  (a:K v.Kind v.Node v.bX v.N v.Old v.ai v.Words v.cK v.cD v.Key v.cn) :
  ∃ (Kind:Int) (Node:Int) (bX:Int) (N:Int) (Old:Int) (ai:Int) (Words:an) (cK:Nat) (cD:Nat) (Key:Int) (cn:Int),
   (∀ u,S u->b6 u bx 0 [.int .i64 Kind,.int .i64 Node,.int .i64 bX,.int .i64 N,.int .u64 Old,.int .u64 ai,.slice Words cK cD,.int .u64 Key,.int .i64 cn])/\K Kind Node bX N Old ai Words cK cD Key cn:=
 ⟨_,_,_,_,_,_,_,_,_,_,_,h,a⟩
abbrev cz:TypeId:=158
theorem g4 {b:Nat} (h:av w b v.cells cz):b6 w ⟨b,0,none⟩ 0 v.cells:=bJ h (by simp [aG.cells])
theorem oP (w:ak) (v:aG):av (w.alloc (.cells v.cells.toArray cz)) w.heap.size v.cells cz:=px _ _ _
def aG.count (v:aG):Int:=if v.Kind=1 then v.N else if v.Kind=2 then v.cK else if v.Kind=3\/v.Kind=4 then 1 else 0
theorem vq (w:ak) (v:aG):a9 130 [v.val] w λx w'=>x=.int .i64 v.count/\ai w w':=by
 refine bc Tryz.func130 ?_;refine Eq.mpr (HE v.Kind v.Node v.bX v.N v.Old v.ai v.Words v.cK v.cD v.Key v.cn w _) ?_;rintro b1 w1 rfl rfl;have f:=oP w v;have a:=hk w (.cells v.cells.toArray cz);refine ⟨_,f.cell rfl,dY (λc=>⟨_,f.cell rfl,?_,a⟩) (λc=>dY (λd=>⟨_,_,_,f.cell rfl,?_,a⟩) (λd=>dY (λb=>dY (λ_=>⟨?_,a⟩) (λh=>absurd b h)) (λb=>dY (λe=>⟨?_,a⟩) (λe=>⟨?_,a⟩))))⟩
 ·simp [aG.count,c]
 ·simp [aG.count,d]
 ·simp [aG.count,b]
 ·simp [aG.count,e]
 ·simp [aG.count,c,d,b,e]
end
section
open Go.RowKit
def Fh (x:Int×Int):Array a2:=#[.agg #[.int .i64 x.1,.int .i64 x.2]]
def hz:Nat->Int->Int->List (Int×Int)
 | 0,_,_=>[]
 |f+1,at_,left=>if left<=0 then [] else (at_,if 8 - at_ % 8<left then 8 - at_ % 8 else left)::
   hz f (at_+(if 8 - at_ % 8<left then 8 - at_ % 8 else left)) (left - (if 8 - at_ % 8<left then 8 - at_ % 8 else left))
def aG.pieces (v:aG):List (Int×Int):=hz v.count.toNat v.bX v.count
theorem HN {w':ak} (h:Go.bu.ai w w'):w.grownBy w' none:=⟨h.os,h.tape,h.output,h.size,λk a _=>h.block k a id⟩
theorem IQ {m:Nat} {l:Nat} {args:Array a2} {W:ak} {R:Ending->aE} (h:YieldAt Fence.wide m P l args W R) (k:Nat):YieldAt Fence.wide k P l args W R:=by obtain ⟨fn,tmps,assign,body,b,a⟩:=h;exact ⟨fn,tmps,assign,body,b,a.1,λc cs _=>a.2 c cs (room_wide _)⟩
theorem IS (n l d S:Nat) (v:aG) (a6 w:List (Int×Int)->aE) (A:0<=v.bX) (I:v.bX<=1000000) (J:1<=v.count) (K:v.count<=1000000) (W:ak)
  (G:AbidesFrom W.heap.size a6) (H:∀ pre x W,a6 pre W->pre.length<v.pieces.length->YieldAt Fence.wide (n - 1) prog l (Fh x) W λe W'=>
   (e=.returned (.bool true)/\a6 (pre++[x]) W'/\Below S W W')\/(e=.returned (.bool false)/\w (pre++[x]) W'))
  (g:∀ u,Below (d+1) W u->b6 u ⟨d,0,none⟩ 0 v.cells) (U:d+1<=W.heap.size) (F:a6 [] W) :
  CallsIn Fence.wide n prog 186 #[.func (.yield l) #[] #[],.pointer (some ⟨d,0,none⟩)] W λe W'=>(∃ v,e=.returned v)/\
   ((∃ ys,ys=v.pieces/\a6 ys W')\/(∃ pre,pre <+: v.pieces/\w pre W')):=by
 refine callsIn_wide.2 (Calls.mono (R:=λe w'=>∃ x,e=.returned x/\((∃ ys,ys=v.pieces/\a6 ys w')\/(∃ pre,pre <+: v.pieces/\w pre w'))) ?_ λe w' ⟨x,P,O⟩=>⟨⟨x,P⟩,O⟩);refine bc Tryz.func186 (args:=[.func (.yield l) #[] #[],.pointer (some ⟨d,0,none⟩)]) (R:=λ_ w'=>(∃ ys,ys=v.pieces/\a6 ys w')\/(∃ pre,pre <+: v.pieces/\w pre w')) ?_;rw [Ve];intro w1 t;have q:Go.bu.ai W w1:=by rw [t];exact cE _
 clear t;have o:∀ u,Go.bu.ai w1 u->Below (d+1) W u:=λu hu=>(q.new hu).below (by omega) λ_ _ h=>h
 refine ⟨λu=>Go.bu.ai w1 u,ao.refl _ _,v.bX,λu hu=>?_,?_⟩
 ·have:=g u (o u hu);exact this.2.2.1
 refine mG (v:=v) (λu hu=>g u (o u hu)) ?_;refine aC (vq _ v) ?_;rintro r T ⟨rfl,s⟩;refine ⟨_,rfl,s,?_⟩;have y:a6 [] T:=G _ _ _ none F (HN (q.new s)) (λ_ h=>by cases h);refine c2 mix (λm env u=>∃ (f:Nat) (at_ left:Int) (E:ax) (pre:List (Int×Int)),m=f/\left<=f/\0<=at_/\0<=left/\at_+left<=2000000/\env=xf (.func (.yield l) #[] #[]) at_ left E/\v.pieces=pre++hz f at_ left/\a6 pre u) v.count.toNat
  ⟨v.count.toNat,v.bX,v.count,_,[],rfl,by omega,A,by omega,by omega,rfl,rfl,y⟩ ?_
 rintro f env u ⟨_,at_,left,E,pre,rfl,M,B,hle,D,rfl,a,i⟩;rw [Sk];refine a8 (λN=>?_) (λN=>?_)
 ·obtain ⟨b,rfl⟩:∃ b,f=b+1:=⟨f - 1,by omega⟩;have p:Int.tmod at_ 8=at_ % 8:=yq B
  rw [p,bC (x:=8 - at_ % 8) (by omega) (by omega)];generalize C:(if 8 - at_ % 8<left then 8 - at_ % 8 else left)=k;have L:1<=k/\k<=left/\k<=8:=by rw [<-C];split<;>omega
  have c:hz (b+1) at_ left=(at_,k)::hz b (at_+k) (left - k):=by rw [hz,if_neg (by omega),C]
  rw [c] at a;have Q:=IQ (H pre (at_,k) u i (by rw [a];simp)) 0;refine Exists.imp (λfn=>Exists.imp λtmps=>Exists.imp λassign=>Exists.imp λbody=>And.imp id λh=>RoundIn.mono h ?_) Q;rintro e V (⟨rfl,z,_⟩ | ⟨rfl,j⟩)
  ·refine ⟨_,rfl,cV rfl ?_⟩;rw [bC (by omega) (by omega),bC (by omega) (by omega)];refine ⟨b,by omega,b,at_+k,left - k,_,pre++[(at_,k)],rfl,by omega,by omega,by omega,by omega,rfl,by rw [a];simp,z⟩
  ·exact ⟨_,rfl,ek rfl (.inr ⟨_,⟨hz b (at_+k) (left - k),by rw [a];simp⟩,j⟩)⟩
 ·refine .inl ⟨pre,?_,i⟩;have:left=0:=by omega
  subst this;rw [a];cases f<;>simp [hz]
end
section
open Go.RowKit
theorem Ap:∀ (f:Nat) (at_ left:Int),0<=at_->∀ p ∈ hz f at_ left,at_<=p.1/\1<=p.2/\p.2<=8/\p.1+p.2<=at_+left
 | 0,_,_,_,p,a=>by simp [hz] at a
 |f+1,at_,left,b,p,a=>by
  unfold hz at a;split at a
  ·simp at a
  ·rename_i c;rcases e6.1 a with rfl | a
   ·simp only;split<;>omega
   ·have:=Ap f _ _ (by split<;>omega) p a;split at this<;>omega
theorem HB (f:Nat) (at_ left:Int) (h:1<=left) (a:1<=f):hz f at_ left≠[]:=by
 cases f with
 |zero=>omega
 |succ f=>unfold hz;rw [if_neg (by omega)];simp
theorem xz:∀ (f:Nat) (at_ left:Int),(hz f at_ left).length<=f
 | 0,_,_=>by simp [hz]
 |f+1,at_,left=>by
  unfold hz;split
  ·simp
  ·simp only [g7];have:=xz f (at_+(if 8 - at_ % 8<left then 8 - at_ % 8 else left)) (left - (if 8 - at_ % 8<left then 8 - at_ % 8 else left));omega
def nQ (ch:List (Int×Int)):List ax:=ch.map λp=>[.int .i64 p.1,.int .i64 p.2]
theorem Jx (ch:List (Int×Int)):∀ r ∈ nQ ch,r.length=2:=by intro r a;simp only [nQ,cT] at a;obtain ⟨v,_,rfl⟩:=a;rfl
theorem Jy {ch:List (Int×Int)} {p:Int×Int} (h:ch[i]?=some p):(nQ ch)[i]?=some [.int .i64 p.1,.int .i64 p.2]:=by simp [nQ,h]
abbrev qu:TypeId:=185
end
section
open Go.RowKit
theorem zu (hm:P.follows .mixedOrders=true) {a b:Code} {N:ax->aE} (h:W P a env (aU N (λ_ _ _=>False)) w) (i:∀ env w,N env w->b.wp P Q (act env) w):(Code.seq a b).wp P Q (act env) w:=by
 refine wp_seq (wp_mono (pO hm a env _ w h) λe k w' f=>?_);obtain ⟨he,d,j,g⟩:=qU f;subst j;clear f;cases e with
 |normal=>exact i d w' g
 |panic c=>exact absurd rfl (he.1 c)
 |outgrown=>exact absurd rfl he.2
 | _=>exact g.elim
theorem Li (w:ak) (v:aG):a9 138 [v.val] w λr w'=>r=.func (.func 186) #[] #[.pointer (some ⟨w.heap.size,0,none⟩)]/\av w' w.heap.size v.cells cz/\Go.bu.ai w w'/\w'.heap.size=w.heap.size+1:=by refine bc Tryz.func138 ?_;refine Eq.mpr (VG v.Kind v.Node v.bX v.N v.Old v.ai v.Words v.cK v.cD v.Key v.cn w _) ?_;rintro b1 w1 a b;obtain ⟨au,c⟩:=bl a b;refine ⟨by rw [a],a▸au,c,by rw [b];simp⟩
theorem Pn (v:aG) (w:ak) (N:ax->aE):W prog (sub (bp f98) [0]) [v.val,undef,undef,undef,undef,undef,undef,undef,undef,undef,undef,undef,undef] (aU N (λ_ _ _=>False)) w =
  (∀ b1 w1,b1=w.heap.size->w1=w.alloc (.cells v.cells.toArray 158)->N [v.val,.pointer (some ⟨b1,0,none⟩),.slice none 0 0,undef,undef,undef,undef,undef,undef,undef,undef,undef,undef] w1):=by kernel_rfl
theorem Po (v x:a2) (b:Nat) (w:ak) (N:ax->aE):W prog (sub (bp f98) [1,0]) [v,.pointer (some ⟨b,0,none⟩),x,undef,undef,undef,undef,undef,undef,undef,undef,undef,undef] (aU N (λ_ _ _=>False)) w =
  (∀ b1 w1,b1=w.heap.size->w1=w.alloc (.cells #[.slice none 0 0] 181)->N [v,.pointer (some ⟨b,0,none⟩),x,.pointer (some ⟨b1,0,none⟩),undef,undef,undef,undef,undef,undef,undef,undef,undef] w1):=by kernel_rfl
def yQ (o:Oper):Bool:=match o.op with | .defer _=>false | _=>true
def plain:Code->Bool
 | .region _ ops false=>ops.toList.all yQ
 | _=>false
theorem IT {o:Oper} {a:Act} {next next':Act->aE} (r n:Nat) (g:∀ a w,next a w->next' a w):∀ {x:Result Next},o.uponIn Fence.wide 0 P a next Q x->o.uponIn (Fence.wide.inRound r) n P a next' Q x
 | .ok (.value v) w',h=>g _ _ h
 | .ok .skip w',h=>g _ _ h
 | .ok (.defer d) w',h=>g _ _ h
 | .ok (.enter f args) w',h=>by
  refine ⟨λi=>by simp [Fence.wide] at i,trivial,λcs _=>?_⟩;obtain ⟨e,k,gi,b,j,p⟩:=h.2.2 cs (room_wide _);refine ⟨e,k,gi,?_,j,p⟩;cases e with
  |returned v=>exact g _ _ b
  |panicked c=>exact b
  |outgrown=>exact b
 | .ok (.row row args) w',h=>by refine ⟨λi=>by simp [Fence.wide] at i,λc cs _=>?_⟩;obtain ⟨v,k,b,j⟩:=h.2 c cs (room_wide _);exact ⟨v,k,g _ _ b,j⟩
 | .ok (.round l f tmps assign body) w',h=>by
  refine ⟨λi=>by simp [Fence.wide] at i,trivial,λc cs _=>?_⟩;obtain ⟨e,k,b,j⟩:=h.2.2 c cs (room_wide _);refine ⟨e,k,?_,j⟩;cases e with
  |returned v=>exact g _ _ b
  |panicked c=>exact b
  |outgrown=>exact b
 | .halt (.panic v) w',h=>h
 | .halt (.stuck s) w',h=>by cases h
theorem Bv {P:Program} {ops:Array Oper} {Q:Exit->Act->aE} (r n:Nat):∀ (l:List Oper) (a:Act) (w:ak),(∀ o ∈ l,yQ o=true)->wpListIn Fence.wide 0 P ops Q l a w->wpListIn (Fence.wide.inRound r) n P ops Q l a w
 | [],_,_,_,h=>h
 |o::l,a,w,ar,h=>by
  have d:=λa w=>Bv (P:=P) (ops:=ops) (Q:=Q) r n l a w λo f=>ar o (fu _ f)
  unfold wpListIn at h ⊢;split at h
  ·rename_i hw;rw [if_pos hw];refine ⟨λ_ _=>trivial,?_⟩;have b:=h.2;rw [show Fence.wide.round=none from rfl,Oper.semAt_none] at b;rw [show (Fence.wide.inRound r).round=some r from rfl,Oper.semAt_some _ _ _ (λc e=>by have:=ar o e2;simp [yQ,e] at this)];exact IT r n d b
  ·rename_i hw;rw [if_neg hw];exact ⟨λ_ _=>trivial,d _ _ h.2⟩
theorem Dq {c:Code} (a:plain c=true) {Q:Exit->ax->aE} (r n:Nat) (h:W P c env Q w):c.wpIn (Fence.wide.inRound r) n P (qe Q) (act env) w:=by
 cases c with
 |region id ops d=>
  cases d with
  |true=>simp [plain] at a
  |false=>unfold W at h;refine wpIn_region_list (Bv r n _ _ _ (λo e=>?_) (oE (all:=ops.toList) ops.toList env w (Q .normal) (λenv w b=>ji b ⟨λ_=>by simp,by simp⟩) h));simp only [plain,gU] at a;exact a o e
 | _=>simp [plain] at a
theorem Pp (v x:a2) (b aA:Nat) (w:ak) (N:ax->aE):W prog (sub (bp f98) [1,1,0,0]) [v,.pointer (some ⟨b,0,none⟩),x,.pointer (some ⟨aA,0,none⟩),undef,undef,undef,undef,undef,undef,undef,undef,undef] (aU N (λ_ _ _=>False)) w =
  (∃ (Kind:Int) (Node:Int) (bX:Int) (d:Int) (Old:Int) (ai:Int) (Words:an) (c:Nat) (a:Nat) (Key:Int) (cn:Int),b6 w ⟨b,0,none⟩ 0 [(.int .i64 Kind),(.int .i64 Node),(.int .i64 bX),(.int .i64 d),(.int .u64 Old),(.int .u64 ai),(.slice Words c a),(.int .u64 Key),(.int .i64 cn)]/\
   Calls prog 138 #[(.agg #[(.int .i64 Kind),(.int .i64 Node),(.int .i64 bX),(.int .i64 d),(.int .u64 Old),(.int .u64 ai),(.slice Words c a),(.int .u64 Key),(.int .i64 cn)])] w λe f=>∃ r,e=.returned r/\
    N [v,.pointer (some ⟨b,0,none⟩),x,.pointer (some ⟨aA,0,none⟩),undef,(.agg #[(.int .i64 Kind),(.int .i64 Node),(.int .i64 bX),(.int .i64 d),(.int .u64 Old),(.int .u64 ai),(.slice Words c a),(.int .u64 Key),(.int .i64 cn)]),r,undef,undef,undef,undef,undef,undef] f):=by kernel_rfl
theorem Pz (v x y z r:a2) (aA:Nat) (p:Int×Int) (w:ak) (N:ax->aE):W prog (sub (bp f98) [1,1,0,1,0,0]) [v,y,x,.pointer (some ⟨aA,0,none⟩),undef,z,r,.agg #[.int .i64 p.1,.int .i64 p.2],undef,undef,undef,undef,undef] (aU N (λ_ _ _=>False)) w =
  (∀ b1 w1,b1=w.heap.size->w1=w.alloc (.cells #[.int .i64 0,.int .i64 0] qu)->ec w1 ⟨b1,0,none⟩ 0 [.int .i64 p.1,.int .i64 p.2]/\∀ a,a=cr w1 ⟨b1,0,none⟩ 0 [.int .i64 p.1,.int .i64 p.2]->
   N [v,y,x,.pointer (some ⟨aA,0,none⟩),.pointer (some ⟨b1,0,none⟩),z,r,.agg #[.int .i64 p.1,.int .i64 p.2],undef,undef,undef,undef,undef] a):=by kernel_rfl
theorem PA (v x y z r t:a2) (aA f:Nat) (w:ak) (N:ax->aE):W prog (sub (bp f98) [1,1,0,1,0,1,0]) [v,y,x,.pointer (some ⟨aA,0,none⟩),.pointer (some ⟨f,0,none⟩),z,r,t,undef,undef,undef,undef,undef] (aU N (λ_ _ _=>False)) w =
  (∃ (a:an) (n c:Nat),w.cell? ⟨aA,0,none⟩=some (.slice a n c)/\∃ (g h:Int),b6 w ⟨f,0,none⟩ 0 [.int .i64 g,.int .i64 h]/\∀ b1 w1,b1=w.heap.size->w1=w.alloc (.cells #[.int .i64 g,.int .i64 h] qu)->
   ∃ (ap:an) (d b:Nat),∃ e,(Builtin.append_ #[181,181] 181 #[(.slice a n c),(.slice (some ⟨b1,0,none⟩) 1 1)]).run prog w1=.ok (.slice ap d b) e/\
    (∃ u,e.cell? ⟨aA,0,none⟩=some u)/\e.frozen? ⟨aA,0,none⟩=false/\∀ i,i=e.setCell ⟨aA,0,none⟩ (.slice ap d b)->
    N [v,y,x,.pointer (some ⟨aA,0,none⟩),.pointer (some ⟨f,0,none⟩),z,r,t,.slice a n c,.agg #[.int .i64 g,.int .i64 h],.slice (some ⟨b1,0,none⟩) 1 1,.slice ap d b,undef] i):=by kernel_rfl
end
end Go.Proofs.YtmkljjbioomepaaGreat
