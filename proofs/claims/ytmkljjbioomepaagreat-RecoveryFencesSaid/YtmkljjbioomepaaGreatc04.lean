import Derived.Test.YtmkljjbioomepaaGreatc02
import Derived.Test.YtmkljjbioomepaaGreatc03
import Derived.Test.YtmkljjbioomepaaGreatProg
import Derived.RangeFuncNested
import Derived.RangeFuncBound
import Derived.RangeFuncCalls
import Derived.RangeFuncLeaves
set_option linter.all false
set_option maxHeartbeats 4000000
set_option maxRecDepth 100000
namespace Go.Proofs.YtmkljjbioomepaaGreat
open Go.Proofs.Tryz Go.br
variable {K:Int->Int->Int->Int->Int->Int->al->Nat->Nat->Int->Int->Prop} {L l:List aZ} {M:a5} {P:Program} {Q:Exit->Act->aE} {a:al} {bw:aU} {c i:Nat} {env:ax} {m:aZ} {n:Int} {r:cX} {v:aG} {w:ak}
section
abbrev eH:TypeId:=116
abbrev m3:TypeId:=35
abbrev zq:TypeId:=33
def f_ (l:List aZ):List ax:=l.map aZ.cells
theorem IN (l:List aZ) (m:aZ):(f_ (l++[m])).flatten=(f_ l).flatten++m.cells:=by simp [f_]
structure jd where
 number:Int
 mem:List aZ
def jC:aZ:=⟨0,0,false⟩
def j5 (n:Int) (l:List aZ) (i:Nat):Bool:=
 decide (0<=(l.getD i jC).Node/\(l.getD i jC).Node<n) && (decide (i=0) || decide ((l.getD (i - 1) jC).Node<(l.getD i jC).Node))
def mE (m:aZ):Bool:=decide (1<=m.ck/\m.ck<=31)
def jd.valid (v:jd) (n:Int):Int:=
 if ¬ (1<=n/\n<=5) then 1 else if v.number<0\/16<=v.number then 2 else if v.mem.length=0 then 1
 else if (List.range v.mem.length).all (j5 n v.mem)=false then 1 else if v.mem.all mE=false then 2 else if v.mem.any aZ.Full=false then 13 else 0
structure f0 (M:a5) (w:ak) (r:cX) (v:jd):Prop where
 num:r.Number=v.number
 len:r.dN=v.mem.length
 cap:r.dN<=r.dW
 rd:bh w r.dL (f_ v.mem).flatten
 off:(f_ v.mem).flatten=[]\/gd M r.dL
 small:v.mem.length<=1000000
theorem f0.new {M:a5} {w w':ak} {r:cX} {v:jd} (h:f0 M w r v) (a:ai w w'):f0 M w' r v:=⟨h.num,h.len,h.cap,h.rd.new a,h.off,h.small⟩
theorem I8 (w:ak) (n:Int):a_ 200 [.int .i64 n] w λv w'=>v=.bool (decide (1<=n/\n<=5))/\w'=w:=by
 refine bc Tryz.func200 ?_;rw [U1];refine a' (λh=>⟨?_,rfl⟩) (λh=>⟨?_,rfl⟩)
 ·congr 1;simp;omega
 ·congr 1;simp;omega
theorem Kf (w:ak) (m:aZ):a_ 202 [m.val] w λv w'=>v=.bool m.Full/\ai w w':=by refine bc Tryz.func202 ?_;rw [Vg];rintro b1 w1 a b;obtain ⟨au,c⟩:=bl a b;exact ⟨_,au.cell rfl,rfl,c⟩
theorem NP:ic prog 202=true:=by kernel_rfl
section
attribute [local irreducible] ic iS mL
theorem Ic (h:bh w a (f_ l).flatten) (t:l.length<=1000000) :
  a_ 234 [.slice a l.length c,.func (.func 202) #[] #[]] w λv w'=>∃ z:Int,v=.int .i64 z/\(decide (z>=0)=l.any aZ.Full)/\ai w w':=by
 refine bc Tryz.func234 ?_;rw [Py];refine c2 mix (λm env u=>∃ (i:Nat) (n:ax),m=l.length - i/\i<=l.length/\env=v8 a l.length c (.func (.func 202) #[] #[]) l.length i n/\ai w u/\(l.take i).any aZ.Full=false) l.length
  ⟨0,_,by omega,by omega,rfl,ao.refl _ _,rfl⟩ ?_
 rintro m env u ⟨i,n,rfl,s,rfl,g,d⟩;rw [Pv];refine a' (λr=>?_) (λr=>?_)
 ·have e:i<l.length:=by omega
  have k:l[i]?=some l[i]:=bF e;refine eo (cells:=aZ.cells) aZ.len (by omega) (h.new g) k rfl rfl λb o q _=>aZ.aS l[i] ⟨q,?_⟩
  refine qU NP (xs:=#[l[i].val]) (by simp) ?_;refine aC (Kf _ l[i]) ?_;rintro v bE ⟨rfl,f⟩;refine ⟨_,rfl,fS (λj=>⟨i,rfl,?_,g.new f⟩) (λj=>?_)⟩
  ·have p:l.any aZ.Full=true:=p2.2 ⟨l[i],kb e,j⟩;rw [p];simp
  ·rw [bC (by omega) (by omega)];refine ⟨l.length - (i+1),by omega,i+1,_,rfl,by omega,rfl,g.new f,?_⟩;rw [e7,k,List.any_append,d];simpa using j
 ·rw [Px];have:l.take i=l:=hO (by omega);rw [this] at d;exact ⟨-1,rfl,by rw [d];decide,g⟩
end
theorem Vh (h:bh w a (f_ l).flatten) (b:l.length<=1000000) :
  a_ 201 [.slice a l.length c,.func (.func 202) #[] #[]] w λv w'=>v=.bool (l.any aZ.Full)/\ai w w':=by
 refine bc Tryz.func201 ?_;rw [PD];refine aC (Ic h b) ?_;rintro v w1 ⟨z,rfl,au,d⟩;exact ⟨_,rfl,by rw [au],d⟩
theorem xf {p:Nat->Bool} {n:Nat} (a:i<n) (h:p i=false):(List.range n).all p=false:=by rw [x8];exact ⟨i,fE.2 a,by simp [h]⟩
theorem ox {α:Type} {l:List α} {x d:α} (h:l[i]?=some x):l.getD i d=x:=by rw [dD,h];rfl
theorem CL {v:jd} (h:f0 M w r v) (n:Int):a_ 166 [r.val,.int .i64 n] w λx w'=>x=.int .i64 (v.valid n)/\ai w w':=by
 refine bc Tryz.func166 ?_;rw [Hi];rintro b1 w1 T P;obtain ⟨au,g⟩:=bl T P;have au:av w1 b1 r.cells m3:=au;clear P;have Vs:=h.small;have hlen:=h.len;have Vu:=h.num;unfold jd.valid;refine aC (I8 _ n) ?_;rintro x Vw ⟨rfl,rfl⟩;refine ⟨_,rfl,er (λS=>?_) (λS=>?_)⟩
 ·rw [if_pos (by simpa using S)];exact ⟨rfl,g⟩
 have N:1<=n/\n<=5:=by simpa using S
 rw [if_neg (λe=>e N)];refine ⟨_,au.cell rfl,a' (λVy=>?_) (λVy=>⟨_,au.cell rfl,a' (λY=>?_) (λY=>?_)⟩)⟩
 ·rw [if_pos (by omega)];exact ⟨rfl,g⟩
 ·rw [if_pos (by omega)];exact ⟨rfl,g⟩
 rw [if_neg (by omega)];refine ⟨_,_,_,au.cell rfl,dJ (λVx=>?_) (λVx=>⟨_,_,_,au.cell rfl,?_⟩)⟩
 ·rw [if_pos (by omega)];exact ⟨rfl,g⟩
 rw [if_neg (by omega)];refine c2 mix (λm env u=>∃ (i:Nat) (Q:ax),m=v.mem.length - i/\i<=v.mem.length/\env=ua n ⟨b1,0,none⟩ r.dL r.dN r.dW r.dN i Q/\ai Vw u/\∀ k,k<i->j5 n v.mem k=true) v.mem.length
  ⟨0,_,by omega,by omega,rfl,ao.refl _ _,λk t=>by omega⟩ ?_
 rintro m env u ⟨i,Q,rfl,Vt,rfl,a,f⟩;rw [Tq];refine a' (λR=>?_) (λR=>?_)
 ·have p:i<v.mem.length:=by omega
  have K:v.mem[i]?=some v.mem[i]:=bF p;have l:=ox (d:=jC) K;have j:j5 n v.mem i=false->(List.range v.mem.length).all (j5 n v.mem)=false:=xf p;refine eo (cells:=aZ.cells) aZ.len (by omega) ((h.rd.new g).new a) K rfl hlen λb o V _=>aZ.aS v.mem[i] ⟨V,?_⟩
  refine ea (vs:=v.mem[i].cells) rfl (aZ.single _) λaA Vv U B E=>?_
  rintro bu O;have q:ai Vv bu:=by rw [O];exact cD _
  clear O;have I:=ai.aj q B;have c:=(a.new E).new q;refine ⟨λy=>ai bu y,ao.refl _ _,_,λy A=>(ai.aj A I).cell (i:=0) rfl,a' (λF=>?_) (λF=>⟨_,λy A=>(ai.aj A I).cell (i:=0) rfl,a' (λG=>?_) (λG=>a' (λZ=>?_) (λZ=>?_))⟩)⟩
  ·rw [if_pos (j (by unfold j5;rw [l];simp;omega))];exact ⟨rfl,g.new c⟩
  ·rw [if_pos (j (by unfold j5;rw [l];simp;omega))];exact ⟨rfl,g.new c⟩
  ·have L:v.mem[i - 1]?=some v.mem[i - 1]:=bF (by omega);have D:=ox (d:=jC) L;refine ⟨_,λy A=>(ai.aj A I).cell (i:=0) rfl,_,_,_,λy A=>(ai.aj (c.new A) au).cell (i:=1) rfl,?_⟩;refine iR (cells:=aZ.cells) aZ.len (by omega) ((h.rd.new g).new c) L (by rw [bC (by omega) (by omega)];omega) hlen λb' Vz W=>⟨_,λy A=>W y A 0 _ rfl,a' (λVr=>?_) (λVr=>?_)⟩
   ·rw [if_pos (j (by unfold j5;rw [l,D];simp;omega))];exact ⟨rfl,g.new c⟩
   ·rw [bC (by omega) (by omega)];refine ⟨v.mem.length - (i+1),by omega,i+1,_,rfl,by omega,rfl,c,λk t=>?_⟩;rcases p0.1 t with t | rfl
    ·exact f k t
    ·unfold j5;rw [l,D];simp;omega
  ·rw [bC (by omega) (by omega)];refine ⟨v.mem.length - (i+1),by omega,i+1,_,rfl,by omega,rfl,c,λk t=>?_⟩;rcases p0.1 t with t | rfl
   ·exact f k t
   ·unfold j5;rw [l];simp;omega
 have J:(List.range v.mem.length).all (j5 n v.mem)=true:=by rw [gQ];intro k t;exact f k (by have:=fE.1 t;omega)
 rw [if_neg (by rw [J];simp)];rw [Ug];have C:=ai.aj a au;refine ⟨_,_,_,C.cell (i:=1) rfl,?_⟩;refine c2 mix (λm env z=>∃ (i:Nat) (Q:ax),m=v.mem.length - i/\i<=v.mem.length/\env=w5 ⟨b1,0,none⟩ r.dL r.dN r.dW r.dN i Q/\ai Vw z/\(v.mem.take i).all mE=true) v.mem.length
  ⟨0,_,by omega,by omega,rfl,a,rfl⟩ ?_
 clear C a f Vt R;rintro m env u ⟨i,Q,rfl,Vt,rfl,a,f⟩;rw [Tr];refine a' (λR=>?_) (λR=>?_)
 ·have p:i<v.mem.length:=by omega
  have K:v.mem[i]?=some v.mem[i]:=bF p;have j:mE v.mem[i]=false->v.mem.all mE=false:=λe=>by rw [x8];exact ⟨v.mem[i],kb p,by simp [e]⟩
  refine eo (cells:=aZ.cells) aZ.len (by omega) ((h.rd.new g).new a) K rfl hlen λb o V _=>aZ.aS v.mem[i] ⟨V,?_⟩
  refine ea (vs:=v.mem[i].cells) rfl (aZ.single _) λaA Vv U B E=>?_
  have s:=a.new E;refine ⟨_,B.cell (i:=1) rfl,a' (λF=>?_) (λF=>⟨_,B.cell (i:=1) rfl,a' (λG=>?_) (λG=>?_)⟩)⟩
  ·rw [if_pos (j (by unfold mE;simp;omega))];exact ⟨rfl,g.new s⟩
  ·rw [if_pos (j (by unfold mE;simp;omega))];exact ⟨rfl,g.new s⟩
  ·rw [bC (by omega) (by omega)];refine ⟨v.mem.length - (i+1),by omega,i+1,_,rfl,by omega,rfl,s,?_⟩;rw [e7,K,List.all_append,f];simp [mE];omega
 have H:v.mem.take i=v.mem:=hO (by omega);rw [H] at f;rw [if_neg (by rw [f];simp)];rw [Uh];have C:=ai.aj a au;refine ⟨_,_,_,C.cell (i:=1) rfl,?_⟩;rw [hlen];refine aC (Vh ((h.rd.new g).new a) Vs) ?_;rintro x bu ⟨rfl,q⟩;refine ⟨_,rfl,er (λX=>?_) (λX=>?_)⟩
 ·rw [if_pos X];exact ⟨rfl,g.new (a.new q)⟩
 ·rw [if_neg (by rw [X];simp)];exact ⟨rfl,g.new (a.new q)⟩
end
section
theorem Mg {u:ak} {n cap:Nat} (i:a2 u eH 3 a n cap (f_ L).flatten) (s:n=L.length) (o:n<=1000000) {K:Nat->al->Nat->Nat->aE}
  (r:∀ b ap e g,b=u.heap.size->a2 g eH 3 ap (n+1) e (f_ (L++[m])).flatten->ao (aK a) u g->(∀ k,aK ap k->aK a k\/u.heap.size<=k)->K b ap (n+1) e g) :
  ∀ b1 j,b1=u.heap.size->j=u.alloc (.cells m.cells.toArray eH)->∃ (ap:al) (d c:Nat),∃ g,(Builtin.append_ #[zq,zq] zq #[(.slice a n cap),(.slice (some ⟨b1,0,none⟩) 1 1)]).run prog j=.ok (.slice ap d c) g/\K b1 ap d c g:=by
 obtain ⟨inf,q,au,f,p⟩:=fL (T:=eH) (z:=.agg #[.int .i64 0,.int .i64 0,.bool false]) (n:=3) (m:=24) (by kernel_rfl);rw [<-f] at i;refine ou Tryz.underlying33 q au (by rw [f];rfl) (by omega) i (by rw [f];rfl) (aZ.single m) (by omega) (by omega) ?_;intro b ap e g l h;rw [f,<-IN] at h;exact r b ap e g l h
end
section
open IntKind
variable (w:ak) (R:cA) {i k:Int} {A B:aU} {j:aq}
theorem T5:bf prog f28 [ab i] R w=(aR w #[ab 0,a6] 35 λg k=>Calls prog 51 #[ab i] k λe l=>cX.ex λb=>∃ a,e=.returned (.tuple #[b.val,ab a])/\aR l #[ab 0,a6] 35 λh j=>a8 j (af h 0) 0 b.cells λf=>lP f (af h 0) λr=>a8 f (af g 0) 0 r.cells λd=>lP d (af g 0) λc=>d=d/\R c.val d):=by kernel_rfl
def wF (a:Int) (s2 b:aU) (c:Int) (j:aq):aq:=ab a::ag j 0 1 (.pointer (some s2)::ag j 1 1 (.pointer (some b)::ab c::ag j 2 21 []))
def Fi (a b:aU) (j:aq):aq:=ag j 0 2 (.pointer (some a)::ag j 2 1 (.pointer (some b)::ag j 3 22 []))
theorem Ts:bf prog f51 [ab i] R w=(aR w #[ab 0,a6] 35 λc f=>cond (i<1) (a8 f (af c 0) 0 [ab 0,a6] λe=>lP e (af c 0) λa=>e=e/\R (.tuple #[a.val,ab 1]) e) (cond (i>5) (a8 f (af c 0) 0 [ab 0,a6] λd=>lP d (af c 0) λb=>d=d/\R (.tuple #[b.val,ab 1]) d) (aR f #[ab 0,a6] 35 λg h=>a8 h (af g 0) 0 [ab 0,a6] λj=>cu prog (c0 f51 [1,1,1,0,1,0,0]) (wF i (af c 0) (af g 0) 0 (undef::ab 0::ab i::ad (i<1)::ad false::ab i::ad (i>5)::ad (i>5)::undef::.agg #[ab 0,a6]::bd 13 [])) (aO 0 (aQ f51 [1,1,1,1] R)) j))):=by kernel_rfl
theorem QN (g:aq->aE):W prog (sb f51 [1,1,1,0,1,0,0]) (wF i A B k j) (aV g (aO 0 (aQ f51 [1,1,1,1] R))) w=(cond (k<i) (b4 w (bM B 1) λa b c=>aR w #[ab k,ab 1,ad true] 116 λh n=>c6 33 (ae a b c) (ae (bm h) 1 1) n λe d f m=>cH m (bM B 1) (ae e d f) λl=>g (wF i A B (i64.wrap (k+1)) (ag j 0 10 [ab k,ab i,ad (k<i),ab k,ab (i64.wrap (k+1)),bI B 1,ae a b c,ab k,.agg #[ab k,ab 1,ad true],ae (bm h) 1 1,ae e d f,bI B 1,aF j 22])) l) (W prog (sb f51 [1,1,1,1]) (Fi A B (ab i::aF j 0::aF j 1::ab k::ag j 2 8 (ab k::ab i::ad (k<i)::ag j 13 10 []))) (b0 f51 R) w)):=by kernel_rfl
theorem RQ:W prog (sb f51 [1,1,1,1]) (Fi A B j) (b0 f51 R) w=(lP w B λr=>a8 w A 0 r.cells λa=>lP a A λc=>a=a/\R (.tuple #[c.val,ab 0]) a):=by kernel_rfl
end
section
structure On (v:jd):Prop where
 num:0<=v.number/\v.number<16
 ee:∀ m ∈ v.mem,1<=m.ck
 ne:v.mem≠[]
 eA:v.mem.length<=5
abbrev El (A:Nat):a5:=λk=>k<A
theorem Oo {A:Nat} (b:a2 w eH 3 a L.length c (f_ L).flatten) (f:L.length<=1000000) (d:∀ k,aK a k->A<=k):f0 (El A) w ⟨n,a,L.length,c⟩ ⟨n,L⟩:=
 ⟨rfl,rfl,b.le,b.rd,g9 b.rd λk e h=>Nat.lt_irrefl _ (fX h (d k e)),f⟩
theorem f0.mono {M':a5} {v:jd} (h:f0 M w r v) (hm:∀ k,k<w.heap.size->M' k->M k):f0 M' w r v:=by
 refine ⟨h.num,h.len,h.cap,h.rd,?_,h.small⟩;rcases h.off with e | e
 ·exact .inl e
 ·rcases h.rd with a | ⟨b,o,a,f⟩
  ·exact .inl a
  ·by_cases he:(f_ v.mem).flatten=[]
   ·exact .inl he
   ·rw [a] at e ⊢;refine .inr λd=>e (hm _ ?_ d)
    cases c:(f_ v.mem).flatten with
    |nil=>exact absurd c he
    |cons x xs=>exact vb (f 0 x (by rw [c];rfl))
theorem f0.az {M N:a5} {w w':ak} {r:cX} {v:jd} (h:f0 M w r v) (d:ao N w w') (b:∀ k,N k->M k):f0 M w' r v:=
 ⟨h.num,h.len,h.cap,h.rd.az d (h.off.imp id λe=>by cases c:r.dL with
  |none=>exact trivial
  |some a=>rw [c] at e;exact λf=>e (b _ f)),h.off,h.small⟩
def stM (n:Nat):List aZ:=(List.range n).map λ(i:Nat)=>⟨(i:Int),1,true⟩
theorem pO (n:Nat):(stM n).length=n:=by simp [stM]
theorem Kg (n:Nat):stM (n+1)=stM n++[⟨(n:Int),1,true⟩]:=by simp [stM,j9]
theorem Kh {n:Nat} (h:m ∈ stM n):1<=m.ck:=by simp only [stM,cW] at h;obtain ⟨i,_,rfl⟩:=h;exact Int.le_refl _
theorem IP (w:ak) (y:1<=n) (Vs:n<=5):a_ 51 [.int .i64 n] w λx w'=>∃ (a:al) (c:Nat) (L:List aZ),x=.tuple #[cX.val ⟨0,a,L.length,c⟩,.int .i64 0]/\a2 w' eH 3 a L.length c (f_ L).flatten/\ai w w'/\L=stM n.toNat/\(∀ k,aK a k->w.heap.size<=k):=by
 refine bc Tryz.func51 ?_;rw [Ts];rintro b1 w1 J G;obtain ⟨h,A⟩:=bl J G;have h:av w1 b1 (cX.cells ⟨0,none,0,0⟩) m3:=h;clear G;refine a' (λO=>absurd O (by omega)) (λ_=>a' (λO=>absurd O (by omega)) (λ_=>?_))
 refine ea (vs:=cX.cells ⟨0,none,0,0⟩) rfl (cX.single _) λaA Vv U P B=>?_
 have H:=ai.aj B h;have z:=A.new B;have Y:=A.size;have Q:=h.lt;refine c2 mix (λm env u=>∃ (i:Nat) (a:al) (c:Nat) (L:List aZ) (R:ax),m=n.toNat - i/\i<=n.toNat/\env=wF n ⟨b1,0,none⟩ ⟨aA,0,none⟩ i R/\ai w u/\av u b1 (cX.cells ⟨0,none,0,0⟩) m3/\av u aA (cX.cells ⟨0,a,L.length,c⟩) m3/\a2 u eH 3 a L.length c (f_ L).flatten/\(∀ k,aK a k->aA<k)/\L=stM i) n.toNat
  ⟨0,none,0,[],_,by omega,by omega,rfl,z,H,P,a2.nil _ _ _,(λk f=>by obtain ⟨o,W⟩:=f;cases W),rfl⟩ ?_
 rintro m env u ⟨i,a,c,L,R,rfl,Vt,rfl,C,t,g,l,d,p⟩;have T:L.length=i:=by rw [p,pO]
 rw [QN];refine a' (λX=>?_) (λX=>?_)
 ·refine ⟨_,_,_,g.cell (i:=1) rfl,?_⟩;refine Mg l rfl (m:=⟨i,1,true⟩) (by omega) ?_;intro Vr ap cap bu V N r I;have D:=r.aj t λe=>by have:=d b1 e;omega
  have E:=r.aj g λe=>by have:=d aA e;omega
  have Z:=g.lt;have j:∀ k,aK ap k->aA<k:=λk f=>by
   rcases I k f with y | y
   ·exact d k y
   ·omega
  refine rp (b:=aA) E (o:=0+1) (by simp [cX.cells]) λVu F s=>?_
  rw [bC (by omega) (by omega)];refine ⟨n.toNat - (i+1),by omega,i+1,ap,cap,L++[⟨i,1,true⟩],_,rfl,by omega,rfl,?_,s.aj D (by omega),?_,?_,j,by rw [p,Kg]⟩
  ·have y:ai w bu:=r' C r λk f=>by have:=d k f;omega
   exact y.trans s λk M e=>by omega
  ·rw [dH];exact F
  ·rw [dH];exact a2.az s N λk f e=>by have:=j k f;omega
 ·have K:i=n.toNat:=by omega
  rw [RQ];refine cX.aS ⟨0,a,L.length,c⟩ ⟨bK g rfl,?_⟩;refine ⟨f7 t (by simp [cX.cells]) (cX.single _),λS hu=>?_⟩;have f:ao (λk=>k=b1) u S:=by rw [hu];exact hT _ _ _ _ _
  have au:av S b1 (cX.cells ⟨0,a,L.length,c⟩) m3:=by rw [hu];exact t.ct
  refine cX.aS ⟨0,a,L.length,c⟩ ⟨bK au rfl,rfl,a,c,L,rfl,?_,?_,by rw [p,K],?_⟩
  ·exact a2.az f l λk q e=>by have:=d k q;omega
  ·exact C.trans f λk M e=>by omega
  ·intro k q;have:=d k q;omega
theorem yH (w:ak) (G:1<=n) (H:n<=5):a_ 28 [.int .i64 n] w λx w'=>∃ r v,x=cX.val r/\f0 (El w.heap.size) w' r v/\ai w w'/\On v/\v=⟨0,stM n.toNat⟩:=by
 refine bc Tryz.func28 ?_;rw [T5];rintro b1 w1 z y;obtain ⟨l,q⟩:=bl z y;have l:av w1 b1 (cX.cells ⟨0,none,0,0⟩) m3:=l;clear y;refine aC (IP w1 G H) ?_;rintro v N ⟨a,c,L,rfl,u,s,f,B⟩;have p:(L.length:Int)=n:=by rw [f,pO];omega
 have A:∀ m ∈ L,1<=m.ck:=λm hm=>Kh (f▸hm)
 refine cX.aS ⟨0,a,L.length,c⟩ ⟨_,rfl,?_⟩;refine ea (vs:=cX.cells ⟨0,a,L.length,c⟩) rfl (cX.single _) λaA M I D j=>?_
 refine cX.aS ⟨0,a,L.length,c⟩ ⟨bK D rfl,?_⟩;have d:=ai.aj (s.new j) l;have b:=a2.new j u;refine ⟨f7 d (by simp [cX.cells]) (cX.single _),λF hu=>?_⟩;have E:ao (λk=>k=b1) M F:=by rw [hu];exact hT _ _ _ _ _
 have au:av F b1 (cX.cells ⟨0,a,L.length,c⟩) m3:=by rw [hu];exact d.ct
 have C:∀ k,aK a k->k≠b1:=λk i e=>by
  subst e;obtain ⟨o,t⟩:=i;rcases b.2 with ⟨h,_⟩ | ⟨g,cur,he,J,_⟩
  ·rw [h] at t;cases t
  ·rw [he] at t;simp at t;exact absurd (J.uniq (t.1▸d)).2 (by decide)
 refine cX.aS ⟨0,a,L.length,c⟩ ⟨bK au rfl,rfl,_,⟨0,L⟩,rfl,Oo (a2.az E b C) (by omega) (λk i=>by have:=B k i;have:=q.size;omega),?_,⟨⟨by simp,by simp⟩,A,λe=>?_,?_⟩,by rw [f]⟩
 ·exact (q.new (s.new j)).trans E λk K e=>by omega
 ·have e:L=[]:=e;rw [e] at p;simp at p <;> omega
 ·show L.length<=5;omega
end
section
open IntKind
variable (w:ak) (R:cA) {X:a4} {a:Nat} {i k:Int} {j:aq}
theorem Hj (a b c d f g:Int) (h:al) (i k:Nat) (l m:Int) (w:ak) (R:cA):bf prog f130 [.agg #[ab a,ab b,ab c,ab d,ah f,ah g,ae h i k,ah l,ab m]] R w=(aR w #[ab a,ab b,ab c,ab d,ah f,ah g,ae h i k,ah l,ab m] 158 λb1 w1=>bt w1 (af b1 0) λn=>cond (n == 1) (bt w1 (af b1 3) λe=>R (ab e) w1) (cond (n == 2) (b4 w1 (af b1 6) λo p q=>R (ab (p:Nat)) w1) (cond (n == 3) (cond (n == 3) (R (ab 1) w1) (R (ab 0) w1)) (cond (n == 4) (R (ab 1) w1) (R (ab 0) w1))))):=by kernel_rfl
theorem Vi (a b c d f g:Int) (h:al) (i k:Nat) (l m:Int) (w:ak) (R:cA):bf prog f138 [.agg #[ab a,ab b,ab c,ab d,ah f,ah g,ae h i k,ah l,ab m]] R w=(aR w #[ab a,ab b,ab c,ab d,ah f,ah g,ae h i k,ah l,ab m] 158 λb1 w1=>R (.func (.func 186) #[] #[a9 b1]) w1):=by kernel_rfl
def wS (a:a4) (b c:Int) (j:aq):aq:=a::ag j 0 2 (ab b::ab c::ag j 2 24 [])
theorem UQ:bf prog f186 [X,a9 a] R w=(cq w λq j=>cL j (af a 2) λp=>my j (af a 0) λe b c o d f g h i k l=>cm 130 #[.agg #[ab e,ab b,ab c,ab o,ah d,ah f,ae g h i,ah k,ab l]] q λm n=>j n/\cu prog (c0 f186 [1,0,0]) (wS X p m (jp (af a 0)::bd 2 (jp (af a 2)::ab p::.agg #[ab e,ab b,ab c,ab o,ah d,ah f,ae g h i,ah k,ab l]::ab m::bd 19 []))) (aO 0 (b0 f186 R)) n):=by kernel_rfl
theorem R4 (c:aq->aE):W prog (sb f186 [1,0,0]) (wS X i k j) (aV c (aO 0 (b0 f186 R))) w=(cond (k>0) (iS prog X #[.agg #[ab i,ab (if ((i64.wrap (8 - (Int.tmod i 8))):Int)<k then ((i64.wrap (8 - (Int.tmod i 8))):Int) else k)]] w λe b=>∃ a,e=.returned (ad a)/\cond (!a) (R (.tuple #[]) b) (c (wS X (i64.wrap (i+(if ((i64.wrap (8 - (Int.tmod i 8))):Int)<k then ((i64.wrap (8 - (Int.tmod i 8))):Int) else k))) (i64.wrap (k - (if ((i64.wrap (8 - (Int.tmod i 8))):Int)<k then ((i64.wrap (8 - (Int.tmod i 8))):Int) else k))) (aF j 0::aF j 1::ab (if ((i64.wrap (8 - (Int.tmod i 8))):Int)<k then ((i64.wrap (8 - (Int.tmod i 8))):Int) else k)::ag j 3 4 [ab k,ad (k>0),ab k,ab i,ab (Int.tmod i 8),ab (i64.wrap (8 - (Int.tmod i 8))),ab (if ((i64.wrap (8 - (Int.tmod i 8))):Int)<k then ((i64.wrap (8 - (Int.tmod i 8))):Int) else k),X,ab i,ab (if ((i64.wrap (8 - (Int.tmod i 8))):Int)<k then ((i64.wrap (8 - (Int.tmod i 8))):Int) else k),.agg #[ab i,ab (if ((i64.wrap (8 - (Int.tmod i 8))):Int)<k then ((i64.wrap (8 - (Int.tmod i 8))):Int) else k)],ad a,ad (!a),ab i,ab (if ((i64.wrap (8 - (Int.tmod i 8))):Int)<k then ((i64.wrap (8 - (Int.tmod i 8))):Int) else k),ab (i64.wrap (i+(if ((i64.wrap (8 - (Int.tmod i 8))):Int)<k then ((i64.wrap (8 - (Int.tmod i 8))):Int) else k))),ab k,ab (if ((i64.wrap (8 - (Int.tmod i 8))):Int)<k then ((i64.wrap (8 - (Int.tmod i 8))):Int) else k),ab (i64.wrap (k - (if ((i64.wrap (8 - (Int.tmod i 8))):Int)<k then ((i64.wrap (8 - (Int.tmod i 8))):Int) else k)))])) b)) (R (.tuple #[]) w)):=by kernel_rfl
end
section
theorem iT (h:b6 w bw 0 v.cells)
  (a:K v.Kind v.Node v.bW v.N v.Old v.ai v.Words v.cI v.cC v.Key v.ck) :
  ∃ (Kind:Int) (Node:Int) (bW:Int) (N:Int) (Old:Int) (ai:Int) (Words:al) (cI:Nat) (cC:Nat) (Key:Int) (ck:Int),
   b6 w bw 0 [.int .i64 Kind,.int .i64 Node,.int .i64 bW,.int .i64 N,.int .u64 Old,.int .u64 ai,.slice Words cI cC,.int .u64 Key,.int .i64 ck]/\K Kind Node bW N Old ai Words cI cC Key ck:=
 ⟨_,_,_,_,_,_,_,_,_,_,_,h,a⟩
theorem mF {S:aE} (h:∀ u,S u->b6 u bw 0 v.cells)
  (a:K v.Kind v.Node v.bW v.N v.Old v.ai v.Words v.cI v.cC v.Key v.ck) :
  ∃ (Kind:Int) (Node:Int) (bW:Int) (N:Int) (Old:Int) (ai:Int) (Words:al) (cI:Nat) (cC:Nat) (Key:Int) (ck:Int),
   (∀ u,S u->b6 u bw 0 [.int .i64 Kind,.int .i64 Node,.int .i64 bW,.int .i64 N,.int .u64 Old,.int .u64 ai,.slice Words cI cC,.int .u64 Key,.int .i64 ck])/\K Kind Node bW N Old ai Words cI cC Key ck:=
 ⟨_,_,_,_,_,_,_,_,_,_,_,h,a⟩
abbrev cy:TypeId:=158
theorem g2 {b:Nat} (h:av w b v.cells cy):b6 w ⟨b,0,none⟩ 0 v.cells:=bK h (by simp [aG.cells])
theorem oJ (w:ak) (v:aG):av (w.alloc (.cells v.cells.toArray cy)) w.heap.size v.cells cy:=pv _ _ _
def aG.count (v:aG):Int:=if v.Kind=1 then v.N else if v.Kind=2 then v.cI else if v.Kind=3\/v.Kind=4 then 1 else 0
theorem vc (w:ak) (v:aG):a_ 130 [v.val] w λx w'=>x=.int .i64 v.count/\ai w w':=by
 refine bc Tryz.func130 ?_;refine Eq.mpr (Hj v.Kind v.Node v.bW v.N v.Old v.ai v.Words v.cI v.cC v.Key v.ck w _) ?_;rintro b1 w1 rfl rfl;have f:=oJ w v;have a:=hk w (.cells v.cells.toArray cy);refine ⟨_,f.cell rfl,dJ (λc=>⟨_,f.cell rfl,?_,a⟩) (λc=>dJ (λd=>⟨_,_,_,f.cell rfl,?_,a⟩) (λd=>dJ (λb=>dJ (λ_=>⟨?_,a⟩) (λh=>absurd b h)) (λb=>dJ (λe=>⟨?_,a⟩) (λe=>⟨?_,a⟩))))⟩
 ·simp [aG.count,c]
 ·simp [aG.count,d]
 ·simp [aG.count,b]
 ·simp [aG.count,e]
 ·simp [aG.count,c,d,b,e]
end
section
open Go.RowKit
def EU (x:Int×Int):Array a4:=#[.agg #[.int .i64 x.1,.int .i64 x.2]]
def hy:Nat->Int->Int->List (Int×Int)
 | 0,_,_=>[]
 |f+1,at_,left=>if left<=0 then [] else (at_,if 8 - at_ % 8<left then 8 - at_ % 8 else left)::
   hy f (at_+(if 8 - at_ % 8<left then 8 - at_ % 8 else left)) (left - (if 8 - at_ % 8<left then 8 - at_ % 8 else left))
def aG.pieces (v:aG):List (Int×Int):=hy v.count.toNat v.bW v.count
theorem Hz {w':ak} (h:Go.br.ai w w'):w.grownBy w' none:=⟨h.os,h.tape,h.output,h.size,λk a _=>h.block k a id⟩
theorem IQ {m:Nat} {l:Nat} {args:Array a4} {W:ak} {R:Ending->aE} (h:YieldAt Fence.wide m P l args W R) (k:Nat):YieldAt Fence.wide k P l args W R:=by obtain ⟨fn,tmps,assign,body,b,a⟩:=h;exact ⟨fn,tmps,assign,body,b,a.1,λc cs _=>a.2 c cs (room_wide _)⟩
theorem IS (n l d S:Nat) (v:aG) (a1 w:List (Int×Int)->aE) (A:0<=v.bW) (I:v.bW<=1000000) (J:1<=v.count) (K:v.count<=1000000) (W:ak)
  (G:AbidesFrom W.heap.size a1) (H:∀ pre x W,a1 pre W->pre.length<v.pieces.length->YieldAt Fence.wide (n - 1) prog l (EU x) W λe W'=>
   (e=.returned (.bool true)/\a1 (pre++[x]) W'/\Below S W W')\/(e=.returned (.bool false)/\w (pre++[x]) W'))
  (g:∀ u,Below (d+1) W u->b6 u ⟨d,0,none⟩ 0 v.cells) (U:d+1<=W.heap.size) (F:a1 [] W) :
  CallsIn Fence.wide n prog 186 #[.func (.yield l) #[] #[],.pointer (some ⟨d,0,none⟩)] W λe W'=>(∃ v,e=.returned v)/\
   ((∃ ys,ys=v.pieces/\a1 ys W')\/(∃ pre,pre <+: v.pieces/\w pre W')):=by
 refine callsIn_wide.2 (Calls.mono (R:=λe w'=>∃ x,e=.returned x/\((∃ ys,ys=v.pieces/\a1 ys w')\/(∃ pre,pre <+: v.pieces/\w pre w'))) ?_ λe w' ⟨x,P,O⟩=>⟨⟨x,P⟩,O⟩);refine bc Tryz.func186 (args:=[.func (.yield l) #[] #[],.pointer (some ⟨d,0,none⟩)]) (R:=λ_ w'=>(∃ ys,ys=v.pieces/\a1 ys w')\/(∃ pre,pre <+: v.pieces/\w pre w')) ?_;rw [UQ];intro w1 t;have q:Go.br.ai W w1:=by rw [t];exact cD _
 clear t;have o:∀ u,Go.br.ai w1 u->Below (d+1) W u:=λu hu=>(q.new hu).below (by omega) λ_ _ h=>h
 refine ⟨λu=>Go.br.ai w1 u,ao.refl _ _,v.bW,λu hu=>?_,?_⟩
 ·have:=g u (o u hu);exact this.2.2.1
 refine mF (v:=v) (λu hu=>g u (o u hu)) ?_;refine aC (vc _ v) ?_;rintro r T ⟨rfl,s⟩;refine ⟨_,rfl,s,?_⟩;have y:a1 [] T:=G _ _ _ none F (Hz (q.new s)) (λ_ h=>by cases h);refine c2 mix (λm env u=>∃ (f:Nat) (at_ left:Int) (E:ax) (pre:List (Int×Int)),m=f/\left<=f/\0<=at_/\0<=left/\at_+left<=2000000/\env=wS (.func (.yield l) #[] #[]) at_ left E/\v.pieces=pre++hy f at_ left/\a1 pre u) v.count.toNat
  ⟨v.count.toNat,v.bW,v.count,_,[],rfl,by omega,A,by omega,by omega,rfl,rfl,y⟩ ?_
 rintro f env u ⟨_,at_,left,E,pre,rfl,M,B,hle,D,rfl,a,i⟩;rw [R4];refine a' (λN=>?_) (λN=>?_)
 ·obtain ⟨b,rfl⟩:∃ b,f=b+1:=⟨f - 1,by omega⟩;have p:Int.tmod at_ 8=at_ % 8:=x7 B
  rw [p,bC (x:=8 - at_ % 8) (by omega) (by omega)];generalize C:(if 8 - at_ % 8<left then 8 - at_ % 8 else left)=k;have L:1<=k/\k<=left/\k<=8:=by rw [<-C];split<;>omega
  have c:hy (b+1) at_ left=(at_,k)::hy b (at_+k) (left - k):=by rw [hy,if_neg (by omega),C]
  rw [c] at a;have Q:=IQ (H pre (at_,k) u i (by rw [a];simp)) 0;refine Exists.imp (λfn=>Exists.imp λtmps=>Exists.imp λassign=>Exists.imp λbody=>And.imp id λh=>RoundIn.mono h ?_) Q;rintro e V (⟨rfl,z,_⟩ | ⟨rfl,j⟩)
  ·refine ⟨_,rfl,cR rfl ?_⟩;rw [bC (by omega) (by omega),bC (by omega) (by omega)];refine ⟨b,by omega,b,at_+k,left - k,_,pre++[(at_,k)],rfl,by omega,by omega,by omega,by omega,rfl,by rw [a];simp,z⟩
  ·exact ⟨_,rfl,eB rfl (.inr ⟨_,⟨hy b (at_+k) (left - k),by rw [a];simp⟩,j⟩)⟩
 ·refine .inl ⟨pre,?_,i⟩;have:left=0:=by omega
  subst this;rw [a];cases f<;>simp [hy]
end
section
open Go.RowKit
theorem z5:∀ (f:Nat) (at_ left:Int),0<=at_->∀ p ∈ hy f at_ left,at_<=p.1/\1<=p.2/\p.2<=8/\p.1+p.2<=at_+left
 | 0,_,_,_,p,a=>by simp [hy] at a
 |f+1,at_,left,b,p,a=>by
  unfold hy at a;split at a
  ·simp at a
  ·rename_i c;rcases e9.1 a with rfl | a
   ·simp only;split<;>omega
   ·have:=z5 f _ _ (by split<;>omega) p a;split at this<;>omega
theorem Hk (f:Nat) (at_ left:Int) (h:1<=left) (a:1<=f):hy f at_ left≠[]:=by
 cases f with
 |zero=>omega
 |succ f=>unfold hy;rw [if_neg (by omega)];simp
theorem ms:∀ (f:Nat) (at_ left:Int),(hy f at_ left).length<=f
 | 0,_,_=>by simp [hy]
 |f+1,at_,left=>by
  unfold hy;split
  ·simp
  ·simp only [hh];have:=ms f (at_+(if 8 - at_ % 8<left then 8 - at_ % 8 else left)) (left - (if 8 - at_ % 8<left then 8 - at_ % 8 else left));omega
def nS (b_:List (Int×Int)):List ax:=b_.map λp=>[.int .i64 p.1,.int .i64 p.2]
theorem I9 (b_:List (Int×Int)):∀ r ∈ nS b_,r.length=2:=by intro r a;simp only [nS,cW] at a;obtain ⟨v,_,rfl⟩:=a;rfl
theorem I_ {b_:List (Int×Int)} {p:Int×Int} (h:b_[i]?=some p):(nS b_)[i]?=some [.int .i64 p.1,.int .i64 p.2]:=by simp [nS,h]
abbrev qn:TypeId:=185
end
section
open Go.RowKit
theorem za (hm:P.follows .mixedOrders=true) {a b:Code} {N:ax->aE} (h:W P a env (aV N (λ_ _ _=>False)) w) (i:∀ env w,N env w->b.wp P Q (act env) w):(Code.seq a b).wp P Q (act env) w:=by
 refine wp_seq (wp_mono (pL hm a env _ w h) λe k w' f=>?_);obtain ⟨he,d,j,g⟩:=qL f;subst j;clear f;cases e with
 |normal=>exact i d w' g
 |panic c=>exact absurd rfl (he.1 c)
 |outgrown=>exact absurd rfl he.2
 | _=>exact g.elim
theorem Ki (w:ak) (v:aG):a_ 138 [v.val] w λr w'=>r=.func (.func 186) #[] #[.pointer (some ⟨w.heap.size,0,none⟩)]/\av w' w.heap.size v.cells cy/\Go.br.ai w w'/\w'.heap.size=w.heap.size+1:=by refine bc Tryz.func138 ?_;refine Eq.mpr (Vi v.Kind v.Node v.bW v.N v.Old v.ai v.Words v.cI v.cC v.Key v.ck w _) ?_;rintro b1 w1 a b;obtain ⟨au,c⟩:=bl a b;refine ⟨by rw [a],a▸au,c,by rw [b];simp⟩
theorem OT (v:aG) (w:ak) (N:ax->aE):W prog (sub (bo f98) [0]) [v.val,undef,undef,undef,undef,undef,undef,undef,undef,undef,undef,undef,undef] (aV N (λ_ _ _=>False)) w =
  (∀ b1 w1,b1=w.heap.size->w1=w.alloc (.cells v.cells.toArray 158)->N [v.val,.pointer (some ⟨b1,0,none⟩),.slice none 0 0,undef,undef,undef,undef,undef,undef,undef,undef,undef,undef] w1):=by kernel_rfl
theorem OU (v x:a4) (b:Nat) (w:ak) (N:ax->aE):W prog (sub (bo f98) [1,0]) [v,.pointer (some ⟨b,0,none⟩),x,undef,undef,undef,undef,undef,undef,undef,undef,undef,undef] (aV N (λ_ _ _=>False)) w =
  (∀ b1 w1,b1=w.heap.size->w1=w.alloc (.cells #[.slice none 0 0] 181)->N [v,.pointer (some ⟨b,0,none⟩),x,.pointer (some ⟨b1,0,none⟩),undef,undef,undef,undef,undef,undef,undef,undef,undef] w1):=by kernel_rfl
def yI (o:Oper):Bool:=match o.op with | .defer _=>false | _=>true
def plain:Code->Bool
 | .region _ ops false=>ops.toList.all yI
 | _=>false
theorem Fn {o:Oper} {a:Act} {next next':Act->aE} (r n:Nat) (g:∀ a w,next a w->next' a w):∀ {x:Result Next},o.uponIn Fence.wide 0 P a next Q x->o.uponIn (Fence.wide.inRound r) n P a next' Q x
 | .ok (.value v) w',h=>g _ _ h
 | .ok .skip w',h=>g _ _ h
 | .ok (.defer d) w',h=>g _ _ h
 | .ok (.enter f args) w',h=>by
  refine ⟨λi=>by simp [Fence.wide] at i,trivial,λcs _=>?_⟩;obtain ⟨e,k,f9,b,j,p⟩:=h.2.2 cs (room_wide _);refine ⟨e,k,f9,?_,j,p⟩;cases e with
  |returned v=>exact g _ _ b
  |panicked c=>exact b
  |outgrown=>exact b
 | .ok (.row row args) w',h=>by refine ⟨λi=>by simp [Fence.wide] at i,λc cs _=>?_⟩;obtain ⟨v,k,b,j⟩:=h.2 c cs (room_wide _);exact ⟨v,k,g _ _ b,j⟩
 | .ok (.round l f tmps assign body) w',h=>by
  refine ⟨λi=>by simp [Fence.wide] at i,trivial,λc cs _=>?_⟩;obtain ⟨e,k,b,j⟩:=h.2.2 c cs (room_wide _);refine ⟨e,k,?_,j⟩;cases e with
  |returned v=>exact g _ _ b
  |panicked c=>exact b
  |outgrown=>exact b
 | .halt (.panic v) w',h=>h
 | .halt (.stuck s) w',h=>by cases h
theorem A0 {P:Program} {ops:Array Oper} {Q:Exit->Act->aE} (r n:Nat):∀ (l:List Oper) (a:Act) (w:ak),(∀ o ∈ l,yI o=true)->wpListIn Fence.wide 0 P ops Q l a w->wpListIn (Fence.wide.inRound r) n P ops Q l a w
 | [],_,_,_,h=>h
 |o::l,a,w,ar,h=>by
  have d:=λa w=>A0 (P:=P) (ops:=ops) (Q:=Q) r n l a w λo f=>ar o (fD _ f)
  unfold wpListIn at h ⊢;split at h
  ·rename_i hw;rw [if_pos hw];refine ⟨λ_ _=>trivial,?_⟩;have b:=h.2;rw [show Fence.wide.round=none from rfl,Oper.semAt_none] at b;rw [show (Fence.wide.inRound r).round=some r from rfl,Oper.semAt_some _ _ _ (λc e=>by have:=ar o e_;simp [yI,e] at this)];exact Fn r n d b
  ·rename_i hw;rw [if_neg hw];exact ⟨λ_ _=>trivial,d _ _ h.2⟩
theorem C1 {c:Code} (a:plain c=true) {Q:Exit->ax->aE} (r n:Nat) (h:W P c env Q w):c.wpIn (Fence.wide.inRound r) n P (qc Q) (act env) w:=by
 cases c with
 |region id ops d=>
  cases d with
  |true=>simp [plain] at a
  |false=>unfold W at h;refine wpIn_region_list (A0 r n _ _ _ (λo e=>?_) (ov (all:=ops.toList) ops.toList env w (Q .normal) (λenv w b=>jh b ⟨λ_=>by simp,by simp⟩) h));simp only [plain,gQ] at a;exact a o e
 | _=>simp [plain] at a
theorem OV (v x:a4) (b aA:Nat) (w:ak) (N:ax->aE):W prog (sub (bo f98) [1,1,0,0]) [v,.pointer (some ⟨b,0,none⟩),x,.pointer (some ⟨aA,0,none⟩),undef,undef,undef,undef,undef,undef,undef,undef,undef] (aV N (λ_ _ _=>False)) w =
  (∃ (Kind:Int) (Node:Int) (bW:Int) (d:Int) (Old:Int) (ai:Int) (Words:al) (c:Nat) (a:Nat) (Key:Int) (ck:Int),b6 w ⟨b,0,none⟩ 0 [(.int .i64 Kind),(.int .i64 Node),(.int .i64 bW),(.int .i64 d),(.int .u64 Old),(.int .u64 ai),(.slice Words c a),(.int .u64 Key),(.int .i64 ck)]/\
   Calls prog 138 #[(.agg #[(.int .i64 Kind),(.int .i64 Node),(.int .i64 bW),(.int .i64 d),(.int .u64 Old),(.int .u64 ai),(.slice Words c a),(.int .u64 Key),(.int .i64 ck)])] w λe f=>∃ r,e=.returned r/\
    N [v,.pointer (some ⟨b,0,none⟩),x,.pointer (some ⟨aA,0,none⟩),undef,(.agg #[(.int .i64 Kind),(.int .i64 Node),(.int .i64 bW),(.int .i64 d),(.int .u64 Old),(.int .u64 ai),(.slice Words c a),(.int .u64 Key),(.int .i64 ck)]),r,undef,undef,undef,undef,undef,undef] f):=by kernel_rfl
theorem N1 (v x y z r:a4) (aA:Nat) (p:Int×Int) (w:ak) (N:ax->aE):W prog (sub (bo f98) [1,1,0,1,0,0]) [v,y,x,.pointer (some ⟨aA,0,none⟩),undef,z,r,.agg #[.int .i64 p.1,.int .i64 p.2],undef,undef,undef,undef,undef] (aV N (λ_ _ _=>False)) w =
  (∀ b1 w1,b1=w.heap.size->w1=w.alloc (.cells #[.int .i64 0,.int .i64 0] qn)->eh w1 ⟨b1,0,none⟩ 0 [.int .i64 p.1,.int .i64 p.2]/\∀ a,a=ct w1 ⟨b1,0,none⟩ 0 [.int .i64 p.1,.int .i64 p.2]->
   N [v,y,x,.pointer (some ⟨aA,0,none⟩),.pointer (some ⟨b1,0,none⟩),z,r,.agg #[.int .i64 p.1,.int .i64 p.2],undef,undef,undef,undef,undef] a):=by kernel_rfl
theorem N2 (v x y z r t:a4) (aA f:Nat) (w:ak) (N:ax->aE):W prog (sub (bo f98) [1,1,0,1,0,1,0]) [v,y,x,.pointer (some ⟨aA,0,none⟩),.pointer (some ⟨f,0,none⟩),z,r,t,undef,undef,undef,undef,undef] (aV N (λ_ _ _=>False)) w =
  (∃ (a:al) (n c:Nat),w.cell? ⟨aA,0,none⟩=some (.slice a n c)/\∃ (g h:Int),b6 w ⟨f,0,none⟩ 0 [.int .i64 g,.int .i64 h]/\∀ b1 w1,b1=w.heap.size->w1=w.alloc (.cells #[.int .i64 g,.int .i64 h] qn)->
   ∃ (ap:al) (d b:Nat),∃ e,(Builtin.append_ #[181,181] 181 #[(.slice a n c),(.slice (some ⟨b1,0,none⟩) 1 1)]).run prog w1=.ok (.slice ap d b) e/\
    (∃ u,e.cell? ⟨aA,0,none⟩=some u)/\e.frozen? ⟨aA,0,none⟩=false/\∀ i,i=e.setCell ⟨aA,0,none⟩ (.slice ap d b)->
    N [v,y,x,.pointer (some ⟨aA,0,none⟩),.pointer (some ⟨f,0,none⟩),z,r,t,.slice a n c,.agg #[.int .i64 g,.int .i64 h],.slice (some ⟨b1,0,none⟩) 1 1,.slice ap d b,undef] i):=by kernel_rfl
end
end Go.Proofs.YtmkljjbioomepaaGreat
