import Derived.Test.YtmkljjbioomepaaGreate02
import Derived.Test.YtmkljjbioomepaaGreate03
import Derived.Test.YtmkljjbioomepaaGreatProg
import Derived.RangeFuncNested
import Derived.RangeFuncBound
import Derived.RangeFuncCalls
import Derived.RangeFuncLeaves
set_option linter.all false
set_option maxHeartbeats 4000000
set_option maxRecDepth 100000
namespace Go.Proofs.YtmkljjbioomepaaGreat
open Go.Proofs.Tryz Go.bn
variable {K:Int->Int->Int->Int->Int->Int->an->Nat->Nat->Int->Int->Prop} {M:a2} {P:Program} {Q:Exit->Act->aE} {a:an} {bu:aV} {c i:Nat} {env:aw} {n:Int} {w:al}
section
abbrev ed:TypeId:=116
abbrev mu:TypeId:=35
abbrev yp:TypeId:=33
def fW (l:List aO):List aw:=l.map aO.cells
theorem H9 (l:List aO) (m:aO):(fW (l++[m])).flatten=(fW l).flatten++m.cells:=by simp [fW]
structure iI where
 number:Int
 mem:List aO
def jn:aO:=⟨0,0,false⟩
def t8 (n:Int) (l:List aO) (i:Nat):Bool:=
 decide (0<=(l.getD i jn).Node/\(l.getD i jn).Node<n) && (decide (i=0) || decide ((l.getD (i - 1) jn).Node<(l.getD i jn).Node))
def l1 (m:aO):Bool:=decide (1<=m.ch/\m.ch<=31)
def iI.valid (v:iI) (n:Int):Int:=
 if ¬ (1<=n/\n<=5) then 1 else if v.number<0\/16<=v.number then 2 else if v.mem.length=0 then 1
 else if (List.range v.mem.length).all (t8 n v.mem)=false then 1 else if v.mem.all l1=false then 2 else if v.mem.any aO.Full=false then 13 else 0
structure fG (M:a2) (w:al) (r:cO) (v:iI):Prop where
 num:r.Number=v.number
 len:r.eM=v.mem.length
 cap:r.eM<=r.fv
 rd:bg w r.e8 (fW v.mem).flatten
 off:(fW v.mem).flatten=[]\/fM M r.e8
 small:v.mem.length<=1000000
theorem fG.new {M:a2} {w w':al} {r:cO} {v:iI} (h:fG M w r v) (a:ai w w'):fG M w' r v:=⟨h.num,h.len,h.cap,h.rd.new a,h.off,h.small⟩
theorem IZ (w:al) (n:Int):ba 200 [.int .i64 n] w λv w'=>v=.bool (decide (1<=n/\n<=5))/\w'=w:=by
 refine bc Tryz.func200 ?_;rw [TH];refine a9 (λh=>⟨?_,rfl⟩) (λh=>⟨?_,rfl⟩)
 ·congr 1;simp;omega
 ·congr 1;simp;omega
theorem Js (w:al) (m:aO):ba 202 [m.val] w λv w'=>v=.bool m.Full/\ai w w':=by refine bc Tryz.func202 ?_;rw [TW];rintro b1 w1 a b;obtain ⟨au,c⟩:=bk a b;exact ⟨_,au.cell rfl,rfl,c⟩
theorem M2:hU prog 202=true:=by kernel_rfl
section
attribute [local irreducible] hU ix mb
theorem G3 {l:List aO} (h:bg w a (fW l).flatten) (t:l.length<=1000000) :
  ba 234 [.slice a l.length c,.func (.func 202) #[] #[]] w λv w'=>∃ z:Int,v=.int .i64 z/\(decide (z>=0)=l.any aO.Full)/\ai w w':=by
 refine bc Tryz.func234 ?_;rw [OF];refine c1 mix (λm env u=>∃ (i:Nat) (n:aw),m=l.length - i/\i<=l.length/\env=u0 a l.length c (.func (.func 202) #[] #[]) l.length i n/\ai w u/\(l.take i).any aO.Full=false) l.length
  ⟨0,_,by omega,by omega,rfl,ao.refl _ _,rfl⟩ ?_
 rintro m env u ⟨i,n,rfl,s,rfl,g,d⟩;rw [OB];refine a9 (λr=>?_) (λr=>?_)
 ·have e:i<l.length:=by omega
  have k:l[i]?=some l[i]:=bM e;refine ew (cells:=aO.cells) aO.len (by omega) (h.new g) k rfl rfl λb o q _=>aO.aS l[i] ⟨q,?_⟩
  refine pU M2 (xs:=#[l[i].val]) (by simp) ?_;refine aD (Js _ l[i]) ?_;rintro v bH ⟨rfl,f⟩;refine ⟨_,rfl,fy (λj=>⟨i,rfl,?_,g.new f⟩) (λj=>?_)⟩
  ·have p:l.any aO.Full=true:=o2.2 ⟨l[i],jw e,j⟩;rw [p];simp
  ·rw [bA (by omega) (by omega)];refine ⟨l.length - (i+1),by omega,i+1,_,rfl,by omega,rfl,g.new f,?_⟩;rw [eT,k,List.any_append,d];simpa using j
 ·rw [OD];have:l.take i=l:=gb (by omega);rw [this] at d;exact ⟨-1,rfl,by rw [d];decide,g⟩
end
theorem TX {l:List aO} (h:bg w a (fW l).flatten) (b:l.length<=1000000) :
  ba 201 [.slice a l.length c,.func (.func 202) #[] #[]] w λv w'=>v=.bool (l.any aO.Full)/\ai w w':=by
 refine bc Tryz.func201 ?_;rw [OK];refine aD (G3 h b) ?_;rintro v w1 ⟨z,rfl,au,d⟩;exact ⟨_,rfl,by rw [au],d⟩
theorem vT {p:Nat->Bool} {n:Nat} (a:i<n) (h:p i=false):(List.range n).all p=false:=by rw [wS];exact ⟨i,dS.2 a,by simp [h]⟩
theorem nL {α:Type} {l:List α} {x d:α} (h:l[i]?=some x):l.getD i d=x:=by rw [cK,h];rfl
theorem Bw {r:cO} {v:iI} (h:fG M w r v) (n:Int):ba 166 [r.val,.int .i64 n] w λx w'=>x=.int .i64 (v.valid n)/\ai w w':=by
 refine bc Tryz.func166 ?_;rw [Gw];rintro b1 w1 T P;obtain ⟨au,g⟩:=bk T P;have au:av w1 b1 r.cells mu:=au;clear P;have Uj:=h.small;have hlen:=h.len;have Ul:=h.num;unfold iI.valid;refine aD (IZ _ n) ?_;rintro x Um ⟨rfl,rfl⟩;refine ⟨_,rfl,dZ (λS=>?_) (λS=>?_)⟩
 ·rw [if_pos (by simpa using S)];exact ⟨rfl,g⟩
 have N:1<=n/\n<=5:=by simpa using S
 rw [if_neg (λe=>e N)];refine ⟨_,au.cell rfl,a9 (λUo=>?_) (λUo=>⟨_,au.cell rfl,a9 (λY=>?_) (λY=>?_)⟩)⟩
 ·rw [if_pos (by omega)];exact ⟨rfl,g⟩
 ·rw [if_pos (by omega)];exact ⟨rfl,g⟩
 rw [if_neg (by omega)];refine ⟨_,_,_,au.cell rfl,dJ (λUn=>?_) (λUn=>⟨_,_,_,au.cell rfl,?_⟩)⟩
 ·rw [if_pos (by omega)];exact ⟨rfl,g⟩
 rw [if_neg (by omega)];refine c1 mix (λm env u=>∃ (i:Nat) (Q:aw),m=v.mem.length - i/\i<=v.mem.length/\env=i0 n ⟨b1,0,none⟩ r.e8 r.eM r.fv r.eM i Q/\ai Um u/\∀ k,k<i->t8 n v.mem k=true) v.mem.length
  ⟨0,_,by omega,by omega,rfl,ao.refl _ _,λk t=>by omega⟩ ?_
 rintro m env u ⟨i,Q,rfl,Uk,rfl,a,f⟩;rw [R1];refine a9 (λR=>?_) (λR=>?_)
 ·have p:i<v.mem.length:=by omega
  have K:v.mem[i]?=some v.mem[i]:=bM p;have l:=nL (d:=jn) K;have j:t8 n v.mem i=false->(List.range v.mem.length).all (t8 n v.mem)=false:=vT p;refine ew (cells:=aO.cells) aO.len (by omega) ((h.rd.new g).new a) K rfl hlen λb o V _=>aO.aS v.mem[i] ⟨V,?_⟩
  refine dU (vs:=v.mem[i].cells) rfl (aO.single _) λaz bY U B E=>?_
  rintro br O;have q:ai bY br:=by rw [O];exact cL _
  clear O;have I:=ai.ak q B;have c:=(a.new E).new q;refine ⟨λy=>ai br y,ao.refl _ _,_,λy A=>(ai.ak A I).cell (i:=0) rfl,a9 (λF=>?_) (λF=>⟨_,λy A=>(ai.ak A I).cell (i:=0) rfl,a9 (λG=>?_) (λG=>a9 (λZ=>?_) (λZ=>?_))⟩)⟩
  ·rw [if_pos (j (by unfold t8;rw [l];simp;omega))];exact ⟨rfl,g.new c⟩
  ·rw [if_pos (j (by unfold t8;rw [l];simp;omega))];exact ⟨rfl,g.new c⟩
  ·have L:v.mem[i - 1]?=some v.mem[i - 1]:=bM (by omega);have D:=nL (d:=jn) L;refine ⟨_,λy A=>(ai.ak A I).cell (i:=0) rfl,_,_,_,λy A=>(ai.ak (c.new A) au).cell (i:=1) rfl,?_⟩;refine j8 (cells:=aO.cells) aO.len (by omega) ((h.rd.new g).new c) L (by rw [bA (by omega) (by omega)];omega) hlen λb' Up W=>⟨_,λy A=>W y A 0 _ rfl,a9 (λUi=>?_) (λUi=>?_)⟩
   ·rw [if_pos (j (by unfold t8;rw [l,D];simp;omega))];exact ⟨rfl,g.new c⟩
   ·rw [bA (by omega) (by omega)];refine ⟨v.mem.length - (i+1),by omega,i+1,_,rfl,by omega,rfl,c,λk t=>?_⟩;rcases o0.1 t with t | rfl
    ·exact f k t
    ·unfold t8;rw [l,D];simp;omega
  ·rw [bA (by omega) (by omega)];refine ⟨v.mem.length - (i+1),by omega,i+1,_,rfl,by omega,rfl,c,λk t=>?_⟩;rcases o0.1 t with t | rfl
   ·exact f k t
   ·unfold t8;rw [l];simp;omega
 have J:(List.range v.mem.length).all (t8 n v.mem)=true:=by rw [gd];intro k t;exact f k (by have:=dS.1 t;omega)
 rw [if_neg (by rw [J];simp)];rw [SW];have C:=ai.ak a au;refine ⟨_,_,_,C.cell (i:=1) rfl,?_⟩;refine c1 mix (λm env z=>∃ (i:Nat) (Q:aw),m=v.mem.length - i/\i<=v.mem.length/\env=vK ⟨b1,0,none⟩ r.e8 r.eM r.fv r.eM i Q/\ai Um z/\(v.mem.take i).all l1=true) v.mem.length
  ⟨0,_,by omega,by omega,rfl,a,rfl⟩ ?_
 clear C a f Uk R;rintro m env u ⟨i,Q,rfl,Uk,rfl,a,f⟩;rw [R2];refine a9 (λR=>?_) (λR=>?_)
 ·have p:i<v.mem.length:=by omega
  have K:v.mem[i]?=some v.mem[i]:=bM p;have j:l1 v.mem[i]=false->v.mem.all l1=false:=λe=>by rw [wS];exact ⟨v.mem[i],jw p,by simp [e]⟩
  refine ew (cells:=aO.cells) aO.len (by omega) ((h.rd.new g).new a) K rfl hlen λb o V _=>aO.aS v.mem[i] ⟨V,?_⟩
  refine dU (vs:=v.mem[i].cells) rfl (aO.single _) λaz bY U B E=>?_
  have s:=a.new E;refine ⟨_,B.cell (i:=1) rfl,a9 (λF=>?_) (λF=>⟨_,B.cell (i:=1) rfl,a9 (λG=>?_) (λG=>?_)⟩)⟩
  ·rw [if_pos (j (by unfold l1;simp;omega))];exact ⟨rfl,g.new s⟩
  ·rw [if_pos (j (by unfold l1;simp;omega))];exact ⟨rfl,g.new s⟩
  ·rw [bA (by omega) (by omega)];refine ⟨v.mem.length - (i+1),by omega,i+1,_,rfl,by omega,rfl,s,?_⟩;rw [eT,K,List.all_append,f];simp [l1];omega
 have H:v.mem.take i=v.mem:=gb (by omega);rw [H] at f;rw [if_neg (by rw [f];simp)];rw [SX];have C:=ai.ak a au;refine ⟨_,_,_,C.cell (i:=1) rfl,?_⟩;rw [hlen];refine aD (TX ((h.rd.new g).new a) Uj) ?_;rintro x br ⟨rfl,q⟩;refine ⟨_,rfl,dZ (λX=>?_) (λX=>?_)⟩
 ·rw [if_pos X];exact ⟨rfl,g.new (a.new q)⟩
 ·rw [if_neg (by rw [X];simp)];exact ⟨rfl,g.new (a.new q)⟩
end
section
theorem LK {u:al} {n cap:Nat} {L:List aO} (i:aY u ed 3 a n cap (fW L).flatten) (s:n=L.length) {m:aO} (o:n<=1000000) {K:Nat->an->Nat->Nat->aE}
  (r:∀ b ap e g,b=u.heap.size->aY g ed 3 ap (n+1) e (fW (L++[m])).flatten->ao (aL a) u g->(∀ k,aL ap k->aL a k\/u.heap.size<=k)->K b ap (n+1) e g) :
  ∀ b1 j,b1=u.heap.size->j=u.alloc (.cells m.cells.toArray ed)->∃ (ap:an) (d c:Nat),∃ g,(Builtin.append_ #[yp,yp] yp #[(.slice a n cap),(.slice (some ⟨b1,0,none⟩) 1 1)]).run prog j=.ok (.slice ap d c) g/\K b1 ap d c g:=by
 obtain ⟨inf,q,au,f,p⟩:=fp (T:=ed) (z:=.agg #[.int .i64 0,.int .i64 0,.bool false]) (n:=3) (m:=24) (by kernel_rfl);rw [<-f] at i;refine nI Tryz.underlying33 q au (by rw [f];rfl) (by omega) i (by rw [f];rfl) (aO.single m) (by omega) (by omega) ?_;intro b ap e g l h;rw [f,<-H9] at h;exact r b ap e g l h
end
section
open IntKind
variable (w:al) (R:cp) {i k:Int} {A B:aV} {j:aq}
theorem t9:bd prog f28 [ab i] R w=(aQ w #[ab 0,a3] 35 λg l=>Calls prog 51 #[ab i] l λe j=>cO.ex λb=>∃ a,e=.returned (.tuple #[b.val,ab a])/\aQ j #[ab 0,a3] 35 λh k=>a_ k (af h 0) 0 b.cells λf=>lo f (af h 0) λr=>a_ f (af g 0) 0 r.cells λd=>lo d (af g 0) λc=>d=d/\R c.val d):=by kernel_rfl
def vn (a:Int) (s2 b:aV) (c:Int) (j:aq):aq:=ab a::ag j 0 1 (.pointer (some s2)::ag j 1 1 (.pointer (some b)::ab c::ag j 2 21 []))
def Ej (a b:aV) (j:aq):aq:=ag j 0 2 (.pointer (some a)::ag j 2 1 (.pointer (some b)::ag j 3 22 []))
theorem R3:bd prog f51 [ab i] R w=(aQ w #[ab 0,a3] 35 λc f=>cond (i<1) (a_ f (af c 0) 0 [ab 0,a3] λd=>lo d (af c 0) λa=>d=d/\R (.tuple #[a.val,ab 1]) d) (cond (i>5) (a_ f (af c 0) 0 [ab 0,a3] λe=>lo e (af c 0) λb=>e=e/\R (.tuple #[b.val,ab 1]) e) (aQ f #[ab 0,a3] 35 λg h=>a_ h (af g 0) 0 [ab 0,a3] λj=>cx prog (cY f51 [1,1,1,0,1,0,0]) (vn i (af c 0) (af g 0) 0 (undef::ab 0::ab i::ad (i<1)::ad false::ab i::ad (i>5)::ad (i>5)::undef::.agg #[ab 0,a3]::bx 13 [])) (aW 0 (aZ f51 [1,1,1,1] R)) j))):=by kernel_rfl
theorem PS (h:aq->aE):W prog (sb f51 [1,1,1,0,1,0,0]) (vn i A B k j) (a1 h (aW 0 (aZ f51 [1,1,1,1] R))) w=(cond (k<i) (b0 w (bS B 1) λa b c=>aQ w #[ab k,ab 1,ad true] 116 λg n=>cZ 33 (ae a b c) (ae (bj g) 1 1) n λe d f l=>cE l (bS B 1) (ae e d f) λm=>h (vn i A B (i64.wrap (k+1)) (ag j 0 10 [ab k,ab i,ad (k<i),ab k,ab (i64.wrap (k+1)),bE B 1,ae a b c,ab k,.agg #[ab k,ab 1,ad true],ae (bj g) 1 1,ae e d f,bE B 1,aN j 22])) m) (W prog (sb f51 [1,1,1,1]) (Ej A B (ab i::aN j 0::aN j 1::ab k::ag j 2 8 (ab k::ab i::ad (k<i)::ag j 13 10 []))) (bW f51 R) w)):=by kernel_rfl
theorem QU:W prog (sb f51 [1,1,1,1]) (Ej A B j) (bW f51 R) w=(lo w B λr=>a_ w A 0 r.cells λa=>lo a A λc=>a=a/\R (.tuple #[c.val,ab 0]) a):=by kernel_rfl
end
section
structure NB (v:iI):Prop where
 num:0<=v.number/\v.number<16
 dQ:∀ m ∈ v.mem,1<=m.ch
 ne:v.mem≠[]
 dM:v.mem.length<=5
abbrev Db (A:Nat):a2:=λk=>k<A
theorem NC {A:Nat} {L:List aO} (b:aY w ed 3 a L.length c (fW L).flatten) (f:L.length<=1000000) (d:∀ k,aL a k->A<=k):fG (Db A) w ⟨n,a,L.length,c⟩ ⟨n,L⟩:=
 ⟨rfl,rfl,b.le,b.rd,g0 b.rd λk e h=>Nat.lt_irrefl _ (fF h (d k e)),f⟩
theorem fG.mono {M':a2} {r:cO} {v:iI} (h:fG M w r v) (hm:∀ k,k<w.heap.size->M' k->M k):fG M' w r v:=by
 refine ⟨h.num,h.len,h.cap,h.rd,?_,h.small⟩;rcases h.off with e | e
 ·exact .inl e
 ·rcases h.rd with a | ⟨b,o,a,f⟩
  ·exact .inl a
  ·by_cases he:(fW v.mem).flatten=[]
   ·exact .inl he
   ·rw [a] at e ⊢;refine .inr λd=>e (hm _ ?_ d)
    cases c:(fW v.mem).flatten with
    |nil=>exact absurd c he
    |cons x xs=>exact uj (f 0 x (by rw [c];rfl))
theorem fG.ax {M N:a2} {w w':al} {r:cO} {v:iI} (h:fG M w r v) (d:ao N w w') (b:∀ k,N k->M k):fG M w' r v:=
 ⟨h.num,h.len,h.cap,h.rd.ax d (h.off.imp id λe=>by cases c:r.e8 with
  |none=>exact trivial
  |some a=>rw [c] at e;exact λf=>e (b _ f)),h.off,h.small⟩
def stM (n:Nat):List aO:=(List.range n).map λ(i:Nat)=>⟨(i:Int),1,true⟩
theorem B1 (n:Nat):(stM n).length=n:=by simp [stM]
theorem Jt (n:Nat):stM (n+1)=stM n++[⟨(n:Int),1,true⟩]:=by simp [stM,k0]
theorem Ju {n:Nat} {m:aO} (h:m ∈ stM n):1<=m.ch:=by simp only [stM,cD] at h;obtain ⟨i,_,rfl⟩:=h;exact Int.le_refl _
theorem H_ (w:al) (y:1<=n) (Ui:n<=5):ba 51 [.int .i64 n] w λx w'=>∃ (a:an) (c:Nat) (L:List aO),x=.tuple #[cO.val ⟨0,a,L.length,c⟩,.int .i64 0]/\aY w' ed 3 a L.length c (fW L).flatten/\ai w w'/\L=stM n.toNat/\(∀ k,aL a k->w.heap.size<=k):=by
 refine bc Tryz.func51 ?_;rw [R3];rintro b1 w1 J G;obtain ⟨h,A⟩:=bk J G;have h:av w1 b1 (cO.cells ⟨0,none,0,0⟩) mu:=h;clear G;refine a9 (λO=>absurd O (by omega)) (λ_=>a9 (λO=>absurd O (by omega)) (λ_=>?_))
 refine dU (vs:=cO.cells ⟨0,none,0,0⟩) rfl (cO.single _) λaz Ul T P B=>?_
 have H:=ai.ak B h;have z:=A.new B;have X:=A.size;have Q:=h.lt;refine c1 mix (λm env u=>∃ (i:Nat) (a:an) (c:Nat) (L:List aO) (R:aw),m=n.toNat - i/\i<=n.toNat/\env=vn n ⟨b1,0,none⟩ ⟨az,0,none⟩ i R/\ai w u/\av u b1 (cO.cells ⟨0,none,0,0⟩) mu/\av u az (cO.cells ⟨0,a,L.length,c⟩) mu/\aY u ed 3 a L.length c (fW L).flatten/\(∀ k,aL a k->az<k)/\L=stM i) n.toNat
  ⟨0,none,0,[],_,by omega,by omega,rfl,z,H,P,aY.nil _ _ _,(λk f=>by obtain ⟨o,V⟩:=f;cases V),rfl⟩ ?_
 rintro m env u ⟨i,a,c,L,R,rfl,Uj,rfl,C,t,g,l,d,p⟩;have S:L.length=i:=by rw [p,B1]
 rw [PS];refine a9 (λW=>?_) (λW=>?_)
 ·refine ⟨_,_,_,g.cell (i:=1) rfl,?_⟩;refine LK l rfl (m:=⟨i,1,true⟩) (by omega) ?_;intro Z ap cap br U N r I;have D:=r.ak t λe=>by have:=d b1 e;omega
  have E:=r.ak g λe=>by have:=d az e;omega
  have Y:=g.lt;have j:∀ k,aL ap k->az<k:=λk f=>by
   rcases I k f with y | y
   ·exact d k y
   ·omega
  refine rT (b:=az) E (o:=0+1) (by simp [cO.cells]) λUk F s=>?_
  rw [bA (by omega) (by omega)];refine ⟨n.toNat - (i+1),by omega,i+1,ap,cap,L++[⟨i,1,true⟩],_,rfl,by omega,rfl,?_,s.ak D (by omega),?_,?_,j,by rw [p,Jt]⟩
  ·have y:ai w br:=q8 C r λk f=>by have:=d k f;omega
   exact y.trans s λk M e=>by omega
  ·rw [c8];exact F
  ·rw [c8];exact aY.ax s N λk f e=>by have:=j k f;omega
 ·have K:i=n.toNat:=by omega
  rw [QU];refine cO.aS ⟨0,a,L.length,c⟩ ⟨bI g rfl,?_⟩;refine ⟨fI t (by simp [cO.cells]) (cO.single _),λbY hu=>?_⟩;have f:ao (λk=>k=b1) u bY:=by rw [hu];exact ht _ _ _ _ _
  have au:av bY b1 (cO.cells ⟨0,a,L.length,c⟩) mu:=by rw [hu];exact t.cl
  refine cO.aS ⟨0,a,L.length,c⟩ ⟨bI au rfl,rfl,a,c,L,rfl,?_,?_,by rw [p,K],?_⟩
  ·exact aY.ax f l λk q e=>by have:=d k q;omega
  ·exact C.trans f λk M e=>by omega
  ·intro k q;have:=d k q;omega
theorem B2 (w:al) (F:1<=n) (G:n<=5):ba 28 [.int .i64 n] w λx w'=>∃ r v,x=cO.val r/\fG (Db w.heap.size) w' r v/\ai w w'/\NB v/\v=⟨0,stM n.toNat⟩:=by
 refine bc Tryz.func28 ?_;rw [t9];rintro b1 w1 z y;obtain ⟨l,q⟩:=bk z y;have l:av w1 b1 (cO.cells ⟨0,none,0,0⟩) mu:=l;clear y;refine aD (H_ w1 F G) ?_;rintro v M ⟨a,c,L,rfl,u,s,f,B⟩;have p:(L.length:Int)=n:=by rw [f,B1];omega
 have A:∀ m ∈ L,1<=m.ch:=λm hm=>Ju (f▸hm)
 refine cO.aS ⟨0,a,L.length,c⟩ ⟨_,rfl,?_⟩;refine dU (vs:=cO.cells ⟨0,a,L.length,c⟩) rfl (cO.single _) λaz K H D j=>?_
 refine cO.aS ⟨0,a,L.length,c⟩ ⟨bI D rfl,?_⟩;have d:=ai.ak (s.new j) l;have b:=aY.new j u;refine ⟨fI d (by simp [cO.cells]) (cO.single _),λbY hu=>?_⟩;have E:ao (λk=>k=b1) K bY:=by rw [hu];exact ht _ _ _ _ _
 have au:av bY b1 (cO.cells ⟨0,a,L.length,c⟩) mu:=by rw [hu];exact d.cl
 have C:∀ k,aL a k->k≠b1:=λk i e=>by
  subst e;obtain ⟨o,t⟩:=i;rcases b.2 with ⟨h,_⟩ | ⟨g,cur,he,I,_⟩
  ·rw [h] at t;cases t
  ·rw [he] at t;simp at t;exact absurd (I.uniq (t.1▸d)).2 (by decide)
 refine cO.aS ⟨0,a,L.length,c⟩ ⟨bI au rfl,rfl,_,⟨0,L⟩,rfl,NC (aY.ax E b C) (by omega) (λk i=>by have:=B k i;have:=q.size;omega),?_,⟨⟨by simp,by simp⟩,A,λe=>?_,?_⟩,by rw [f]⟩
 ·exact (q.new (s.new j)).trans E λk J e=>by omega
 ·have e:L=[]:=e;rw [e] at p;simp at p <;> omega
 ·show L.length<=5;omega
end
section
open IntKind
variable (w:al) (R:cp) {X:a0} {a:Nat} {i k:Int} {j:aq}
theorem Gx (a b c d f g:Int) (h:an) (i k:Nat) (l m:Int) (w:al) (R:cp):bd prog f130 [.agg #[ab a,ab b,ab c,ab d,ah f,ah g,ae h i k,ah l,ab m]] R w=(aQ w #[ab a,ab b,ab c,ab d,ah f,ah g,ae h i k,ah l,ab m] 158 λb1 w1=>bG w1 (af b1 0) λn=>cond (n == 1) (bG w1 (af b1 3) λe=>R (ab e) w1) (cond (n == 2) (b0 w1 (af b1 6) λo p q=>R (ab (p:Nat)) w1) (cond (n == 3) (cond (n == 3) (R (ab 1) w1) (R (ab 0) w1)) (cond (n == 4) (R (ab 1) w1) (R (ab 0) w1))))):=by kernel_rfl
theorem TY (a b c d f g:Int) (h:an) (i k:Nat) (l m:Int) (w:al) (R:cp):bd prog f138 [.agg #[ab a,ab b,ab c,ab d,ah f,ah g,ae h i k,ah l,ab m]] R w=(aQ w #[ab a,ab b,ab c,ab d,ah f,ah g,ae h i k,ah l,ab m] 158 λb1 w1=>R (.func (.func 186) #[] #[a' b1]) w1):=by kernel_rfl
def vD (a:a0) (b c:Int) (j:aq):aq:=a::ag j 0 2 (ab b::ab c::ag j 2 24 [])
theorem Tr:bd prog f186 [X,a' a] R w=(cu w λq j=>cP j (af a 2) λo=>lZ j (af a 0) λe b c n d f g h i k l=>cm 130 #[.agg #[ab e,ab b,ab c,ab n,ah d,ah f,ae g h i,ah k,ab l]] q λm p=>j p/\cx prog (cY f186 [1,0,0]) (vD X o m (jp (af a 0)::bx 2 (jp (af a 2)::ab o::.agg #[ab e,ab b,ab c,ab n,ah d,ah f,ae g h i,ah k,ab l]::ab m::bx 19 []))) (aW 0 (bW f186 R)) p):=by kernel_rfl
theorem Q3 (b:aq->aE):W prog (sb f186 [1,0,0]) (vD X i k j) (a1 b (aW 0 (bW f186 R))) w=(cond (k>0) (ix prog X #[.agg #[ab i,ab (if ((i64.wrap (8 - (Int.tmod i 8))):Int)<k then ((i64.wrap (8 - (Int.tmod i 8))):Int) else k)]] w λe c=>∃ a,e=.returned (ad a)/\cond (!a) (R (.tuple #[]) c) (b (vD X (i64.wrap (i+(if ((i64.wrap (8 - (Int.tmod i 8))):Int)<k then ((i64.wrap (8 - (Int.tmod i 8))):Int) else k))) (i64.wrap (k - (if ((i64.wrap (8 - (Int.tmod i 8))):Int)<k then ((i64.wrap (8 - (Int.tmod i 8))):Int) else k))) (aN j 0::aN j 1::ab (if ((i64.wrap (8 - (Int.tmod i 8))):Int)<k then ((i64.wrap (8 - (Int.tmod i 8))):Int) else k)::ag j 3 4 [ab k,ad (k>0),ab k,ab i,ab (Int.tmod i 8),ab (i64.wrap (8 - (Int.tmod i 8))),ab (if ((i64.wrap (8 - (Int.tmod i 8))):Int)<k then ((i64.wrap (8 - (Int.tmod i 8))):Int) else k),X,ab i,ab (if ((i64.wrap (8 - (Int.tmod i 8))):Int)<k then ((i64.wrap (8 - (Int.tmod i 8))):Int) else k),.agg #[ab i,ab (if ((i64.wrap (8 - (Int.tmod i 8))):Int)<k then ((i64.wrap (8 - (Int.tmod i 8))):Int) else k)],ad a,ad (!a),ab i,ab (if ((i64.wrap (8 - (Int.tmod i 8))):Int)<k then ((i64.wrap (8 - (Int.tmod i 8))):Int) else k),ab (i64.wrap (i+(if ((i64.wrap (8 - (Int.tmod i 8))):Int)<k then ((i64.wrap (8 - (Int.tmod i 8))):Int) else k))),ab k,ab (if ((i64.wrap (8 - (Int.tmod i 8))):Int)<k then ((i64.wrap (8 - (Int.tmod i 8))):Int) else k),ab (i64.wrap (k - (if ((i64.wrap (8 - (Int.tmod i 8))):Int)<k then ((i64.wrap (8 - (Int.tmod i 8))):Int) else k)))])) c)) (R (.tuple #[]) w)):=by kernel_rfl
end
section
theorem iy {v:aF} (h:b7 w bu 0 v.cells)
  (a:K v.Kind v.Node v.bQ v.N v.Old v.ai v.Words v.cG v.cy v.Key v.ch) :
  ∃ (Kind:Int) (Node:Int) (bQ:Int) (N:Int) (Old:Int) (ai:Int) (Words:an) (cG:Nat) (cy:Nat) (Key:Int) (ch:Int),
   b7 w bu 0 [.int .i64 Kind,.int .i64 Node,.int .i64 bQ,.int .i64 N,.int .u64 Old,.int .u64 ai,.slice Words cG cy,.int .u64 Key,.int .i64 ch]/\K Kind Node bQ N Old ai Words cG cy Key ch:=
 ⟨_,_,_,_,_,_,_,_,_,_,_,h,a⟩
theorem l3 {S:aE} {v:aF} (h:∀ u,S u->b7 u bu 0 v.cells)
  (a:K v.Kind v.Node v.bQ v.N v.Old v.ai v.Words v.cG v.cy v.Key v.ch) :
  ∃ (Kind:Int) (Node:Int) (bQ:Int) (N:Int) (Old:Int) (ai:Int) (Words:an) (cG:Nat) (cy:Nat) (Key:Int) (ch:Int),
   (∀ u,S u->b7 u bu 0 [.int .i64 Kind,.int .i64 Node,.int .i64 bQ,.int .i64 N,.int .u64 Old,.int .u64 ai,.slice Words cG cy,.int .u64 Key,.int .i64 ch])/\K Kind Node bQ N Old ai Words cG cy Key ch:=
 ⟨_,_,_,_,_,_,_,_,_,_,_,h,a⟩
abbrev cr:TypeId:=158
theorem gF {b:Nat} {v:aF} (h:av w b v.cells cr):b7 w ⟨b,0,none⟩ 0 v.cells:=bI h (by simp [aF.cells])
theorem nQ (w:al) (v:aF):av (w.alloc (.cells v.cells.toArray cr)) w.heap.size v.cells cr:=oz _ _ _
def aF.count (v:aF):Int:=if v.Kind=1 then v.N else if v.Kind=2 then v.cG else if v.Kind=3\/v.Kind=4 then 1 else 0
theorem uk (w:al) (v:aF):ba 130 [v.val] w λx w'=>x=.int .i64 v.count/\ai w w':=by
 refine bc Tryz.func130 ?_;refine Eq.mpr (Gx v.Kind v.Node v.bQ v.N v.Old v.ai v.Words v.cG v.cy v.Key v.ch w _) ?_;rintro b1 w1 rfl rfl;have f:=nQ w v;have a:=gY w (.cells v.cells.toArray cr);refine ⟨_,f.cell rfl,dJ (λc=>⟨_,f.cell rfl,?_,a⟩) (λc=>dJ (λd=>⟨_,_,_,f.cell rfl,?_,a⟩) (λd=>dJ (λb=>dJ (λ_=>⟨?_,a⟩) (λh=>absurd b h)) (λb=>dJ (λe=>⟨?_,a⟩) (λe=>⟨?_,a⟩))))⟩
 ·simp [aF.count,c]
 ·simp [aF.count,d]
 ·simp [aF.count,b]
 ·simp [aF.count,e]
 ·simp [aF.count,c,d,b,e]
end
section
open Go.RowKit
def DW (x:Int×Int):Array a0:=#[.agg #[.int .i64 x.1,.int .i64 x.2]]
def gI:Nat->Int->Int->List (Int×Int)
 | 0,_,_=>[]
 |f+1,at_,left=>if left<=0 then [] else (at_,if 8 - at_ % 8<left then 8 - at_ % 8 else left)::
   gI f (at_+(if 8 - at_ % 8<left then 8 - at_ % 8 else left)) (left - (if 8 - at_ % 8<left then 8 - at_ % 8 else left))
def aF.pieces (v:aF):List (Int×Int):=gI v.count.toNat v.bQ v.count
theorem GX {w':al} (h:Go.bn.ai w w'):w.grownBy w' none:=⟨h.os,h.tape,h.output,h.size,λk a _=>h.block k a id⟩
theorem H' {m:Nat} {l:Nat} {args:Array a0} {W:al} {R:Ending->aE} (h:YieldAt Fence.wide m P l args W R) (k:Nat):YieldAt Fence.wide k P l args W R:=by obtain ⟨fn,tmps,assign,body,b,a⟩:=h;exact ⟨fn,tmps,assign,body,b,a.1,λc cs _=>a.2 c cs (room_wide _)⟩
theorem Fd (n l c Q:Nat) (v:aF) (a8 t:List (Int×Int)->aE) (z:0<=v.bQ) (H:v.bQ<=1000000) (I:1<=v.count) (J:v.count<=1000000) (W:al)
  (F:AbidesFrom W.heap.size a8) (G:∀ pre x W,a8 pre W->pre.length<v.pieces.length->YieldAt Fence.wide (n - 1) prog l (DW x) W λe W'=>
   (e=.returned (.bool true)/\a8 (pre++[x]) W'/\Below Q W W')\/(e=.returned (.bool false)/\t (pre++[x]) W'))
  (d:∀ u,Below (c+1) W u->b7 u ⟨c,0,none⟩ 0 v.cells) (T:c+1<=W.heap.size) (E:a8 [] W) :
  CallsIn Fence.wide n prog 186 #[.func (.yield l) #[] #[],.pointer (some ⟨c,0,none⟩)] W λe W'=>(∃ v,e=.returned v)/\
   ((∃ ys,ys=v.pieces/\a8 ys W')\/(∃ pre,pre <+: v.pieces/\t pre W')):=by
 refine callsIn_wide.2 (Calls.mono (R:=λe w'=>∃ x,e=.returned x/\((∃ ys,ys=v.pieces/\a8 ys w')\/(∃ pre,pre <+: v.pieces/\t pre w'))) ?_ λe w' ⟨x,O,N⟩=>⟨⟨x,O⟩,N⟩);refine bc Tryz.func186 (args:=[.func (.yield l) #[] #[],.pointer (some ⟨c,0,none⟩)]) (R:=λ_ w'=>(∃ ys,ys=v.pieces/\a8 ys w')\/(∃ pre,pre <+: v.pieces/\t pre w')) ?_;rw [Tr];intro w1 s;have p:Go.bn.ai W w1:=by rw [s];exact cL _
 clear s;have j:∀ u,Go.bn.ai w1 u->Below (c+1) W u:=λu hu=>(p.new hu).below (by omega) λ_ _ h=>h
 refine ⟨λu=>Go.bn.ai w1 u,ao.refl _ _,v.bQ,λu hu=>?_,?_⟩
 ·have:=d u (j u hu);exact this.2.2.1
 refine l3 (v:=v) (λu hu=>d u (j u hu)) ?_;refine aD (uk _ v) ?_;rintro r S ⟨rfl,q⟩;refine ⟨_,rfl,q,?_⟩;have w:a8 [] S:=F _ _ _ none E (GX (p.new q)) (λ_ h=>by cases h);refine c1 mix (λm env u=>∃ (f:Nat) (at_ left:Int) (D:aw) (pre:List (Int×Int)),m=f/\left<=f/\0<=at_/\0<=left/\at_+left<=2000000/\env=vD (.func (.yield l) #[] #[]) at_ left D/\v.pieces=pre++gI f at_ left/\a8 pre u) v.count.toNat
  ⟨v.count.toNat,v.bQ,v.count,_,[],rfl,by omega,z,by omega,by omega,rfl,rfl,w⟩ ?_
 rintro f env u ⟨_,at_,left,D,pre,rfl,L,A,hle,C,rfl,a,g⟩;rw [Q3];refine a9 (λM=>?_) (λM=>?_)
 ·obtain ⟨f',rfl⟩:∃ f',f=f'+1:=⟨f - 1,by omega⟩;have o:Int.tmod at_ 8=at_ % 8:=wR A
  rw [o,bA (x:=8 - at_ % 8) (by omega) (by omega)];generalize B:(if 8 - at_ % 8<left then 8 - at_ % 8 else left)=k;have K:1<=k/\k<=left/\k<=8:=by rw [<-B];split<;>omega
  have b:gI (f'+1) at_ left=(at_,k)::gI f' (at_+k) (left - k):=by rw [gI,if_neg (by omega),B]
  rw [b] at a;have P:=H' (G pre (at_,k) u g (by rw [a];simp)) 0;refine Exists.imp (λfn=>Exists.imp λtmps=>Exists.imp λassign=>Exists.imp λbody=>And.imp id λh=>RoundIn.mono h ?_) P;rintro e U (⟨rfl,y,_⟩ | ⟨rfl,i⟩)
  ·refine ⟨_,rfl,dw rfl ?_⟩;rw [bA (by omega) (by omega),bA (by omega) (by omega)];refine ⟨f',by omega,f',at_+k,left - k,_,pre++[(at_,k)],rfl,by omega,by omega,by omega,by omega,rfl,by rw [a];simp,y⟩
  ·exact ⟨_,rfl,fK rfl (.inr ⟨_,⟨gI f' (at_+k) (left - k),by rw [a];simp⟩,i⟩)⟩
 ·refine .inl ⟨pre,?_,g⟩;have:left=0:=by omega
  subst this;rw [a];cases f<;>simp [gI]
end
section
open Go.RowKit
theorem vR:∀ (f:Nat) (at_ left:Int),0<=at_->∀ p ∈ gI f at_ left,at_<=p.1/\1<=p.2/\p.2<=8/\p.1+p.2<=at_+left
 | 0,_,_,_,p,a=>by simp [gI] at a
 |f+1,at_,left,b,p,a=>by
  unfold gI at a;split at a
  ·simp at a
  ·rename_i c;rcases dy.1 a with rfl | a
   ·simp only;split<;>omega
   ·have:=vR f _ _ (by split<;>omega) p a;split at this<;>omega
theorem FD (f:Nat) (at_ left:Int) (h:1<=left) (a:1<=f):gI f at_ left≠[]:=by
 cases f with
 |zero=>omega
 |succ f=>unfold gI;rw [if_neg (by omega)];simp
theorem pI:∀ (f:Nat) (at_ left:Int),(gI f at_ left).length<=f
 | 0,_,_=>by simp [gI]
 |f+1,at_,left=>by
  unfold gI;split
  ·simp
  ·simp only [fU];have:=pI f (at_+(if 8 - at_ % 8<left then 8 - at_ % 8 else left)) (left - (if 8 - at_ % 8<left then 8 - at_ % 8 else left));omega
def m0 (cn:List (Int×Int)):List aw:=cn.map λp=>[.int .i64 p.1,.int .i64 p.2]
theorem I0 (cn:List (Int×Int)):∀ r ∈ m0 cn,r.length=2:=by intro r a;simp only [m0,cD] at a;obtain ⟨v,_,rfl⟩:=a;rfl
theorem I1 {cn:List (Int×Int)} {p:Int×Int} (h:cn[i]?=some p):(m0 cn)[i]?=some [.int .i64 p.1,.int .i64 p.2]:=by simp [m0,h]
abbrev pq:TypeId:=185
end
section
open Go.RowKit
theorem x_ (hm:P.follows .mixedOrders=true) {a b:Code} {N:aw->aE} (h:W P a env (a1 N (λ_ _ _=>False)) w) (i:∀ env w,N env w->b.wp P Q (act env) w):(Code.seq a b).wp P Q (act env) w:=by
 refine wp_seq (wp_mono (oJ hm a env _ w h) λe k w' f=>?_);obtain ⟨he,d,j,g⟩:=pO f;subst j;clear f;cases e with
 |normal=>exact i d w' g
 |panic c=>exact absurd rfl (he.1 c)
 |outgrown=>exact absurd rfl he.2
 | _=>exact g.elim
theorem Jv (w:al) (v:aF):ba 138 [v.val] w λr w'=>r=.func (.func 186) #[] #[.pointer (some ⟨w.heap.size,0,none⟩)]/\av w' w.heap.size v.cells cr/\Go.bn.ai w w'/\w'.heap.size=w.heap.size+1:=by refine bc Tryz.func138 ?_;refine Eq.mpr (TY v.Kind v.Node v.bQ v.N v.Old v.ai v.Words v.cG v.cy v.Key v.ch w _) ?_;rintro b1 w1 a b;obtain ⟨au,c⟩:=bk a b;refine ⟨by rw [a],a▸au,c,by rw [b];simp⟩
theorem N6 (v:aF) (w:al) (N:aw->aE):W prog (sub (bh f98) [0]) [v.val,undef,undef,undef,undef,undef,undef,undef,undef,undef,undef,undef,undef] (a1 N (λ_ _ _=>False)) w =
  (∀ b1 w1,b1=w.heap.size->w1=w.alloc (.cells v.cells.toArray 158)->N [v.val,.pointer (some ⟨b1,0,none⟩),.slice none 0 0,undef,undef,undef,undef,undef,undef,undef,undef,undef,undef] w1):=by kernel_rfl
theorem N7 (v x:a0) (b:Nat) (w:al) (N:aw->aE):W prog (sub (bh f98) [1,0]) [v,.pointer (some ⟨b,0,none⟩),x,undef,undef,undef,undef,undef,undef,undef,undef,undef,undef] (a1 N (λ_ _ _=>False)) w =
  (∀ b1 w1,b1=w.heap.size->w1=w.alloc (.cells #[.slice none 0 0] 181)->N [v,.pointer (some ⟨b,0,none⟩),x,.pointer (some ⟨b1,0,none⟩),undef,undef,undef,undef,undef,undef,undef,undef,undef] w1):=by kernel_rfl
def xk (o:Oper):Bool:=match o.op with | .defer _=>false | _=>true
def plain:Code->Bool
 | .region _ ops false=>ops.toList.all xk
 | _=>false
theorem Ia {o:Oper} {a:Act} {next next':Act->aE} (r n:Nat) (g:∀ a w,next a w->next' a w):∀ {x:Result Next},o.uponIn Fence.wide 0 P a next Q x->o.uponIn (Fence.wide.inRound r) n P a next' Q x
 | .ok (.value v) w',h=>g _ _ h
 | .ok .skip w',h=>g _ _ h
 | .ok (.defer d) w',h=>g _ _ h
 | .ok (.enter f args) w',h=>by
  refine ⟨λi=>by simp [Fence.wide] at i,trivial,λcs _=>?_⟩;obtain ⟨e,k,fO,b,j,p⟩:=h.2.2 cs (room_wide _);refine ⟨e,k,fO,?_,j,p⟩;cases e with
  |returned v=>exact g _ _ b
  |panicked c=>exact b
  |outgrown=>exact b
 | .ok (.row row args) w',h=>by refine ⟨λi=>by simp [Fence.wide] at i,λc cs _=>?_⟩;obtain ⟨v,k,b,j⟩:=h.2 c cs (room_wide _);exact ⟨v,k,g _ _ b,j⟩
 | .ok (.round l f tmps assign body) w',h=>by
  refine ⟨λi=>by simp [Fence.wide] at i,trivial,λc cs _=>?_⟩;obtain ⟨e,k,b,j⟩:=h.2.2 c cs (room_wide _);refine ⟨e,k,?_,j⟩;cases e with
  |returned v=>exact g _ _ b
  |panicked c=>exact b
  |outgrown=>exact b
 | .halt (.panic v) w',h=>h
 | .halt (.stuck s) w',h=>by cases h
theorem F' {P:Program} {ops:Array Oper} {Q:Exit->Act->aE} (r n:Nat):∀ (l:List Oper) (a:Act) (w:al),(∀ o ∈ l,xk o=true)->wpListIn Fence.wide 0 P ops Q l a w->wpListIn (Fence.wide.inRound r) n P ops Q l a w
 | [],_,_,_,h=>h
 |o::l,a,w,aA,h=>by
  have d:=λa w=>F' (P:=P) (ops:=ops) (Q:=Q) r n l a w λo f=>aA o (e2 _ f)
  unfold wpListIn at h ⊢;split at h
  ·rename_i hw;rw [if_pos hw];refine ⟨λ_ _=>trivial,?_⟩;have b:=h.2;rw [show Fence.wide.round=none from rfl,Oper.semAt_none] at b;rw [show (Fence.wide.inRound r).round=some r from rfl,Oper.semAt_some _ _ _ (λc e=>by have:=aA o d_;simp [xk,e] at this)];exact Ia r n d b
  ·rename_i hw;rw [if_neg hw];exact ⟨λ_ _=>trivial,d _ _ h.2⟩
theorem BT {c:Code} (a:plain c=true) {Q:Exit->aw->aE} (r n:Nat) (h:W P c env Q w):c.wpIn (Fence.wide.inRound r) n P (o7 Q) (act env) w:=by
 cases c with
 |region id ops d=>
  cases d with
  |true=>simp [plain] at a
  |false=>unfold W at h;refine wpIn_region_list (F' r n _ _ _ (λo e=>?_) (nJ (all:=ops.toList) ops.toList env w (Q .normal) (λenv w b=>iK b ⟨λ_=>by simp,by simp⟩) h));simp only [plain,gd] at a;exact a o e
 | _=>simp [plain] at a
theorem N8 (v x:a0) (b az:Nat) (w:al) (N:aw->aE):W prog (sub (bh f98) [1,1,0,0]) [v,.pointer (some ⟨b,0,none⟩),x,.pointer (some ⟨az,0,none⟩),undef,undef,undef,undef,undef,undef,undef,undef,undef] (a1 N (λ_ _ _=>False)) w =
  (∃ (Kind:Int) (Node:Int) (bQ:Int) (d:Int) (Old:Int) (ai:Int) (Words:an) (c:Nat) (a:Nat) (Key:Int) (ch:Int),b7 w ⟨b,0,none⟩ 0 [(.int .i64 Kind),(.int .i64 Node),(.int .i64 bQ),(.int .i64 d),(.int .u64 Old),(.int .u64 ai),(.slice Words c a),(.int .u64 Key),(.int .i64 ch)]/\
   Calls prog 138 #[(.agg #[(.int .i64 Kind),(.int .i64 Node),(.int .i64 bQ),(.int .i64 d),(.int .u64 Old),(.int .u64 ai),(.slice Words c a),(.int .u64 Key),(.int .i64 ch)])] w λe f=>∃ r,e=.returned r/\
    N [v,.pointer (some ⟨b,0,none⟩),x,.pointer (some ⟨az,0,none⟩),undef,(.agg #[(.int .i64 Kind),(.int .i64 Node),(.int .i64 bQ),(.int .i64 d),(.int .u64 Old),(.int .u64 ai),(.slice Words c a),(.int .u64 Key),(.int .i64 ch)]),r,undef,undef,undef,undef,undef,undef] f):=by kernel_rfl
theorem ND (v x y z r:a0) (az:Nat) (p:Int×Int) (w:al) (N:aw->aE):W prog (sub (bh f98) [1,1,0,1,0,0]) [v,y,x,.pointer (some ⟨az,0,none⟩),undef,z,r,.agg #[.int .i64 p.1,.int .i64 p.2],undef,undef,undef,undef,undef] (a1 N (λ_ _ _=>False)) w =
  (∀ b1 w1,b1=w.heap.size->w1=w.alloc (.cells #[.int .i64 0,.int .i64 0] pq)->dR w1 ⟨b1,0,none⟩ 0 [.int .i64 p.1,.int .i64 p.2]/\∀ a,a=cl w1 ⟨b1,0,none⟩ 0 [.int .i64 p.1,.int .i64 p.2]->
   N [v,y,x,.pointer (some ⟨az,0,none⟩),.pointer (some ⟨b1,0,none⟩),z,r,.agg #[.int .i64 p.1,.int .i64 p.2],undef,undef,undef,undef,undef] a):=by kernel_rfl
theorem NF (v x y z r t:a0) (az f:Nat) (w:al) (N:aw->aE):W prog (sub (bh f98) [1,1,0,1,0,1,0]) [v,y,x,.pointer (some ⟨az,0,none⟩),.pointer (some ⟨f,0,none⟩),z,r,t,undef,undef,undef,undef,undef] (a1 N (λ_ _ _=>False)) w =
  (∃ (a:an) (n c:Nat),w.cell? ⟨az,0,none⟩=some (.slice a n c)/\∃ (g h:Int),b7 w ⟨f,0,none⟩ 0 [.int .i64 g,.int .i64 h]/\∀ b1 w1,b1=w.heap.size->w1=w.alloc (.cells #[.int .i64 g,.int .i64 h] pq)->
   ∃ (ap:an) (d b:Nat),∃ e,(Builtin.append_ #[181,181] 181 #[(.slice a n c),(.slice (some ⟨b1,0,none⟩) 1 1)]).run prog w1=.ok (.slice ap d b) e/\
    (∃ u,e.cell? ⟨az,0,none⟩=some u)/\e.frozen? ⟨az,0,none⟩=false/\∀ i,i=e.setCell ⟨az,0,none⟩ (.slice ap d b)->
    N [v,y,x,.pointer (some ⟨az,0,none⟩),.pointer (some ⟨f,0,none⟩),z,r,t,.slice a n c,.agg #[.int .i64 g,.int .i64 h],.slice (some ⟨b1,0,none⟩) 1 1,.slice ap d b,undef] i):=by kernel_rfl
end
end Go.Proofs.YtmkljjbioomepaaGreat
